/-
  The inverse of a matrix by reduced echelon form (the reference of layer 9).
-/
import Derived.Test.YthgjfcjecnmflaaGreatB2
import Derived.Test.YthgjfcjecnmflaaGreatB8
import Derived.Test.YthgjfcjecnmflaaGreatB11
import Derived.Test.YthgjfcjecnmflaaGreatB10
import Derived.Test.YthgjfcjecnmflaaGreatB1
set_option linter.unusedSimpArgs false
set_option linter.unusedVariables false
set_option linter.unnecessarySimpa false
namespace Go.e8
open F
attribute [local irreducible] AA AF AM AE C8 AX BF BD B9 B2 CX E9 B0 A5 B5 CQ AB A7 AJ pw BR BO C4 D0 DZ DU DN BZ DW
variable {L:Lib}
set_option maxHeartbeats 16000000
set_option maxRecDepth 8000
theorem iC (N:w7 L) {x y:Rat} {k l:Nat} (hx:Bt k x) (hy:Bt l y) (hk:k<2199023255552) (hl:l<2199023255552) (h0:y≠0):Ev L 276 [.agg (eQ x),.agg (eQ y)] (.agg (eQ (x/y))):=by
 have hD:=Xw N.ton7 hx hy hk hl h0;refine Ev.x N.MQ rfl rfl ?_;(repeat' ((first|(apply AG<;>intro hc<;>try omega)|apply AD|refine AC (hD) ?_)<;>conv=>whnf))
 exact AW rfl (D9 _)
theorem Rl {R:List (Option (Nat × List (List AV)))} {e:Nat} {r:Option (Nat × List (List AV))} {K:Option (Nat × List (List AV))->Prop} (h:R[e]? = some r) (hk:K r):BR R e K:=by
 unfold BR;exact ⟨r,h,hk⟩
theorem jS {α:Type} {a b:List α} {j:Nat} {x:α} (hl:a.length=b.length) (hx:b[j]? = some x):(a.take j++b.drop j)[j]? = some x:=by
 have h1:=(zS hx).1;have ht:(a.take j).length=j:=by rw[List.length_take];omega
 rw[List.getElem?_append_right (by omega),ht,Nat.sub_self,List.getElem?_drop];exact hx
theorem jT {α:Type} {a b:List α} {j:Nat} {y:α} (hl:a.length=b.length) (hy:a[j]? = some y):(a.take j++b.drop j).set j y=a.take (j+1)++b.drop (j+1):=by
 have h1:=(zS hy).1;have ht:(a.take j).length=j:=by rw[List.length_take];omega
 rw[List.set_append_right _ _ (by omega),ht,Nat.sub_self,List.drop_eq_getElem_cons (by omega),List.set_cons_zero,List.take_add_one,hy,List.append_assoc];rfl
def FE (k0:Nat):Nat->Nat
 | 0=>k0
 | c+1=>4*FE k0 c+1
theorem wX (k0:Nat) {c:Nat} : ∀ d,FE k0 c<=FE k0 (c+d)
 | 0=>Nat.le_refl _
 | d+1=>by
  have:=wX k0 (c:=c) d
  show FE k0 c<=4*FE k0 (c+d)+1;omega
theorem wY (N:w7 L) (q1 q2 q3 q4:Bool) (a b T:List (List Rat)) (n W K:Nat) (hn:1<=n/\n<=10) (hW:1<=W/\W<=10) (hK:K<=10000000000) {m:List (List Rat)} {k c:Nat} {d:Rat} {t:List Rat} (hR:DP T b n W m k c) (hM:Ms K m) (Az:k<n) (nw:c<n) (ht:m[k]? = some t) (hp:t.getD c 0≠0) {kk:List It} {Q:Tm->Mem->Prop}
  (bu : ∀ m2:List (List Rat),DP T b n W m2 (k+1) (c+1)->Ms (4*K+1) m2->AA L (.lp F8.l1 :: .e7 0::kk) ([(8,.int .i64 ((c+1:Nat):Int)),(6,.int .i64 ((k+1:Nat):Int)),(7,.ptr 901007 0 0 0),(5,.ptr 901005 0 0 0),(0,.row 277003 0 1 0 n),(0+1,.int .i64 n)]++[(1000+38,.int .i64 n),(1000+37,.sl q1 (CE q2 a)),(1000+36,.row 277003 0 1 0 n),(1000+20,.bool false),(1000+19,.int .i64 n),(1000+18,.int .i64 n),(1000+6,.row 277003 0 1 0 n),(1000+0,.sl q1 (CE q2 a)),(1000+(0+1),.sl q3 (CE q4 b))]) [(277003,277003,.mx (BM 3 eQ m2)),(901007,901007,.bx (eQ d)),(901005,901005,.bx [.bool false,.nil,.nil])] Q) :
  AA L (.lp F8.l3 :: .e7 4 :: .code ((((A9.ops F8.gm false).dr [10,82,83,84,102] []).seq (A9.block 6 F8.l4.loop)).seq ((A9.ops F8.Bq false).dr [103,104,105,155,156] [])) :: .e7 1 :: .code ((A9.ops F8.r4 false).dr [9,25,26,48] []) :: .lp F8.l1 :: .e7 0::kk)
   ([(83,.int .i64 ((0:Nat):Int)),(82,.int .i64 ((n+W:Nat):Int)),(10,.ptr 901010 0 0 0),(8,.int .i64 c),(6,.int .i64 k),(7,.ptr 901007 0 0 0),(5,.ptr 901005 0 0 0),(0,.row 277003 0 1 0 n),(0+1,.int .i64 n)]++[(1000+38,.int .i64 n),(1000+37,.sl q1 (CE q2 a)),(1000+36,.row 277003 0 1 0 n),(1000+20,.bool false),(1000+19,.int .i64 n),(1000+18,.int .i64 n),(1000+6,.row 277003 0 1 0 n),(1000+0,.sl q1 (CE q2 a)),(1000+(0+1),.sl q3 (CE q4 b))])
   [(277003,277003,.mx (BM 3 eQ m)),(901007,901007,.bx (eQ d)),(901010,901010,.bx (eQ (t.getD c 0))),(901005,901005,.bx [.bool false,.nil,.nil])] Q:=by
 have jn:=hR.len;have ck:=hR.wid t (zM ht);have lv:=hM.at ht;have Ol:=Bs.getD lv c;have Cf:=JQ.start hR ht hp (λ q r hq=>hM.at hq);have xb:=K7 (z:=3) ht;have Ij:(BM 3 eQ m).length=n:=by simp only[BM,List.length_map];omega
 have Ce:(BM 3 eQ m).set k (some (3,(t.map (· / t.getD c 0)).map eQ))=BM 3 eQ (m.set k (t.map (· / t.getD c 0))):=by simp only[BM,List.map_set]
 have vy:(t.map (· / t.getD c 0)).length=n+W:=by rw[List.length_map];exact ck
 have sf : ∀ (j:Nat) (x:Rat),t[j]? = some x->(t.map (· / t.getD c 0))[j]? = some (x/t.getD c 0):=λ j x hx=>by rw[List.getElem?_map,hx];rfl
 generalize t.map (· / t.getD c 0)=u at *;generalize t.getD c 0=p at *;refine QC (l:=[_,_]) rfl ?_;generalize BM 3 eQ m=R0 at *;have xa:R0.set k (some (3,t.map eQ))=R0:=ZI xb;refine DL (λ j=>n+W-j) (λ(j:Nat)=>j<=n+W) (λ j=>[(83,.int .i64 j)]) (λ j=>[(277003,277003,.mx (R0.set k (some (3,(u.take j++t.drop j).map eQ))))]) [] [] 0 (by first|exact (by (conv=>whnf);exact ⟨rfl,rfl,rfl⟩)|(rw[List.take_zero,List.drop_zero,List.nil_append,xa];exact (by (conv=>whnf);exact ⟨rfl,rfl,rfl⟩))) (by omega) ?_;intro j j1 jh;have q6:(u.take j++t.drop j).length=n+W:=by rw[List.length_append,List.length_take,List.length_drop];omega
 by_cases hj:j<n+W
 ·obtain ⟨x,hx⟩ : ∃ x,t[j]? = some x:=⟨_,zE (by omega)⟩
  have Ey:=jS (a:=u) (by omega) hx;have qo:=jT (a:=u) (b:=t) (by omega) (sf j x hx);have hO:=iC N (lv.at hx) Ol (by omega) (by omega) hp;generalize u.take j++t.drop j=cm at *;(repeat' ((first|(apply AG<;>intro hc<;>try omega)|(apply AU;omega)|apply AD)<;>conv=>whnf))
  refine N8 (by omega) (by omega) ?_;(conv=>whnf)
  (repeat' ((first|(apply AU;omega)|fail)<;>conv=>whnf))
  refine N8 (by omega) (by omega) ?_;(conv=>whnf)
  skip
  refine AU (by rw[List.length_map];omega) ?_;(conv=>whnf)
  skip
  refine JN (by omega) (by omega) ?_;(conv=>whnf)
  (repeat' ((first|(refine FB ?_ (λ_=>rfl) (λ v hv => ?_);omega)|fail)<;>conv=>whnf))
  cases Ey.symm.trans hv;(repeat' (refine AC (hO) ?_<;>conv=>whnf))
  refine AU (by rw[List.length_map];omega) ?_;(conv=>whnf)
  skip
  refine JN (by omega) (by omega) ?_;(conv=>whnf)
  refine F3 (enc:=eQ) (x/p) rfl (λ_=>rfl) (by omega) ?_;rw[qo];(conv=>whnf)
  refine V1 (by omega) (by rw[List.length_map,List.length_map,<-qo,List.length_set]) ?_;(conv=>whnf)
  (repeat' ((first|(apply A0;omega)|fail)<;>conv=>whnf))
  exact BQ [] (jh (j+1) (by omega) (by omega))
 ·have ej:j=n+W:=by omega
  clear jh;rw[ej,zT (by omega),List.drop_of_length_le (by omega),List.append_nil,Ce];clear q6 hj j1 ej j Ce xb Ij xa sf vy;have gx:=Cf.red.len;generalize m.set k u=m2 at *;(repeat' ((first|(apply AG<;>intro hc<;>try omega)|apply AD)<;>conv=>whnf))
  refine QC (l:=[_,_]) rfl ?_;clear ht hM lv hR jn Ol ck t hp;have fu:=Cf.red.wid u (zM Cf.ht);have nn:=Cf.bt;refine HG (λ_ i=>n-i) (λ(m:List (List Rat)) (i:Nat)=>JQ T b n W K k c u m i/\i<=n) (λ_ i=>[(104,.int .i64 i)]) (λ m _=>[(277003,277003,.mx (BM 3 eQ m))]) m2 0 ⟨Cf,by omega⟩ ?_;clear Cf gx;intro m i ⟨hS,i1⟩ ih;have jn:=hS.red.len;by_cases hi:i<n
  ·obtain ⟨rq,ka⟩ : ∃ r,m[i]? = some r:=⟨_,zE (by omega)⟩
   have Hi:=hS.red.wid rq (zM ka);have xv:Bs (2*K) rq:=by
    by_cases e:i=k
    ·have h1:=hS.ht
     rw[<-e]at h1;cases h1.symm.trans ka;exact nn
    ·exact λ y hy=>(hS.hi i rq (Nat.le_refl _) e ka y hy).le (by omega)
   have rj:rq[c]? = some (rq.getD c 0):=QR (by omega);have Jw:=xv.at rj;obtain ⟨sg,xd,hz⟩:=YL N.ton7 Jw (by omega);by_cases nj:i=k
   ·have m5:=hS.same (λ h=>absurd nj h)
    generalize rq.getD c 0=f at *;(repeat' ((first|(apply AG<;>intro hc<;>try omega)|(apply AU;omega)|(refine FM ?_ (λ r hr => ?_);omega)|apply AD)<;>conv=>whnf))
    cases ka.symm.trans hr;refine AU (by rw[List.length_map];omega) ?_;(conv=>whnf)
    (repeat' ((first|(apply AG<;>intro hc<;>try omega)|(apply A0;omega)|(refine FB ?_ (λ_=>rfl) (λ v hv => ?_);omega)|refine GO (by assumption) ?_)<;>conv=>whnf))
    exact BQ [] (ih m (i+1) (by omega) ⟨m5,by omega⟩)
   ·by_cases rn:sg=0
    ·have Jv:=hz.1 rn
     have m5:=hS.same (λ_ r h=>by cases ka.symm.trans h;exact Jv);generalize rq.getD c 0=f at *;(repeat' ((first|(apply AG<;>intro hc<;>try omega)|(apply AU;omega)|(refine FM ?_ (λ r hr => ?_);omega)|apply AD)<;>conv=>whnf))
     cases ka.symm.trans hr;refine AU (by rw[List.length_map];omega) ?_;(conv=>whnf)
     (repeat' ((first|(apply AG<;>intro hc<;>try omega)|(refine FB ?_ (λ_=>rfl) (λ v hv => ?_);omega)|refine GO (by assumption) ?_)<;>conv=>whnf))
     cases rj.symm.trans hv;(repeat' ((first|(apply AG<;>intro hc<;>try omega)|(apply A0;omega)|refine AC (xd) ?_)<;>conv=>whnf))
     exact BQ [] (ih m (i+1) (by omega) ⟨m5,by omega⟩)
    ·have m5:=hS.step ka nj
     have xb:=K7 (z:=3) ka;have hRk:=K7 (z:=3) hS.ht;have Ij:(BM 3 eQ m).length=n:=by simp only[BM,List.length_map];omega
     have Ce:(BM 3 eQ m).set i (some (3,(jq (rq.getD c 0) rq u).map eQ))=BM 3 eQ (m.set i (jq (rq.getD c 0) rq u)):=by simp only[BM,List.map_set]
     have q6:(jq (rq.getD c 0) rq u).length=n+W:=by rw[fR (by omega)];exact Hi
     have oz : ∀ (j:Nat) (x y:Rat),rq[j]? = some x->u[j]? = some y->(jq (rq.getD c 0) rq u)[j]? = some (x-rq.getD c 0*y):=λ j x y h1 h2=>pB h1 h2
     generalize jq (rq.getD c 0) rq u=cb at *;generalize rq.getD c 0=f at *;(repeat' ((first|(apply AG<;>intro hc<;>try omega)|(apply AU;omega)|(refine FM ?_ (λ r hr => ?_);omega)|apply AD)<;>conv=>whnf))
     cases ka.symm.trans hr;refine AU (by rw[List.length_map];omega) ?_;(conv=>whnf)
     (repeat' ((first|(apply AG<;>intro hc<;>try omega)|(refine FB ?_ (λ_=>rfl) (λ v hv => ?_);omega)|refine GO (by assumption) ?_)<;>conv=>whnf))
     cases rj.symm.trans hv;(repeat' ((first|(apply AG<;>intro hc<;>try omega)|(apply AU;omega)|(refine FM ?_ (λ r hr => ?_);omega)|refine AC (xd) ?_)<;>conv=>whnf))
     cases ka.symm.trans hr;rw[show (rq.map eQ).length=n+W by rw[List.length_map];exact Hi];generalize BM 3 eQ m=R1 at *;have xa:R1.set i (some (3,rq.map eQ))=R1:=ZI xb;refine DL (λ j=>n+W-j) (λ(j:Nat)=>j<=n+W) (λ j=>[(127,.int .i64 j)]) (λ j=>[(277003,277003,.mx (R1.set i (some (3,(cb.take j++rq.drop j).map eQ))))]) [] [] 0 (by first|exact (by (conv=>whnf);exact ⟨rfl,rfl,rfl⟩)|(rw[List.take_zero,List.drop_zero,List.nil_append,xa];exact (by (conv=>whnf);exact ⟨rfl,rfl,rfl⟩))) (by omega) ?_;intro j j1 jh;have Anl:(cb.take j++rq.drop j).length=n+W:=by rw[List.length_append,List.length_take,List.length_drop];omega
     by_cases hj:j<n+W
     ·obtain ⟨x,hx⟩ : ∃ x,rq[j]? = some x:=⟨_,zE (by omega)⟩
      obtain ⟨y,hy⟩ : ∃ y,u[j]? = some y:=⟨_,zE (by omega)⟩;have Ey:=jS (a:=cb) (by omega) hx;have qo:=jT (a:=cb) (b:=rq) (by omega) (oz j x y hx hy);have tu:=T4 N.toa7 Jw (nn.at hy) (by omega) (by omega);have Im:=sJ N.ton7 (xv.at hx) (Jw.mul (nn.at hy)) (by omega) (by omega);generalize cb.take j++rq.drop j=cm at *;have Dx:(R1.set i (some (3,cm.map eQ)))[k]? = some (some (3,u.map eQ)):=by rw[List.getElem?_set,if_neg nj];exact hRk
      (repeat' ((first|(apply AG<;>intro hc<;>try omega)|(apply AU;omega)|apply AD)<;>conv=>whnf))
      refine N8 (by omega) (by omega) ?_;(conv=>whnf)
      (repeat' ((first|(apply AU;omega)|fail)<;>conv=>whnf))
      refine N8 (by omega) (by omega) ?_;(conv=>whnf)
      skip
      refine AU (by rw[List.length_map];omega) ?_;(conv=>whnf)
      skip
      refine JN (by omega) (by omega) ?_;(conv=>whnf)
      (repeat' ((first|(apply AU;omega)|(refine FB ?_ (λ_=>rfl) (λ v hv => ?_);omega))<;>conv=>whnf))
      cases Ey.symm.trans hv;skip
      refine Rl (r:=some (3,u.map eQ)) (by rw[show 0+((k:Nat):Int).toNat=k by omega];exact Dx) ?_;(conv=>whnf)
      skip
      refine AU (by rw[List.length_map];omega) ?_;(conv=>whnf)
      skip
      refine VY (by rw[show 0+((k:Nat):Int).toNat=k by omega];exact Dx) ?_;(conv=>whnf)
      (repeat' ((first|(refine FB ?_ (λ_=>rfl) (λ v hv => ?_);omega)|fail)<;>conv=>whnf))
      cases hy.symm.trans hv;(repeat' ((first|refine AC (tu) ?_|refine AC (Im) ?_)<;>conv=>whnf))
      refine AU (by rw[List.length_map];omega) ?_;(conv=>whnf)
      skip
      refine JN (by omega) (by omega) ?_;(conv=>whnf)
      refine F3 (enc:=eQ) (x-f*y) rfl (λ_=>rfl) (by omega) ?_;rw[qo];(conv=>whnf)
      refine V1 (by omega) (by rw[List.length_map,List.length_map,<-qo,List.length_set]) ?_;(conv=>whnf)
      (repeat' ((first|(apply A0;omega)|fail)<;>conv=>whnf))
      exact BQ [] (jh (j+1) (by omega) (by omega))
     ·have ej:j=n+W:=by omega
      clear jh;rw[ej,zT (by omega),List.drop_of_length_le (by omega),List.append_nil,Ce];(repeat' ((first|(apply AG<;>intro hc<;>try omega)|(apply A0;omega)|apply AD)<;>conv=>whnf))
      exact BQ [] (ih (m.set i cb) (i+1) (by omega) ⟨m5,by omega⟩)
  ·have ei:i=n:=by omega
   rw[ei]at hS;obtain ⟨g1,g2⟩:=hS.fin nw;clear ih;(repeat' ((first|(apply AG<;>intro hc<;>try omega)|(apply A0;omega)|apply AD)<;>conv=>whnf))
   exact BH [] (by (conv=>whnf);exact ⟨rfl,rfl,rfl⟩) (bu m g1 (λ r hr=>by
    obtain ⟨q,hq⟩:=List.getElem?_of_mem hr;exact g2 q r hq))
theorem Ahp (N:w7 L) (q1 q2 q3 q4:Bool) (a b T:List (List Rat)) (n W k0:Nat) (hn:1<=n/\n<=10) (hW:1<=W/\W<=10) (fy:b.length=n) (hB:10*FE k0 n<=100000000000) (hT:Sq n T) {m0:List (List Rat)} (Dr:DP T b n W m0 0 0) (Gp:Ms k0 m0) {kk:List It} {Q:Tm->Mem->Prop}
  (bu : ∀ (m:List (List Rat)) (k c:Nat) (d:Rat),DP T b n W m k c->(k<n/\c=n\/k=n/\c=n)->Ms (FE k0 n) m->Bt 100000000000 d->AA L kk ([(8,.int .i64 c),(6,.int .i64 k),(7,.ptr 901007 0 0 0),(5,.ptr 901005 0 0 0),(0,.row 277003 0 1 0 n),(0+1,.int .i64 n)]++[(1000+38,.int .i64 n),(1000+37,.sl q1 (CE q2 a)),(1000+36,.row 277003 0 1 0 n),(1000+20,.bool false),(1000+19,.int .i64 n),(1000+18,.int .i64 n),(1000+6,.row 277003 0 1 0 n),(1000+0,.sl q1 (CE q2 a)),(1000+(0+1),.sl q3 (CE q4 b))]) [(277003,277003,.mx (BM 3 eQ m)),(901007,901007,.bx (eQ d)),(901005,901005,.bx [.bool false,.nil,.nil])] Q) :
  AA L (.lp F8.l1 :: .e7 0::kk) ([(8,.int .i64 ((0:Nat):Int)),(6,.int .i64 ((0:Nat):Int)),(7,.ptr 901007 0 0 0),(5,.ptr 901005 0 0 0),(0,.row 277003 0 1 0 n),(0+1,.int .i64 n)]++[(1000+38,.int .i64 n),(1000+37,.sl q1 (CE q2 a)),(1000+36,.row 277003 0 1 0 n),(1000+20,.bool false),(1000+19,.int .i64 n),(1000+18,.int .i64 n),(1000+6,.row 277003 0 1 0 n),(1000+0,.sl q1 (CE q2 a)),(1000+(0+1),.sl q3 (CE q4 b))]) [(277003,277003,.mx (BM 3 eQ m0)),(901007,901007,.bx (eQ ((1:Int):Rat))),(901005,901005,.bx [.bool false,.nil,.nil])] Q:=by
 refine QC (l:=[_,_]) rfl ?_;refine dV (λ_ c _ _=>n-c) (λ(m:List (List Rat)) (c k:Nat) (d:Rat)=>DP T b n W m k c/\Ms (FE k0 c) m/\Bt (c*FE k0 n) d) (λ_ c k _=>[(8,.int .i64 c),(6,.int .i64 k)]) (λ m _ _ d=>[(277003,277003,.mx (BM 3 eQ m)),(901007,901007,.bx (eQ d))]) [24] [] m0 0 0 ((1:Int):Rat) (by (conv=>whnf);exact ⟨rfl,rfl,rfl⟩) ⟨Dr,Gp,Bt.one _⟩ ?_;intro m c k d ⟨hR,hM,hd⟩ eh;have jn:=hR.len;have Ke:=hR.le;have Anm:=hR.cn;have Mz:=wX k0 (c:=c) (n-c);rw[show c+(n-c)=n by omega]at Mz;have hcX:c*FE k0 n<=10*FE k0 n:=zR _ (by omega);by_cases nw:c<n/\k<n
 ·(repeat' ((first|(apply AG<;>intro hc<;>try omega)|apply AD)<;>conv=>whnf))
  refine DF (λ i=>n-i) (λ(i:Nat)=>k<=i/\i<=n /\ ∀ (q:Nat) (r:List Rat),k<=q->q<i->m[q]? = some r->r.getD c 0=0) (λ i=>[(9,.int .i64 i)]) (λ_=>[]) k ⟨Nat.le_refl _,by omega,λ q r h1 h2=>absurd h2 (by omega)⟩ ?_;intro i ⟨i1,i2,i3⟩ ih;by_cases hi:i<n
  ·obtain ⟨rp,s8⟩ : ∃ r,m[i]? = some r:=⟨_,zE (by omega)⟩
   have bk:=hR.wid rp (zM s8);have je:rp[c]? = some (rp.getD c 0):=QR (by omega);obtain ⟨sg,xd,hz⟩:=YL N.ton7 (hM.at s8 _ (zM je)) (by omega);generalize pe:rp.getD c 0=rc at *;by_cases rn:sg=0
   ·(repeat' ((first|(apply AG<;>intro hc<;>try omega)|(apply AU;omega)|(refine FM ?_ (λ r hr => ?_);omega)|apply AD)<;>conv=>whnf))
    cases s8.symm.trans hr;refine AU (by rw[List.length_map];omega) ?_;(conv=>whnf)
    (repeat' ((first|(refine FB ?_ (λ_=>rfl) (λ v hv => ?_);omega)|refine GO (by assumption) ?_)<;>conv=>whnf))
    cases je.symm.trans hv;(repeat' ((first|(apply AG<;>intro hc<;>try omega)|(apply A0;omega)|refine AC (xd) ?_)<;>conv=>whnf))
    have i4 : ∀ (q:Nat) (r:List Rat),k<=q->q<i+1->m[q]? = some r->r.getD c 0=0:=λ q r h1 h2 h3=>by
     by_cases e:q=i
     ·subst e
      cases s8.symm.trans h3;rw[pe];exact hz.1 rn
     ·exact i3 q r h1 (by omega) h3
    exact BQ [] (ih (i+1) (by omega) ⟨by omega,by omega,i4⟩)
   ·clear ih i3
    have Ff:rc≠0:=λ e=>rn (hz.2 e)
    obtain ⟨t,wh⟩ : ∃ t,m[k]? = some t:=⟨_,zE (by omega)⟩;have wx:=hM.at s8 _ (zM je);by_cases nj:i=k
    ·have tu:=T4 N.toa7 hd wx (by omega) (by omega)
     have Jo:Bt ((c+1)*FE k0 n) (d*rc):=(hd.mul wx).le (by rw[Nat.succ_mul];omega);subst nj;(repeat' ((first|(apply AG<;>intro hc<;>try omega)|(apply AU;omega)|(refine FM ?_ (λ r hr => ?_);omega)|apply AD)<;>conv=>whnf))
     cases s8.symm.trans hr;refine AU (by rw[List.length_map];omega) ?_;(conv=>whnf)
     (repeat' ((first|(refine FB ?_ (λ_=>rfl) (λ v hv => ?_);omega)|refine GO (by assumption) ?_)<;>conv=>whnf))
     cases je.symm.trans hv;(repeat' ((first|(apply AG<;>intro hc<;>try omega)|(apply AU;omega)|(refine FM ?_ (λ r hr => ?_);omega)|refine AC (xd) ?_)<;>conv=>whnf))
     cases s8.symm.trans hr;refine AU (by rw[List.length_map];omega) ?_;(conv=>whnf)
     (repeat' ((first|(refine FB ?_ (λ_=>rfl) (λ v hv => ?_);omega)|refine GO (by assumption) ?_)<;>conv=>whnf))
     cases je.symm.trans hv;(repeat' ((first|(apply AU;omega)|(refine FM ?_ (λ r hr => ?_);omega)|refine AC (tu) ?_)<;>conv=>whnf))
     cases s8.symm.trans hr;rw[show (rp.map eQ).length=n+W by rw[List.length_map];exact bk];subst pe;exact BH [] (by (conv=>whnf);exact ⟨rfl,rfl,rfl⟩) (wY N q1 q2 q3 q4 a b T n W (FE k0 c) hn hW (by omega) hR hM nw.2 nw.1 s8 Ff λ m2 g1 g2=>BH [] (by (conv=>whnf);exact ⟨rfl,rfl,rfl⟩) (eh m2 (c+1) (i+1) _ (by omega) ⟨g1,g2,Jo⟩))
    ·have hNg:=hJ N.ton7 hd (by omega)
     have tu:=T4 N.toa7 (Bt.vm hd) wx (by omega) (by omega);have Jo:Bt ((c+1)*FE k0 n) (-d*rc):=((Bt.vm hd).mul wx).le (by rw[Nat.succ_mul];omega);refine Ry 24 ?_;(conv=>whnf)
     (repeat' ((first|(apply AG<;>intro hc<;>try omega)|(apply AU;omega)|(refine FM ?_ (λ r hr => ?_);omega))<;>conv=>whnf))
     cases s8.symm.trans hr;refine AU (by rw[List.length_map];omega) ?_;(conv=>whnf)
     (repeat' ((first|(refine FB ?_ (λ_=>rfl) (λ v hv => ?_);omega)|refine GO (by assumption) ?_)<;>conv=>whnf))
     cases je.symm.trans hv;(repeat' ((first|(apply AG<;>intro hc<;>try omega)|(apply AU;omega)|(refine FM ?_ (λ r hr => ?_);omega)|refine GO (by assumption) ?_|refine AC (xd) ?_)<;>conv=>whnf))
     refine AU ⟨rfl,by simp only[BM,List.length_map];omega⟩ ?_;(conv=>whnf)
     (repeat' ((first|(apply AU;omega)|refine GO (by assumption) ?_)<;>conv=>whnf))
     rw[show 0+((i:Nat):Int).toNat=i by omega,show 0+((k:Nat):Int).toNat=k by omega];refine AU ⟨rfl,by simp only[BM,List.length_map,List.length_set,List.length_range];omega,zW (by simp only[BM,List.length_map];omega)⟩ ?_;(conv=>whnf)
     refine mQ (k:=277003) (i:=i) (j:=k) rfl (K7 s8) (K7 wh) rfl rfl ?_;rw[vM];have Dt:=hR.swap s8 wh i1;have eb:Ms (FE k0 c) ((m.set i t).set k rp):=λ x hx=>by
      rcases List.mem_or_eq_of_mem_set hx with h|rfl
      ·rcases List.mem_or_eq_of_mem_set h with h|rfl
       ·exact hM x h
       ·exact hM.at wh
      ·exact hM.at s8
     have jd:((m.set i t).set k rp)[k]? = some rp:=by rw[List.getElem?_set,if_pos rfl,if_pos (by rw[List.length_set];omega)]
     have um:=Dt.len;generalize (m.set i t).set k rp=m1 at *;(repeat' ((first|(apply AU;omega)|(refine FM ?_ (λ r hr => ?_);omega)|apply AD|refine AC (hNg) ?_)<;>conv=>whnf))
     cases jd.symm.trans hr;refine AU (by rw[List.length_map];omega) ?_;(conv=>whnf)
     (repeat' ((first|(refine FB ?_ (λ_=>rfl) (λ v hv => ?_);omega)|refine GO (by assumption) ?_)<;>conv=>whnf))
     cases je.symm.trans hv;(repeat' ((first|(apply AU;omega)|(refine FM ?_ (λ r hr => ?_);omega)|refine AC (tu) ?_)<;>conv=>whnf))
     cases jd.symm.trans hr;rw[show (rp.map eQ).length=n+W by rw[List.length_map];exact bk];subst pe;exact BH [] (by (conv=>whnf);exact ⟨rfl,rfl,rfl⟩) (wY N q1 q2 q3 q4 a b T n W (FE k0 c) hn hW (by omega) Dt eb nw.2 nw.1 jd Ff λ m2 g1 g2=>BH [] (by (conv=>whnf);exact ⟨rfl,rfl,rfl⟩) (eh m2 (c+1) (k+1) _ (by omega) ⟨g1,g2,Jo⟩))
  ·have ei:i=n:=by omega
   clear ih;have i4 : ∀ (q:Nat) (r:List Rat),k<=q->m[q]? = some r->r.getD c 0=0:=λ q r h1 h3=>i3 q r h1 (by have:=(zS h3).1;omega) h3
   have hR9:=hR.skip hT fy nw.1 i4;clear i3 i4;(repeat' ((first|(apply AG<;>intro hc<;>try omega)|(apply A0;omega)|apply AD)<;>conv=>whnf))
   exact BH [] (by (conv=>whnf);exact ⟨rfl,rfl,rfl⟩) (eh m (c+1) k d (by omega) ⟨hR9,hM.le (show FE k0 c<=4*FE k0 c+1 by omega),hd.le (zR _ (by omega))⟩)
 ·clear eh
  have Er:k<n/\c=n\/k=n/\c=n:=by omega
  (repeat' ((first|(apply AG<;>intro hc<;>try omega)|apply AD)<;>conv=>whnf))
  exact BH [] (by (conv=>whnf);exact ⟨rfl,rfl,rfl⟩) (bu m k c d hR Er (hM.le Mz) (hd.le (by omega)))
theorem Xt (N:w7 L) (q1 q2 q3 q4:Bool) (a b:List (List Rat)) (n W k:Nat) (hT:Sq n a) (fy:b.length=n) (oy : ∀ r∈b,r.length=W) (fb:Ms k b) (hn:1<=n/\n<=10) (hW:1<=W/\W<=10) (au:Ms k a) (hk:k<=1000) (hB:10*FE k n<=100000000000) :
  ∃ v,Ev L 278 [.sl q1 (CE q2 a),.sl q3 (CE q4 b)] v/\((¬ NS n a/\v = .l6 [.sl false [],.int .i64 11])\/(NS n a /\ ∃ m:List (List Rat),v = .l6 [.sl false (eM (m.map (·.drop n))),.int .i64 0]/\DP a b n W m n n/\Ms (FE k n) m)):=by
 have x7:=hT.l;have du : ∀ r∈a,r.length=n:=hT.r;have Dr:DP a b n W (E1 a b) 0 0:=DP.start hT fy oy;have dv:(E1 a b).length=n:=by simp [E1,x7,fy]
 obtain ⟨hjw,hjb⟩:=AfQ du oy au fb;have hI:=QK N.toa7 1 (by omega);refine Ev.xE N.M3 rfl rfl ?_;(repeat' (apply AD<;>conv=>whnf))
 refine EM 1000 N.M4 rfl rfl ?_;(repeat' ((first|apply AQ|apply AD)<;>conv=>whnf))
 refine ZU 277003 277003 rfl ?_;refine DF (λ i=>n-i) (λ(i:Nat)=>i<=n) (λ i=>[(11,.int .i64 i),(3,.row 277003 0 1 0 i)]) (λ i=>[(277003,277003,.mx (BM 3 eQ (a.take i)))]) 0 (by omega) ?_;intro i p1 ih;have Cv:(a.take i).length=i:=by rw[List.length_take];omega
 by_cases hi:i<n
 ·obtain ⟨r,hr⟩ : ∃ r,a[i]? = some r:=⟨_,zE (by omega)⟩
  have ml:a[(i:Int).toNat]? = some r:=hr;have bk:=du r (zM hr);have gy:=au.at hr;have zu:=NX hr;generalize a.take i=R0 at *;(repeat' ((first|(apply AG<;>intro hc<;>try omega)|apply AQ|(refine A8 (by assumption) ?_ rfl ?_;omega)|apply AD)<;>conv=>whnf))
  refine DF (λ j=>n-j) (λ(j:Nat)=>j<=n) (λ j=>[(17,.int .i64 j),(6,.row 277006 0 3 0 j)]) (λ j=>[(277006,277006,.rw 3 ((r.take j).map eQ))]) 0 (by omega) ?_;intro j p2 jh;have pj:(r.take j).length=j:=by rw[List.length_take];omega
  by_cases hj:j<n
  ·obtain ⟨x,hx⟩ : ∃ x,r[j]? = some x:=⟨_,zE (by omega)⟩
   have jg:r[(j:Int).toNat]? = some x:=hx;have qo:=NX hx;have hT:=WL N.toa7 (gy.at hx) (by omega);generalize r.take j=M0 at *;(repeat' ((first|(apply AG<;>intro hc<;>try omega)|(refine A8 (by assumption) ?_ rfl ?_;omega)|apply EE|apply AD|refine AC (hT) ?_)<;>conv=>whnf))
   refine EX (enc:=eQ) x rfl pj.symm rfl (by omega) (by omega) ?_;(conv=>whnf)
   (repeat' ((first|(apply A0;omega)|fail)<;>conv=>whnf))
   rw[<-qo,show (r.take (j+1)).length=j+1 by rw[List.length_take];omega];exact BQ [(277006,277025)] (jh (j+1) (by omega) (by omega))
  ·obtain rfl:j=n:=by omega
   clear jh;rw[zT (by omega)];(repeat' ((first|(apply AG<;>intro hc<;>try omega)|apply AD)<;>conv=>whnf))
   refine AU (by rw[List.length_map,bk]) ?_;refine XP (r:=r) (en:=eQ) Cv.symm (by omega) (by omega) ?_;rw[<-zu,show (a.take (i+1)).length=i+1 by rw[List.length_take];omega];(conv=>whnf)
   (repeat' ((first|(apply A0;omega)|fail)<;>conv=>whnf))
   exact BQ [(277003,277030)] (ih (i+1) (by omega) (by omega))
 ·obtain rfl:i=n:=by omega
  clear ih;rw[zT (by omega)];(repeat' ((first|(apply AG<;>intro hc<;>try omega)|apply AD)<;>conv=>whnf))
  refine ⟨rfl,_,rfl,?_⟩;(conv=>whnf)
  skip
  refine DL (λ j=>i-j) (λ(j:Nat)=>j<=i) (λ j=>[(19,.int .i64 j)]) (λ j=>[(277003,277003,.mx (BM 3 eQ ((E1 a b).take j++a.drop j)))]) [] [] 0 (by first|exact (by (conv=>whnf);exact ⟨rfl,rfl,rfl⟩)|(rw[List.take_zero,List.drop_zero,List.nil_append];exact (by (conv=>whnf);exact ⟨rfl,rfl,rfl⟩))) (by omega) ?_;intro j p2 jh;have jn:((E1 a b).take j++a.drop j).length=i:=by rw[List.length_append,List.length_take,List.length_drop];omega
  by_cases hj:j<i
  ·obtain ⟨r,s8⟩ : ∃ r,a[j]? = some r:=⟨_,zE (by omega)⟩
   obtain ⟨s,rl⟩ : ∃ s,b[j]? = some s:=⟨_,zE (by omega)⟩;have Lg:b[(j:Int).toNat]? = some s:=rl;have bk:=du r (zM s8);have hsl:=oy s (zM rl);have Ii:=jS (a:=E1 a b) (by omega) s8;have hRs:=jT (a:=E1 a b) (b:=a) (by omega) (jH s8 rl);generalize (E1 a b).take j++a.drop j=R0 at *;(repeat' ((first|(apply AG<;>intro hc<;>try omega)|(apply AU;omega)|(refine A8 (by assumption) ?_ rfl ?_;omega)|(refine FM ?_ (λ r hr => ?_);omega)|refine GO (by assumption) ?_|apply AD)<;>conv=>whnf))
   cases Ii.symm.trans hr;refine ZW (enc:=eQ) (by rw[List.length_map]) (λ_=>rfl) (by omega) (by omega) ?_;intro s' v;(conv=>whnf)
   (repeat' ((first|(apply AU;omega)|fail)<;>conv=>whnf))
   refine AU ⟨rfl,by rw[List.length_map]⟩ ?_;refine OB (i:=j) (by omega) (by rw[List.length_set];simp only[BM,List.length_map];omega) ?_;rw[show 0+((j:Int)).toNat=j by omega,List.set_set,show (BM 3 eQ R0).set j (some (3,(r++s).map eQ))=BM 3 eQ (R0.set j (r++s)) by simp only[BM,List.map_set],hRs];(conv=>whnf)
   (repeat' ((first|(apply A0;omega)|fail)<;>conv=>whnf))
   exact BQ [] (jh (j+1) (by omega) (by omega))
  ·have ej:j=i:=by omega
   clear jh;rw[ej,zT (by omega),List.drop_of_length_le (by omega),List.append_nil];(repeat' ((first|(apply AG<;>intro hc<;>try omega)|apply AQ|apply AD)<;>conv=>whnf))
   rw[x7];refine E8 1000 N.F8 rfl rfl ?_;(repeat' ((first|apply AD|refine AC (hI) ?_)<;>conv=>whnf))
   refine BH [] (by (conv=>whnf);exact ⟨rfl,rfl,rfl⟩) (Ahp N q1 q2 q3 q4 a b a i W k hn hW fy hB hT Dr hjb (λ m k2 c2 d h1 h2 h3 h4 => ?_));by_cases jd:k2<i
   ·(repeat' (apply AD<;>conv=>whnf))
    refine ⟨rfl,?_⟩;(conv=>whnf)
    (repeat' ((first|(apply AG<;>intro hc<;>try omega)|apply AQ)<;>conv=>whnf))
    exact ⟨_,AW rfl (by simp only[A1,CD,FL,true_and,and_true]),Or.inl ⟨h1.sk (by omega),rfl⟩⟩
   ·have Az:k2=i/\c2=i:=by omega
    obtain ⟨rfl,rfl⟩:=Az;(repeat' (apply AD<;>conv=>whnf))
    refine ⟨rfl,?_⟩;(conv=>whnf)
    (repeat' ((first|(apply AG<;>intro hc<;>try omega)|apply AQ)<;>conv=>whnf))
    refine ZU 10 10 rfl ?_;have um:=h1.len;have jz:NS c2 a:=h1.nsT hT;have bu : ∀ r:AV,r = .l6 [.sl false (eM (m.map (·.drop c2))),.int .i64 0]->((¬ NS c2 a/\r = .l6 [.sl false [],.int .i64 11])\/(NS c2 a /\ ∃ m:List (List Rat),r = .l6 [.sl false (eM (m.map (·.drop c2))),.int .i64 0]/\DP a b c2 W m c2 c2/\Ms (FE k c2) m)):=λ r hr=>Or.inr ⟨jz,m,hr,h1,h3⟩
    have tv:(m.map (·.drop c2)).length=c2:=by rw[List.length_map];exact um
    have Io : ∀ (q:Nat) (r:List Rat),m[q]? = some r->(m.map (·.drop c2))[q]? = some (r.drop c2):=λ q r hq=>by rw[List.getElem?_map,hq];rfl
    generalize m.map (·.drop c2)=U at *;refine DF (λ i=>c2-i) (λ(i:Nat)=>i<=c2) (λ i=>[(48,.int .i64 i),(10,.row 10 0 1 0 i)]) (λ i=>[(10,10,.mx (BM 3 eQ (U.take i)))]) 0 (by omega) ?_;intro i i1 ih;have Ls:(U.take i).length=i:=by rw[List.length_take];omega
    by_cases xo:i<c2
    ·obtain ⟨rp,s8⟩ : ∃ r,m[i]? = some r:=⟨_,zE (by omega)⟩
     have bk:=h1.wid rp (zM s8);have gy:=h3.at s8;have hut:=NX (Io i rp s8);have vy:(rp.drop c2).length=W:=by rw[List.length_drop];omega
     have sf : ∀ (j:Nat),(rp.drop c2)[j]? = rp[c2+j]? := λ j=>by rw[List.getElem?_drop]
     generalize U.take i=R0 at *;(repeat' ((first|(apply AG<;>intro hc<;>try omega)|(apply AU;omega)|apply AQ|(refine FM ?_ (λ r hr => ?_);omega)|apply AD)<;>conv=>whnf))
     cases s8.symm.trans hr;refine Rb c2 (by omega) (by rw[List.length_map];omega) ?_;rw[List.length_map,show rp.length=c2+W from bk];(conv=>whnf)
     skip
     refine DF (λ j=>W-j) (λ(j:Nat)=>j<=W) (λ j=>[(59,.int .i64 j),(12,.row 12 0 3 0 j)]) (λ j=>[(12,12,.rw 3 (((rp.drop c2).take j).map eQ))]) 0 (by omega) ?_;intro j j1 jh;have pj:((rp.drop c2).take j).length=j:=by rw[List.length_take];omega
     by_cases hj:j<W
     ·obtain ⟨x,hx⟩ : ∃ x,(rp.drop c2)[j]? = some x:=⟨_,zE (by omega)⟩
      have jg:=hx;rw[sf]at jg;have qo:=NX hx;have Gr:=WL N.toa7 (gy.at jg) (by omega);generalize (rp.drop c2).take j=M0 at *;(repeat' ((first|(apply AG<;>intro hc<;>try omega)|(apply AU;omega)|refine GO (by assumption) ?_|apply AD)<;>conv=>whnf))
      refine Z1 (enc:=eQ) (e:=x) (l:=rp) (by rw[show 0+c2+((j:Nat):Int).toNat=c2+j by omega];exact jg) rfl ?_;(conv=>whnf)
      (repeat' ((first|apply EE|refine AC (Gr) ?_)<;>conv=>whnf))
      refine EX (enc:=eQ) x rfl pj.symm rfl (by omega) (by omega) ?_;(conv=>whnf)
      (repeat' ((first|(apply A0;omega)|fail)<;>conv=>whnf))
      rw[<-qo,show ((rp.drop c2).take (j+1)).length=j+1 by rw[List.length_take];omega];exact BQ [(12,67)] (jh (j+1) (by omega) (by omega))
     ·have ej:j=W:=by omega
      clear jh;rw[ej,zT (by omega)];(repeat' ((first|(apply AG<;>intro hc<;>try omega)|apply AD)<;>conv=>whnf))
      refine AU (by rw[List.length_map,vy]) ?_;refine XP (r:=rp.drop c2) (en:=eQ) Ls.symm (by omega) (by omega) ?_;rw[<-hut,show (U.take (i+1)).length=i+1 by rw[List.length_take];omega];(conv=>whnf)
      (repeat' ((first|(apply A0;omega)|fail)<;>conv=>whnf))
      exact BQ [(10,72)] (ih (i+1) (by omega) (by omega))
    ·have ei:i=c2:=by omega
     clear ih;rw[ei,zT (by omega)];(repeat' ((first|(apply AG<;>intro hc<;>try omega)|apply AD)<;>conv=>whnf))
     refine ⟨.l6 [.sl false (eM U),.int .i64 0],?_,bu _ rfl⟩;(conv=>whnf)
     refine QG (λ_=>rfl) rfl tv.symm ?_;(conv=>whnf)
     exact AW rfl (V7 U 0)
def nO:Option Rat->Bool
 | none=>false
 | some x=>decide (x.num<0)
def mO:Option Rat->List Nat
 | none=>[]
 | some x=>dg x.num.natAbs
def dO:Option Rat->List Nat
 | none=>[]
 | some x=>dg x.den
abbrev eN (o:Option Rat):List AV:=rQ false false (nO o) (mO o) (dO o)
def vO:Option Rat->Rat
 | none=>0
 | some x=>x
theorem Ui {l:List (Option Rat)} {len:Nat} {K:List (List AV)->Prop} (hl:len=l.length) (h:K (l.map eN)):A5 (l.map eO) 0 len K:=by
 subst hl;unfold A5;refine ⟨by simp,λ e he => ?_,?_⟩
 ·obtain ⟨o,_,rfl⟩:=List.mem_map.1 he
  cases o<;>rfl
 ·rw[List.drop_zero,zT (by simp),List.map_map]
  rw[show ((λ e:List AV=>e.map nl) ∘ eO)=eN from funext λ o=>by cases o<;>rfl];exact h
theorem wS:qv false [] []=0:=rfl
theorem AeO (N:a7 L) (o:Option Rat) {k:Nat} (hx:Bt k (vO o)) (hk:k<2199023255552):Ev L 123 [.agg (eN o)] (.agg (eQ (vO o))):=by
 cases o with
 | none =>
  have:=sC N false false [] [] (XF _) (XF _)
  rw[wS]at this;exact this
 | some x=>exact WL N hx hk
theorem sI (N:n7 L) (o:Option Rat) {k:Nat} (hx:Bt k (vO o)) (hk:k<2199023255552) : ∃ s:Int,Ev L 155 [.agg (eN o)] (.int .i64 s)/\(s=0↔vO o=0):=by
 cases o with
 | some x=>exact YL N hx hk
 | none =>
  obtain ⟨n',m',d',hp,s1,s2,s3,s4⟩:=KH N.toa7 false false [] [] 274877906943 (by omega) (XF _) (XF _);have hS:=λ q=>WJ N.toa7 n' q m' (s1.le (by omega))
  rw[wS]at s4;have hz:y7 (zv n' m')=0↔vO none=0:=by
   have h1:zv n' m'=0:=(Rat.mkRat_eq_zero s3).1 s4.symm;rw[h1];exact ⟨λ_=>rfl,λ_=>rfl⟩
  generalize y7 (zv n' m')=s at *;refine ⟨s,?_,hz⟩;refine Ev.x N.I3 rfl rfl ?_;(repeat' ((first|apply AD|refine AC (hp) ?_|refine AC (hS _) ?_)<;>conv=>whnf))
  exact CM rfl
theorem AeC (N:u5 L) (q:Bool) (o:List (Option Rat)) (k:Nat) (hl:Bs k (o.map vO)) (hk:k<2199023255552) (hn:o.length<=1000000):Ev L 171 [.sl q (o.map eN)] (.sl false ((BW (o.map vO)).map eQ)):=by
 have Fh:(o.map vO).length=o.length:=List.length_map ..;refine Ev.x N.I7 rfl rfl ?_;(repeat' ((first|apply AQ|apply AD)<;>conv=>whnf))
 refine DF (λ n=>n) (λ(n:Nat)=>n<=o.length/\CP (o.map vO) o.length=CP (o.map vO) n) (λ n=>[(3,.int .i64 n)]) (λ_=>[]) o.length ⟨Nat.le_refl _,rfl⟩ ?_;intro n ⟨p1,p2⟩ ih;have db : ∀ (m:Nat) (x:Option Rat),o[m]? = some x->(o.map vO)[m]? = some (vO x):=λ m x h=>by rw[List.getElem?_map,h];rfl
 have done : ∀ {n:Nat},CP (o.map vO) o.length=n->BW (o.map vO)=(o.map vO).take n:=λ h=>by rw[BW,Fh,h]
 by_cases hz:n=0\/(∃ m x,n=m+1/\o[m]? = some x/\vO x≠0)
 ·have ju:CP (o.map vO) o.length=n:=by
   rw[p2];rcases hz with rfl|⟨m,x,rfl,h1,h2⟩
   ·rfl
   ·rw[CP,if_neg]
    rw[List.getD_eq_getElem?_getD,db _ _ h1];exact h2
  rw[done ju,<-List.map_take];have ck:(o.take n).length=n:=by rw[List.length_take];omega
  have lv:Bs k ((o.take n).map vO):=by rw[List.map_take];exact hl.take n
  clear ih ju p2 done;rcases hz with h0|⟨m,x,Oh,h1,h2⟩
  case' inl=>(repeat' ((first|(apply AG<;>intro hc<;>try omega)|apply AD)<;>conv=>whnf))
  case' inr =>
   have wv:o[((n:Int)-1).toNat]? = some x:=by rw[show ((n:Int)-1).toNat=m by omega];exact h1
   obtain ⟨s,hS,hs⟩:=sI N.ton7 x (hl.at (db _ _ h1)) hk;have rl:s≠0:=λ h=>h2 (hs.1 h)
   (repeat' ((first|(apply AG<;>intro hc<;>try omega)|(apply BT;omega)|(refine A8 (by assumption) ?_ rfl ?_;omega)|apply AD|refine AC (hS) ?_)<;>conv=>whnf))
  all_goals
   refine OC (enc:=eN) (λ_=>rfl) p1 ?_;generalize o.take n=t at *;have ub : ∀ (m:Nat) (x:Option Rat),t[m]? = some x->(t.map vO)[m]? = some (vO x):=λ m x h=>by rw[List.getElem?_map,h];rfl
   have Fz:(t.map vO).length=n:=by rw[List.length_map];exact ck
   (conv=>whnf)
   (repeat' (apply AQ<;>conv=>whnf))
   refine DF (λ i=>n-i) (λ(i:Nat)=>i<=n) (λ i=>[(26,.int .i64 i),(4,.row 171004 0 3 0 i)]) (λ i=>[(171004,171004,.rw 3 (((t.map vO).take i).map eQ))]) 0 (by omega) ?_;intro i g1 ih;have jf:((t.map vO).take i).length=i:=by rw[List.length_take];omega
   by_cases hi:i<n
   ·all_goals try omega
    all_goals
     obtain ⟨y,hy⟩ : ∃ y,t[i]? = some y:=⟨_,zE (by omega)⟩;have yc:t[(i:Int).toNat]? = some y:=hy;have Fu:=lY (ub _ _ hy);have vf:((t.map vO).take (i+1)).length=i+1:=by rw[List.length_take];omega
     have hT:=AeO N.toa7 y (lv.at (ub _ _ hy)) hk;(repeat' ((first|(apply AG<;>intro hc<;>try omega)|(refine A8 (by assumption) ?_ rfl ?_;omega)|apply EE|apply AD|refine AC (hT) ?_)<;>conv=>whnf))
     refine EX (enc:=eQ) (vO y) rfl jf.symm rfl (by omega) (by omega) ?_;rw[<-Fu,vf];(conv=>whnf)
     (repeat' ((first|(apply A0;omega)|fail)<;>conv=>whnf))
     exact BQ [(171004,171034)] (ih (i+1) (by omega) (by omega))
   ·obtain rfl:i=n:=by omega
    clear ih;rw[zT (Nat.le_of_eq Fz)];(repeat' ((first|(apply AG<;>intro hc<;>try omega)|apply AD)<;>conv=>whnf))
    refine C7 (enc:=eQ) (λ_=>rfl) rfl Fz.symm ?_;(conv=>whnf)
    exact AW rfl (by simp only[A1,true_and];exact GF _)
 ·obtain ⟨m,rfl⟩ : ∃ m,n=m+1:=⟨n-1,by omega⟩
  obtain ⟨x,hx⟩ : ∃ x,o[m]? = some x:=⟨_,zE (by omega)⟩;have mq:vO x=0:=by
   rcases Classical.em (vO x=0) with h|h
   ·exact h
   ·exact (hz (Or.inr ⟨m,x,rfl,hx,h⟩)).elim
  have jg:o[((m+1:Nat)-1:Int).toNat]? = some x:=by rw[show ((m+1:Nat)-1:Int).toNat=m by omega];exact hx
  obtain ⟨s,hS,hs⟩:=sI N.ton7 x (hl.at (db _ _ hx)) hk;have rl:=hs.2 mq;(repeat' ((first|(apply AG<;>intro hc<;>try omega)|(apply BT;omega)|(refine A8 (by assumption) ?_ rfl ?_;omega)|apply AD|refine AC (hS) ?_)<;>conv=>whnf))
  rw[show ((m+1:Nat):Int)-1=(m:Int) by omega];exact BH [] (by (conv=>whnf);exact ⟨rfl,rfl,rfl⟩) (ih m (by omega) ⟨by omega,by rw[p2,CP,if_pos (by rw[List.getD_eq_getElem?_getD,db _ _ hx];exact mq)]⟩)
def IH (p:List Rat):List Rat:=BW ((BW p).map (· * (((1:Int):Rat)/(BW p).getD ((BW p).length-1) 0)))
theorem gT (N:dp L) (q:Bool) (p:List Rat) (k:Nat) (hp:Bs k p) (hk:1<=k/\k<100000000000) (hl:p.length<=1000):Ev L 393 [.sl q (p.map eQ)] (.sl false ((IH p).map eQ)):=by
 have hT:=QL N.tou5 q p k hp (by omega) (by omega);have tl:(BW p).length<=p.length:=by rw[J8];exact IW _ _
 have tb:=hp.trim;have ti:=VN p;unfold IH;generalize BW p=t at *;have hO:=QK N.toa7 1 (by omega);by_cases h0:t.length=0
 ·obtain rfl:=List.length_eq_zero_iff.1 h0
  refine Ev.x N.I6 rfl rfl ?_;(repeat' ((first|(apply AG<;>intro hc<;>try omega)|apply AQ|apply AD|refine AC (hT) ?_)<;>conv=>whnf))
  exact AW rfl (by trivial)
 ·have hz:=RC ti h0
  obtain ⟨x,hx⟩ : ∃ x,t[t.length-1]? = some x:=⟨_,zE (by omega)⟩;have jg:t[((t.length:Int)-1).toNat]? = some x:=by rw[show ((t.length:Int)-1).toNat=t.length-1 by omega];exact hx
  rw[IG hx]at hz ⊢;have h1:Bt 1 ((1:Int):Rat):=Bt.one 1;have wy:=iC N.tow7 h1 (tb.at hx) (by omega) (by omega) hz;have hSc:=AeB N.toiv false t (((1:Int):Rat)/x) k (1+k) tb (h1.jr (tb.at hx)) (by omega) (by omega);refine Ev.x N.I6 rfl rfl ?_;(repeat' ((first|(apply AG<;>intro hc<;>try omega)|(apply BT;omega)|apply AQ|(refine A8 (by assumption) ?_ rfl ?_;omega)|apply AD|refine AC (hT) ?_|refine AC (hO) ?_|refine AC (wy) ?_|refine AC (hSc) ?_)<;>conv=>whnf))
  exact AW rfl (by simp only[A1,true_and];exact GF _)
def HP (p d:List Rat) (c:Rat) (n kk i:Nat):List Rat:=(List.range n).map λ j=>p.getD j 0-if kk<=j/\j<kk+i then c*d.getD (j-kk) 0 else 0
theorem WC (p d:List Rat) (c:Rat) (n kk i:Nat):(HP p d c n kk i).length=n:=by simp [HP]
theorem YF {p d:List Rat} {c:Rat} {n kk i j:Nat} (hj:j<n):(HP p d c n kk i)[j]? = some (p.getD j 0-if kk<=j/\j<kk+i then c*d.getD (j-kk) 0 else 0):=by
 rw[HP,List.getElem?_map,List.getElem?_range hj];rfl
theorem Vw {p d:List Rat} {c:Rat} {n kk:Nat} (hn:n<=p.length):HP p d c n kk 0=p.take n:=by
 refine List.ext_getElem? λ j => ?_
 by_cases hj:j<n
 ·rw[YF hj,if_neg (by omega),List.getElem?_take_of_lt hj,zE (by omega)]
  rw[IG (zE (by omega))];congr 1;grind
 ·rw[List.getElem?_eq_none (by rw[WC];omega),List.getElem?_eq_none (by rw[List.length_take];omega)]
theorem Wa {p d:List Rat} {c x y:Rat} {n kk i:Nat} (hi:kk+i<n) (hx:p[kk+i]? = some x) (hy:d[i]? = some y):(HP p d c n kk i).set (kk+i) (x-c*y)=HP p d c n kk (i+1):=by
 refine List.ext_getElem? λ j => ?_
 by_cases hj:j<n
 ·rw[List.getElem?_set,WC,YF hj,YF hj]
  by_cases e:kk+i=j
  ·subst e
   rw[if_pos rfl,if_pos hi,if_pos (by omega),IG hx,show kk+i-kk=i by omega,IG hy]
  ·rw[if_neg e]
   by_cases h1:kk<=j/\j<kk+i
   ·rw[if_pos h1,if_pos (by omega)]
   ·rw[if_neg h1,if_neg (by omega)]
 ·rw[List.getElem?_eq_none (by rw[List.length_set,WC];omega),List.getElem?_eq_none (by rw[WC];omega)]
theorem Vz {p d:List Rat} {c x:Rat} {n kk i:Nat} (hi:kk+i<n) (hx:p[kk+i]? = some x):(HP p d c n kk i)[kk+i]? = some x:=by
 rw[YF hi,if_neg (by omega),IG hx];congr 1;grind
theorem Vx {p d:List Rat} {c:Rat} {n kk i s k:Nat} (hp:Bs s p) (hd:Bs k d) (hc:Bt (s+k) c):Bs (2*s+2*k+1) (HP p d c n kk i):=λ x hx=>by
 obtain ⟨j,_,rfl⟩:=List.mem_map.1 hx;have h1:=GH hp j;have h2:=GH hd (j-kk);split
 ·exact (h1.qe (hc.mul h2)).le (by omega)
 ·rw[show p.getD j 0-0=p.getD j 0 by grind]
  exact h1.le (by omega)
theorem Vy {p d:List Rat} {n kk e:Nat} (hp:p.length=n+1) (hd:d.length=e+1) (hk:n=kk+e) (hz:d.getD e 0≠0) (j:Nat):(HP p d (p.getD n 0/d.getD e 0) n kk e).getD j 0=p.getD j 0-if kk<=j then (p.getD n 0/d.getD e 0)*d.getD (j-kk) 0 else 0:=by
 by_cases hj:j<n
 ·rw[IG (YF hj)]
  by_cases h1:kk<=j
  ·rw[if_pos h1,if_pos (by omega)]
  ·rw[if_neg h1,if_neg (by omega)]
 ·rw[JV (l:=HP _ _ _ _ _ _) (by rw[WC];omega),if_pos (by omega)]
  by_cases h2:j=n
  ·subst h2
   rw[show j-kk=e by omega,Rat.div_def,Rat.mul_assoc,Rat.inv_mul_cancel _ hz];grind
  ·rw[show p.getD j 0=0 from JV (by omega),show d.getD (j-kk) 0=0 from JV (by omega)]
   grind
theorem AgY {s t u k:Nat} (h:t<u) (hs:s=5^t*k) (hk:1<=k):2*s+2*k+1<=5^u*k:=by
 have h1:5^(t+1)*k<=5^u*k:=zR k (Nat.pow_le_pow_right (by omega) h);have h2:5^(t+1)*k=5*s:=by rw[Nat.pow_succ,hs,Nat.mul_comm (5^t) 5,Nat.mul_assoc]
 have h3:k<=s:=by rw[hs];exact Nat.le_mul_of_pos_left k (Nat.pow_pos (by omega))
 omega
theorem AgZ {t k:Nat} (h:t<=4) (hk:k<=1000000000):5^t*k<=625000000000:=by
 have h1:5^t<=5^4:=Nat.pow_le_pow_right (by omega) h;have:=Nat.mul_le_mul h1 hk
 omega
theorem Uc {l:List (Option Rat)} {B i:Nat} {c:Rat} (h:Bs B (l.map vO)) (hc:Bt B c):Bs B ((l.set i (some c)).map vO):=λ x hx=>by
 obtain ⟨o,ho,rfl⟩:=List.mem_map.1 hx;rcases List.mem_or_eq_of_mem_set ho with h1|rfl
 ·exact h _ (List.mem_map.2 ⟨o,h1,rfl⟩)
 ·exact hc
theorem Ub (B n:Nat):Bs B ((List.replicate n (none:Option Rat)).map vO):=λ x hx=>by
 obtain ⟨o,ho,rfl⟩:=List.mem_map.1 hx;rw[List.eq_of_mem_replicate ho];exact Bt.zero B
theorem Yp (N:dp L) (q1 q2:Bool) (p d:List Rat) (k:Nat) (hp:Bs k p) (hd:Bs k d) (tp:BW p=p) (td:BW d=d) (h0:0<d.length) (qu:p.length<=4) (vy:d.length<=4) (hk:1<=k/\k<=1000000000) :
  ∃ U R:List Rat,Ev L 394 [.sl q1 (p.map eQ),.sl q2 (d.map eQ)] (.l6 [.sl false (U.map eQ),.sl false (R.map eQ),.int .i64 0])/\BW R=R/\R.length<d.length/\R.length<=p.length/\Bs (5^(p.length-R.length)*k) R /\ ∀ y,C2 d y->(C2 R y↔C2 p y):=by
 suffices h : ∃ v,Ev L 394 [.sl q1 (p.map eQ),.sl q2 (d.map eQ)] v /\ ∃ U R:List Rat,v = .l6 [.sl false (U.map eQ),.sl false (R.map eQ),.int .i64 0]/\BW R=R/\R.length<d.length/\R.length<=p.length/\Bs (5^(p.length-R.length)*k) R /\ ∀ y,C2 d y->(C2 R y↔C2 p y) by
  obtain ⟨v,h1,U,R,rfl,h2⟩:=h;exact ⟨U,R,h1,h2⟩
 have yx:=QL N.tou5 q1 p k hp (by omega) (by omega);have re:=QL N.tou5 q2 d k hd (by omega) (by omega);rw[tp]at yx;rw[td]at re;obtain ⟨e,he⟩ : ∃ e,d.length=e+1:=⟨d.length-1,by omega⟩;obtain ⟨y,hy⟩ : ∃ y,d[e]? = some y:=⟨_,zE (by omega)⟩;have hz:=RC td (by omega);rw[he,Nat.add_sub_cancel]at hz;have Pb:=hz;rw[IG hy]at Pb;have yc:d[((d.length:Int)-1).toNat]? = some y:=by rw[show ((d.length:Int)-1).toNat=e by omega];exact hy
 refine Ev.xE N.MU rfl rfl ?_;(repeat' ((first|(apply AG<;>intro hc<;>try omega)|(apply A0;omega)|(apply BT;omega)|apply AQ|apply AD|refine AC (yx) ?_|refine AC (re) ?_)<;>conv=>whnf))
 all_goals
  refine EH (enc:=eO) none (p.length+1-d.length) rfl (by omega) (by omega) ?_;(conv=>whnf)
  skip
  refine HG (λ p' _=>p'.length) (λ(p':List Rat) (l:List (Option Rat))=>BW p'=p'/\p'.length<=p.length/\Bs (5^(p.length-p'.length)*k) p'/\(∀ y,C2 d y->(C2 p' y↔C2 p y))/\l.length=p.length+1-d.length/\Bs 1000000000000 (l.map vO)) (λ p' _=>[(0,.sl false (p'.map eQ))]) (λ_ l=>[(26,26,.rw 3 (l.map eO))]) p (List.replicate (p.length+1-d.length) none) ⟨tp,Nat.le_refl _,by rw[Nat.sub_self];simpa using hp,λ_ _=>Iff.rfl,by simp,Ub _ _⟩ ?_;intro p' l ⟨h1,h2,h3,h4,h5,h6⟩ ih;by_cases m9:p'.length<d.length
  ·have hTO:=λ q=>AeC N.tou5 q l 1000000000000 h6 (by omega) (by omega)
   (repeat' ((first|(apply AG<;>intro hc<;>try omega)|apply AQ|apply AD)<;>conv=>whnf))
   refine Ui h5.symm ?_;(conv=>whnf)
   (repeat' (refine AC (hTO _) ?_<;>conv=>whnf))
   exact ⟨_,AW rfl (by simp only[A1,CD,true_and,and_true];exact ⟨GF _,GF _⟩),BW (l.map vO),p',rfl,h1,m9,h2,h3,h4⟩
  ·try omega
   all_goals
    obtain ⟨n,hn⟩ : ∃ n,p'.length=n+1:=⟨p'.length-1,by omega⟩;obtain ⟨kk,il⟩ : ∃ kk,n=kk+e:=⟨n-e,by omega⟩;obtain ⟨x,hx⟩ : ∃ x,p'[n]? = some x:=⟨_,zE (by omega)⟩;have jg:p'[((p'.length:Int)-1).toNat]? = some x:=by rw[show ((p'.length:Int)-1).toNat=n by omega];exact hx
    have hs5:=AgZ (t:=p.length-p'.length) (k:=k) (by omega) hk.2;generalize hS:5^(p.length-p'.length)*k=s at *;have Bn:=h3.at hx;have jt:=Bn.jr (hd.at hy);have wy:=iC N.tow7 Bn (hd.at hy) (by omega) (by omega) Pb;have hcd:x/y=p'.getD n 0/d.getD e 0:=by rw[IG hx,IG hy]
    generalize x/y=c at *;(repeat' ((first|(apply AG<;>intro hc<;>try omega)|(apply AU;omega)|(apply BT;omega)|apply AQ|(refine A8 (by assumption) ?_ rfl ?_;omega)|apply AD|refine AC (wy) ?_)<;>conv=>whnf))
    refine eF (enc:=eO) (some c) rfl (λ e=>by cases e<;>rfl) (by omega) ?_;have gv:(l.set (0+((p'.length:Int)-d.length).toNat) (some c)).length=p.length+1-d.length:=by rw[List.length_set];exact h5
    have u7:Bs 1000000000000 ((l.set (0+((p'.length:Int)-d.length).toNat) (some c)).map vO):=Uc h6 (jt.le (by omega));generalize l.set (0+((p'.length:Int)-d.length).toNat) (some c)=l2 at *;(conv=>whnf)
    (repeat' ((first|(apply BT;omega)|apply AQ)<;>conv=>whnf))
    rw[show (p'.length:Int)-1=(n:Int) by omega,show (p'.length:Int)-d.length=(kk:Int) by omega];refine OC (enc:=eQ) (λ_=>rfl) (by omega) ?_;rw[<-Vw (d:=d) (c:=c) (kk:=kk) (show n<=p'.length by omega)];(conv=>whnf)
    have Cb:=WC p' d c n kk;refine PB (enc:=eQ) (λ_=>rfl) (by rw[Cb];omega) (by rw[Cb];omega) ?_;rw[Cb];(conv=>whnf)
    skip
    refine DF (λ i=>e-i) (λ(i:Nat)=>i<=e) (λ i=>[(11,.int .i64 i)]) (λ i=>[(59,59,.rw 3 ((HP p' d c n kk i).map eQ))]) 0 (by omega) ?_;intro i p1 jh;by_cases hi:i<e
    ·obtain ⟨z,fw⟩ : ∃ z,d[i]? = some z:=⟨_,zE (by omega)⟩
     obtain ⟨w,hw⟩ : ∃ w,p'[kk+i]? = some w:=⟨_,zE (by omega)⟩;have qw:d[(i:Int).toNat]? = some z:=fw;have o7:=Vz (d:=d) (c:=c) (n:=n) (kk:=kk) (i:=i) (by omega) hw;have rm:=Wa (c:=c) (n:=n) (kk:=kk) (by omega) hw fw;have Og:=Cb i;have Ej:=jt.mul (hd.at fw);have hM:=T4 N.toa7 jt (hd.at fw) (by omega) (by omega);have hSb:=sJ N.ton7 (h3.at hw) Ej (by omega) (by omega);generalize HP p' d c n kk i=D at *;(repeat' ((first|(apply AG<;>intro hc<;>try omega)|(apply AU;omega)|(apply A0;omega)|(apply BT;omega)|apply AQ|(refine A8 (by assumption) ?_ rfl ?_;omega)|(refine FB ?_ (λ_=>rfl) (λ v hv => ?_);omega)|apply AD|refine AC (hM) ?_)<;>conv=>whnf))
     obtain rfl:w=v:=Option.some.inj (o7.symm.trans hv);(repeat' ((first|(apply AU;omega)|refine AC (hSb) ?_)<;>conv=>whnf))
     refine eF (enc:=eQ) (w-c*z) rfl (λ_=>rfl) (by omega) ?_;rw[show 0+((kk:Int)+i).toNat=kk+i by omega,rm];(conv=>whnf)
     (repeat' ((first|(apply A0;omega)|fail)<;>conv=>whnf))
     exact BQ [] (jh (i+1) (by omega) (by omega))
    ·obtain rfl:i=e:=by omega
     clear jh;have Mx:=Vx (n:=n) (kk:=kk) (i:=i) h3 hd jt;have My:=Vy (kk:=kk) hn he il hz;rw[<-hcd]at My;have rf:=λ q=>QL N.tou5 q (HP p' d c n kk i) (2*s+2*k+1) Mx (by omega) (by rw[Cb];omega)
     have Dk:=Cb i;generalize HP p' d c n kk i=D at *;have ck:(BW D).length<=n:=by rw[J8,Dk];exact IW _ _
     (repeat' ((first|(apply AG<;>intro hc<;>try omega)|(apply BT;omega)|apply AQ|apply AD)<;>conv=>whnf))
     refine C7 (enc:=eQ) (λ_=>rfl) rfl Dk.symm ?_;(conv=>whnf)
     (repeat' (refine AC (rf _) ?_<;>conv=>whnf))
     refine BH [] (by (conv=>whnf);exact ⟨rfl,rfl,rfl⟩) (ih (BW D) l2 (by omega) ⟨VN _,by omega,Bs.le Mx.trim (AgY (t:=p.length-p'.length) (by omega) hS.symm hk.1),λ y hy => ?_,gv,u7⟩);rw[C2.trim,C2.step My hy];exact h4 y hy
theorem jY (p:List Rat):BW (IH p)=IH p:=VN _
theorem jX {p:List Rat} {k:Nat} (h:Bs k p):Bs (2*k+1) (IH p):=Bs.trim λ x hx=>by
 obtain ⟨y,hy,rfl⟩:=List.mem_map.1 hx;have h1:Bt 1 ((1:Int):Rat):=Bt.one 1;exact ((h.trim y hy).mul (h1.jr (GH h.trim _))).le (by omega)
theorem U2 (p:List Rat):(IH p).length<=p.length:=by
 have h1:(IH p).length<=(BW p).length:=by
  rw[IH,J8];exact Nat.le_trans (IW _ _) (by rw[List.length_map];exact Nat.le_refl _)
 have h2:(BW p).length<=p.length:=by rw[J8];exact IW _ _
 omega
theorem U3 (p:List Rat) (y:Nat->Rat):C2 (IH p) y↔C2 p y:=by
 rw[IH,C2.trim];by_cases h:(BW p).length=0
 ·rw[List.length_eq_zero_iff.1 h,List.map_nil,<-C2.trim (p:=p),List.length_eq_zero_iff.1 h]
 ·have hz:=RC (VN p) h
  rw[C2.scale,C2.trim];intro h0;rw[Rat.div_def]at h0;rcases Rat.mul_eq_zero.1 h0 with h1|h1
  ·exact absurd h1 (by decide)
  ·have:=Rat.mul_inv_cancel _ hz
   rw[h1,Rat.mul_zero]at this;exact absurd this (by decide)
def mw (a b:Nat):Nat:=5^(8-a-b)*(3^(4-b)*10)
theorem tH (a b:Nat):mw a b<=1000000000000/3000:=by
 have h1:5^(8-a-b)<=5^8:=Nat.pow_le_pow_right (by omega) (by omega);have h2:3^(4-b)<=3^4:=Nat.pow_le_pow_right (by omega) (by omega);have:=Nat.mul_le_mul h1 (zR 10 h2)
 rw[mw];omega
theorem AeU {a b r:Nat} (hr:r<b) (Hj:r<=a) (ha:a<=4) (hb:b<=4):2*(5^(a-r)*mw a b)+1<=mw b r:=by
 have h1:5^(8-b-r)=5^(a-r)*5^(8-a-b):=by rw[<-Nat.pow_add];congr 1;omega
 have h2:3*3^(4-b)<=3^(4-r):=by
  rw[Nat.mul_comm,<-Nat.pow_succ];exact Nat.pow_le_pow_right (by omega) (by omega)
 rw[mw,mw,h1,<-Nat.mul_assoc (5^(a-r))];have hp:1<=5^(a-r)*5^(8-a-b):=Nat.mul_pos (Nat.pow_pos (by omega)) (Nat.pow_pos (by omega));have hq:1<=3^(4-b):=Nat.pow_pos (by omega);generalize 5^(a-r)*5^(8-a-b)=u at *;generalize 3^(4-b)=v at *;have h3:u*(3*v*10)<=u*(3^(4-r)*10):=Nat.mul_le_mul_left u (zR 10 h2);have h4:1<=u*v:=Nat.mul_pos hp hq;have e1:u*(3*v*10)=30*(u*v):=by rw[<-Nat.mul_assoc,<-Nat.mul_assoc,Nat.mul_comm u 3,Nat.mul_assoc 3,Nat.mul_comm (3*(u*v)) 10,<-Nat.mul_assoc]
 have e2:u*(v*10)=10*(u*v):=by rw[<-Nat.mul_assoc,Nat.mul_comm]
 omega
theorem bN {a b a' b':Nat} (ha:a'<=a) (hb:b'<=b):mw a b<=mw a' b':=by
 rw[mw,mw];exact Nat.mul_le_mul (Nat.pow_le_pow_right (by omega) (by omega)) (zR 10 (Nat.pow_le_pow_right (by omega) (by omega)))
theorem Yq (N:dp L) (q1 q2:Bool) (p d:List Rat) (hp:Bs 4 p) (hd:Bs 4 d) (h0:BW d≠[]) (qu:p.length<=4) (vy:d.length<=4) :
  ∃ R:List Rat,Ev L 395 [.sl q1 (p.map eQ),.sl q2 (d.map eQ)] (.sl false (R.map eQ))/\BW R=R/\0<R.length/\R.length<=4/\Bs 1000000000000 R/\(J9 p d↔R.length≠1):=by
 suffices h : ∃ v,Ev L 395 [.sl q1 (p.map eQ),.sl q2 (d.map eQ)] v /\ ∃ R:List Rat,v = .sl false (R.map eQ)/\BW R=R/\0<R.length/\R.length<=4/\Bs 1000000000000 R/\(J9 p d↔R.length≠1) by
  obtain ⟨v,h1,R,rfl,h2⟩:=h;exact ⟨R,h1,h2⟩
 have aq:=gT N q1 p 4 hp (by omega) (by omega);have eb:=gT N q2 d 4 hd (by omega) (by omega);have Ew:0<(IH d).length:=by
  refine Nat.pos_of_ne_zero λ h=>h0 ?_
  have hz : ∀ y,C2 d y:=λ y=>(U3 d y).1 (by rw[List.length_eq_zero_iff.1 h];exact C2.nil y)
  refine Classical.byContradiction λ m8 => ?_
  have hl:(BW d).length≠0:=λ e=>m8 (List.length_eq_zero_iff.1 e)
  have h1:=RC (VN d) hl;have h2 : ∀ j,(λ_:Nat=>(0:Rat)) j=0:=λ_=>rfl
  obtain ⟨n,hn⟩ : ∃ n,(BW d).length=n+1:=⟨(BW d).length-1,by omega⟩;rw[hn,Nat.add_sub_cancel]at h1;have h3:=C2.trim.2 (hz λ j=>if j=n then 1 else 0) 0;rw[eI hn,O8 n (λ i hi=>by rw[if_neg (by omega),Rat.mul_zero]),if_pos (by omega)]at h3;refine h1 ?_;grind
 refine Ev.xE N.MV rfl rfl ?_;(repeat' ((first|apply AD|refine AC (aq) ?_|refine AC (eb) ?_)<;>conv=>whnf))
 refine HG (λ_ b=>b.length) (λ(a b:List Rat)=>BW a=a/\BW b=b/\a.length<=4/\b.length<=4/\Bs (mw a.length b.length) a/\Bs (mw a.length b.length) b/\(0<a.length\/0<b.length)/\(J9 p d↔J9 a b)) (λ a b=>[(0,.sl false (a.map eQ)),(1,.sl false (b.map eQ))]) (λ_ _=>[]) (IH p) (IH d) ⟨jY p,jY d,Nat.le_trans (U2 p) qu,Nat.le_trans (U2 d) vy,?_,?_,Or.inr Ew,?_⟩ ?_
 ·exact (jX hp).le (Nat.le_trans (by decide) (bN (a:=4) (b:=4) (Nat.le_trans (U2 p) qu) (Nat.le_trans (U2 d) vy)))
 ·exact (jX hd).le (Nat.le_trans (by decide) (bN (a:=4) (b:=4) (Nat.le_trans (U2 p) qu) (Nat.le_trans (U2 d) vy)))
 ·constructor
  ·rintro ⟨y,h1,h2,h3⟩
   exact ⟨y,(U3 p y).2 h1,(U3 d y).2 h2,h3⟩
  ·rintro ⟨y,h1,h2,h3⟩
   exact ⟨y,(U3 p y).1 h1,(U3 d y).1 h2,h3⟩
 intro a b ⟨ta,tb,la,lb,ba,bb,au,gq⟩ ih;have hg:=tH a.length b.length;by_cases hb:b.length=0
 ·have vq:=List.length_eq_zero_iff.1 hb
  subst vq;(repeat' ((first|(apply AG<;>intro hc<;>try omega)|apply AQ|apply AD)<;>conv=>whnf))
  refine ⟨_,AW rfl (by simp only[A1,true_and];exact GF _),a,rfl,ta,by omega,la,ba.le (by omega),?_⟩;rw[gq];exact Wu ta (by omega)
 ·have Nr:1<=mw a.length b.length:=by
   rw[mw];exact Nat.mul_pos (Nat.pow_pos (by omega)) (Nat.mul_pos (Nat.pow_pos (by omega)) (by omega))
  obtain ⟨U,R,hD,tR,lR,Pf,bR,zR⟩:=Yp N false false a b (mw a.length b.length) ba bb ta tb (by omega) la lb ⟨Nr,by omega⟩;have m5:=AeU lR Pf la lb;have hk5:=tH b.length R.length;have hMR:=gT N false R _ bR ⟨Nat.mul_pos (Nat.pow_pos (by omega)) Nr,by omega⟩ (by omega);have Kj:=jX bR;have jn:=U2 R;(repeat' ((first|(apply AG<;>intro hc<;>try omega)|apply AQ|apply AD|refine AC (hD) ?_|refine AC (hMR) ?_)<;>conv=>whnf))
  refine BH [] (by (conv=>whnf);exact ⟨rfl,rfl,rfl⟩) (ih b (IH R) (by omega) ⟨tb,jY R,lb,by omega,?_,?_,Or.inl (by omega),?_⟩)
  ·have h5:mw a.length b.length<=5^(a.length-R.length)*mw a.length b.length:=Nat.le_mul_of_pos_left _ (Nat.pow_pos (by omega))
   have h6:=bN (a:=b.length) (b:=R.length) (Nat.le_refl _) jn;exact bb.le (by omega)
  ·exact Kj.le (Nat.le_trans m5 (bN (Nat.le_refl _) jn))
  ·rw[gq]
   constructor
   ·rintro ⟨y,h1,h2,h3⟩
    exact ⟨y,h2,(U3 R y).2 ((zR y h2).2 h1),h3⟩
   ·rintro ⟨y,h1,h2,h3⟩
    exact ⟨y,(zR y h1).1 ((U3 R y).1 h2),h1,h3⟩
theorem AeM (N:bp L) (S:DQ) (n k:Nat) (h:S.Ok n k) (hn:n<=16):Ev L 281 [.agg (eS S)] (.bool true):=by
 have Il:=Xo N.toz8 S n k h (by omega);have Ba:=h.la;refine Ev.x N.NT rfl rfl ?_;(repeat' ((first|(apply AG<;>intro hc<;>try omega)|apply AQ|apply AD|refine AC (Il) ?_)<;>conv=>whnf))
 exact HH rfl
theorem AeL (N:bp L) (S:DQ) (n k:Nat) (h:S.Ok n k) (hn:n<=16):Ev L 284 [.agg (eS S)] (.bool true):=by
 have Il:=Xp N.toz8 S n k h (by omega);have Ba:=h.la;refine Ev.x N.NB rfl rfl ?_;(repeat' ((first|(apply AG<;>intro hc<;>try omega)|apply AQ|apply AD|refine AC (Il) ?_)<;>conv=>whnf))
 exact HH rfl
theorem rF (N:z8 L) (m:List (List Rat)) (b:List Rat) (q1 q2 q3:Bool) (n k s:Nat) (hs:Sq n m) (hb:b.length=n) (hm:Ms k m) (fb:Bs s b) (hn:n<=4) (hK:4*(k+s+1)+k+s<2199023255552):Ev L 138 [.sl q1 (CE q3 m),.sl q2 (b.map eQ)] (.sl false ((A6 m b).map eQ)):=by
 have jn:=hs.l;have ma:=GX m b;refine Ev.x N.M9 rfl rfl ?_;(repeat' (apply AD<;>conv=>whnf))
 refine DF (λ j=>m.length-j) (λ(j:Nat)=>j<=m.length) (λ j=>[(6,.int .i64 j),(5,.row 138005 0 3 0 j)]) (λ j=>[(138005,138005,.rw 3 (((A6 m b).take j).map eQ))]) 0 (by omega) ?_;intro j r1 jh;have hlen:((A6 m b).take j).length=j:=by rw[List.length_take];omega
 by_cases hj:j<m.length
 ·obtain ⟨r,hr⟩ : ∃ r,m[j]? = some r:=⟨_,zE hj⟩
  have ml:m[(j:Int).toNat]? = some r:=hr;have bk:=hs.at hr;have Gq:=λ q q'=>Yr N r b q q' k s (by omega) (hm.at hr) fb (by rw[bk];have:=zR (k+s+1) hn;omega) (by omega)
  have hy:(A6 m b)[j]? = some (A2 r b):=by rw[A6,List.getElem?_map,hr];rfl
  have Es:((A6 m b).take (j+1)).length=j+1:=by rw[List.length_take];omega
  (repeat' ((first|(apply AG<;>intro hc<;>try omega)|apply AQ|(refine A8 (by assumption) ?_ rfl ?_;omega)|apply EE|apply AD|refine AC (Gq _ _) ?_)<;>conv=>whnf))
  refine EX (enc:=eQ) (A2 r b) rfl hlen.symm rfl (by omega) (by omega) ?_;(conv=>whnf)
  (repeat' ((first|(apply A0;omega)|fail)<;>conv=>whnf))
  rw[<-H7 hy,Es];exact BQ [(138005,138021)] (jh (j+1) (by omega) (by omega))
 obtain rfl:j=m.length:=by omega
 clear jh;rw[zT (by omega)];(repeat' ((first|(apply AG<;>intro hc<;>try omega)|apply AQ|apply AD)<;>conv=>whnf))
 refine C7 (enc:=eQ) (λ_=>rfl) rfl ma.symm ?_;(conv=>whnf)
 exact AW rfl (by simp only[A1,true_and];exact GF _)
def OU (x:Rat):Option (Nat × List (List AV)):=some (3,[eQ x])
theorem nC {R:List (Option (Nat × List (List AV)))} {e:Nat} {r:Option (Nat × List (List AV))} {K:Option (Nat × List (List AV))->Prop} (h:R[e]? = some r) (hk:K r):BR R e K:=by
 unfold BR;exact ⟨r,h,hk⟩
theorem vN {T:List (List Rat)} {n i:Nat} (hl:T.length=n) (hi:i<n):(mz T n i)[i]? = some none:=by
 have gv:(BM 3 eQ (T.take i)).length=i:=by simp only[BM,List.length_map,List.length_take];omega
 have:=tC (z:=(none:Option (Nat × List (List AV)))) (l:=BM 3 eQ (T.take i)) (m:=n) (by omega)
 rw[gv]at this;exact this
theorem rO (N:y9 L) (q q':Bool) (a:List (List Rat)) (n w k:Nat) (x7:a.length=n) (ua : ∀ r∈a,r.length=w) (hn:1<=n/\n<=52) (hw:1<=w/\w<=52) (au:Ms k a) (hk:k<2199023255552):Ev L 246 [.sl q (CE q' a)] (.sl false (eM (G2 a w))):=by
 have db : ∀ i,i<w->(G2 a w)[i]? = some (C0 a i):=λ i h=>zC h
 have ck:=zJ a w;have Ar : ∀ i,(C0 a i).length=n:=λ i=>by simp [C0,x7]
 have hx : ∀ i j,i<w->j<n -> ∃ r x,a[j]? = some r/\r[i]? = some x/\(C0 a i)[j]? = some x/\r.length=w/\Bt k x:=λ i j h1 h2=>by
  obtain ⟨r,hr⟩ : ∃ r,a[j]? = some r:=⟨_,zE (by omega)⟩;have bk:=ua r (zM hr);obtain ⟨x,hx⟩ : ∃ x,r[i]? = some x:=⟨_,zE (by omega)⟩;exact ⟨r,x,hr,hx,by rw[C0,List.getElem?_map,hr,Option.map_some,List.getD_eq_getElem?_getD,hx];rfl,bk,(au.at hr).at hx⟩
 obtain ⟨r0,s8⟩ : ∃ r,a[0]? = some r:=⟨_,zE (by omega)⟩;have rk:a[(0:Int).toNat]? = some r0:=s8;have jv:=ua r0 (zM s8);generalize hT:G2 a w=T at *;refine Ev.x N.KZ rfl rfl ?_;(repeat' ((first|apply AQ|(refine A8 (by assumption) ?_ rfl ?_;omega)|apply AD)<;>conv=>whnf))
 unfold DZ;refine ⟨⟨by omega,by omega,by simp only[EC];omega,by omega⟩,?_⟩;rw[Int.toNat_natCast,jv];(conv=>whnf)
 skip
 refine DL (λ i=>w-i) (λ(i:Nat)=>i<=w) (λ i=>[(13,.int .i64 i)]) (λ i=>[(10,10,.mx (mz T w i))]) [] [] 0 (by first|exact (by (conv=>whnf);exact ⟨rfl,rfl,rfl⟩)|(rw[<-W6 T];exact (by (conv=>whnf);exact ⟨rfl,rfl,rfl⟩))) (by omega) ?_;intro i p1 ih;have Gg:=W4 (Q:=T) p1;by_cases hi:i<w
 ·have m5:=W5 (db i hi) hi
  have Jk:=Ar i;have fr:=vN ck hi;obtain ⟨r,x,e1,e2,e3,bk,Bn⟩:=hx i 0 hi (by omega);have wq:a[(0:Int).toNat]? = some r:=e1;have tf:r[(i:Int).toNat]? = some x:=e2;have rf:=YM N.tob8 Bn hk;have vt:(C0 a i).take 1=[x]:=by rw[List.take_add_one,e3];rfl
  generalize mz T w i=R0 at *;(repeat' ((first|(apply AG<;>intro hc<;>try omega)|apply AQ|apply AD)<;>conv=>whnf))
  refine JI ?_;(repeat' ((first|(apply AG<;>intro hc<;>try omega)|(apply AU;omega)|apply AD)<;>conv=>whnf))
  refine nC (r:=none) (by rw[Nat.zero_add,Int.toNat_natCast];exact fr) ?_;(conv=>whnf)
  (repeat' ((first|(refine A8 (by assumption) ?_ rfl ?_;omega)|apply EE|refine AC (rf) ?_)<;>conv=>whnf))
  refine ZV (enc:=eQ) x rfl rfl (by omega) ?_;(conv=>whnf)
  (repeat' ((first|(apply AU;omega)|fail)<;>conv=>whnf))
  refine AU rfl ?_;refine OB (i:=i) (by omega) (by omega) ?_;(conv=>whnf)
  (repeat' ((first|(apply A0;omega)|fail)<;>conv=>whnf))
  refine DL (λ j=>n-j) (λ(j:Nat)=>1<=j/\j<=n) (λ j=>[(18,.int .i64 j)]) (λ j=>[(10,10,.mx (R0.set i (some (3,((C0 a i).take j).map eQ))))]) [] [] 1 (by first|exact (by (conv=>whnf);exact ⟨rfl,rfl,rfl⟩)|(rw[vt];exact (by (conv=>whnf);exact ⟨rfl,rfl,rfl⟩))) (by omega) ?_;intro j ⟨r1,r2⟩ jh;have pj:((C0 a i).take j).length=j:=by rw[List.length_take];omega
  by_cases hj:j<n
  ·obtain ⟨r,x,e1,e2,e3,bk,Bn⟩:=hx i j hi hj
   have wq:a[(j:Int).toNat]? = some r:=e1;have tf:r[(i:Int).toNat]? = some x:=e2;have rf:=YM N.tob8 Bn hk;have hs:=NX e3;have Bk:((C0 a i).take (j+1)).length=j+1:=by rw[List.length_take];omega
   generalize (C0 a i).take j=W at *;(repeat' ((first|(apply AG<;>intro hc<;>try omega)|(apply AU;omega)|apply AD)<;>conv=>whnf))
   refine N8 (by omega) (by omega) ?_;(conv=>whnf)
   (repeat' ((first|(refine A8 (by assumption) ?_ rfl ?_;omega)|apply EE|refine AC (rf) ?_)<;>conv=>whnf))
   refine JN (by omega) (by omega) ?_;(conv=>whnf)
   refine EX (enc:=eQ) x rfl (by rw[List.length_map]) rfl (by omega) (by omega) ?_;intro s' v;rw[<-hs,Bk];(conv=>whnf)
   (repeat' ((first|(apply AU;omega)|fail)<;>conv=>whnf))
   refine AU ⟨rfl,by rw[List.length_map];omega⟩ ?_;refine OB (i:=i) (by omega) (by rw[List.length_set,List.length_set];omega) ?_;rw[show 0+((i:Int)).toNat=i by omega,List.set_set,List.set_set];(conv=>whnf)
   (repeat' ((first|(apply A0;omega)|fail)<;>conv=>whnf))
   exact BQ [] (jh (j+1) (by omega) (by omega))
  have ej:j=n:=by omega
  clear jh;rw[ej,zT (by omega),m5];(repeat' ((first|(apply AG<;>intro hc<;>try omega)|(apply A0;omega)|apply AD)<;>conv=>whnf))
  exact BQ [] (ih (i+1) (by omega) (by omega))
 have ei:i=w:=by omega
 clear ih;rw[ei,W3 (by omega)];(repeat' ((first|(apply AG<;>intro hc<;>try omega)|apply AD)<;>conv=>whnf))
 refine QG (λ_=>rfl) rfl (by omega) ?_;(conv=>whnf)
 exact AW rfl (fK T)
theorem Xq (N:y9 L) (q q':Bool) (a:List (List Rat)) (n w k:Nat) (x7:a.length=n) (ua : ∀ r∈a,r.length=w) (hn:1<=n/\n<=52) (hw:1<=w/\w<=52) (au:Ms k a) (hk:k<2199023255552):Ev L 247 [.sl q (CE q' a)] (.l6 [.sl false (eM (G2 a w)),.int .i64 0]):=by
 have hV:=bF N.toq9 q q' a n w x7 ua hn hw;have hT:=rO N q q' a n w k x7 ua hn hw au hk;refine Ev.x N.KW rfl rfl ?_;(repeat' ((first|apply AD|refine AC (hV) ?_|refine AC (hT) ?_)<;>conv=>whnf))
 exact AW rfl (V7 (G2 a w) 0)
def cM (l:List Rat):Option (Nat × List (List AV)):=if l=[] then none else some (3,l.map eQ)
theorem wA:cM []=none:=if_pos rfl
theorem cN {l:List Rat} (h:0<l.length):cM l=some (3,l.map eQ):=if_neg (λ e=>by rw[e]at h;cases h)
theorem Zr {s t:Rat} (hs:s≠0) (ht:t≠0) (r c:List Rat):A2 (r.map (· * s)) (c.map (· * t))/(s*t)=A2 r c:=by
 rw[YG,F4,YG,F4];have h1:=Rat.mul_inv_cancel s hs;have h2:=Rat.mul_inv_cancel t ht;rw[Rat.div_def,Rat.inv_mul_rev];grind
theorem Air (N:q9 L) (q1 q2 q3 q4:Bool) (b:List (List Rat)) (a:List (List Rat)) (n WW k:Nat) {K:Nat} (x7:a.length=n) (du : ∀ r∈a,r.length=WW) (hn:1<=n/\n<=52) (hW:WW<=104) (au:Ms k a) (ux : ∀ r∈a,∀ j,Bt K (BG (r.take j))) (Oa:k<=K) (Dn:K<=1000000000000) {kk:List It} {Q:Tm->Mem->Prop}
  (bu:AA L kk ([(5,.row 231019 0 3 0 n),(4,.row 231016 0 1 0 n)]++[(1000+33,.sl q1 (CE q2 a)),(1000+31,.bool false),(1000+0,.sl q1 (CE q2 a)),(1000+(0+1),.sl q3 (CE q4 b))]) ([(231016,231016,.mx (BM 3 eQ (whole a))),(231019,231019,.rw 3 ((a.map BG).map eQ))]++[]) Q) :
  AA L (.lp GI.l1 :: .e7 0::kk) ([(22,.int .i64 0),(21,.int .i64 n),(20,.sl q1 (CE q2 a)),(5,.row 231019 0 3 0 n),(4,.row 231016 0 1 0 n)]++[(1000+33,.sl q1 (CE q2 a)),(1000+31,.bool false),(1000+0,.sl q1 (CE q2 a)),(1000+(0+1),.sl q3 (CE q4 b))]) ([(231016,231016,.mx (List.replicate n none)),(231019,231019,.rw 3 ((List.replicate n none).map eO))]++[]) Q:=by
 have hI:=PO N.tob8 1 (by omega);refine QC (l:=[_,_]) rfl ?_;refine DL (λ i=>n-i) (λ(i:Nat)=>i<=n) (λ i=>[(22,.int .i64 i)]) (λ i=>[(231016,231016,.mx (mz (whole a) n i)),(231019,231019,.rw 3 ((D4 ((a.map BG).take i) n).map eO))]) [] [] 0 (by first|exact (by (conv=>whnf);exact ⟨rfl,rfl,rfl⟩)|(rw[<-W6 (whole a),List.take_zero,<-JT];exact (by (conv=>whnf);exact ⟨rfl,rfl,rfl⟩))) (by omega) ?_;intro i p1 ih;have Gg:=W4 (Q:=whole a) p1;by_cases hi:i<n
 ·obtain ⟨r,hr⟩ : ∃ r,a[i]? = some r:=⟨_,zE (by omega)⟩
  have ml:a[(i:Int).toNat]? = some r:=hr;have bk:=du r (zM hr);have gy:=au.at hr;have m5:=W5 (Q:=whole a) (i:=i) (n:=n) (row:=r.map (· * BG r)) (by simp [whole,hr]) hi;have uy:(a.map BG)[i]? = some (BG r):=by simp [hr]
  generalize mz (whole a) n i=R0 at *;have zo : ∀ j,Bt K (BG (r.take j)):=ux r (zM hr);have nm:=zo WW;rw[zT (by omega)]at nm;(repeat' ((first|(apply AG<;>intro hc<;>try omega)|apply AQ|(refine A8 (by assumption) ?_ rfl ?_;omega)|apply AD|refine AC (hI) ?_)<;>conv=>whnf))
  try cases hr.symm.trans hv
  refine HG (λ j _=>WW-j) (λ(j:Nat) (s:Rat)=>j<=WW/\s=BG (r.take j)) (λ j _=>[(30,.int .i64 j)]) (λ_ s=>[(231008,231008,.bx (eQ s))]) 0 ((1:Int):Rat) ⟨by omega,by rw[List.take_zero];rfl⟩ ?_;intro j s ⟨p2,p3⟩ jh;by_cases hj:j<WW
  ·obtain ⟨x,hx⟩ : ∃ x,r[j]? = some x:=⟨_,zE (by omega)⟩
   have jg:r[(j:Int).toNat]? = some x:=hx;have uz:Bt K s:=by rw[p3];exact zo j
   have bx:=gy.at hx;have aq:=KG N.tob8 uz bx (by omega) (by omega);have eb:=gX N.tob8 true uz (uz.mul bx).2 (by omega) (by omega);have Fe:BG (r.take (j+1))=s*(((s*x).den:Nat):Rat):=by rw[H7 hx,kY,<-p3];rfl
   (repeat' ((first|(apply AG<;>intro hc<;>try omega)|(apply A0;omega)|(refine A8 (by assumption) ?_ rfl ?_;omega)|refine G7 rfl ?_|apply AD|refine AC (aq) ?_|refine AC (eb) ?_)<;>conv=>whnf))
   exact BH [] (by (conv=>whnf);exact ⟨rfl,rfl,rfl⟩) (jh (j+1) _ (by omega) ⟨by omega,Fe.symm⟩)
  have ej:j=WW:=by omega
  clear jh;rw[zT (by omega)]at p3;subst p3;(repeat' ((first|(apply AG<;>intro hc<;>try omega)|apply AQ|apply AD)<;>conv=>whnf))
  rw[bk];refine EH (enc:=eO) none WW rfl (by omega) (by omega) ?_;(conv=>whnf)
  (repeat' ((first|(apply AU;omega)|fail)<;>conv=>whnf))
  refine AU (by simp) ?_;refine OB (i:=i) (by omega) (by omega) ?_;(conv=>whnf)
  (repeat' (apply AQ<;>conv=>whnf))
  refine DL (λ j=>WW-j) (λ(j:Nat)=>j<=WW) (λ j=>[(53,.int .i64 j)]) (λ j=>[(231016,231016,.mx (R0.set i (some (3,(D4 ((r.map (· * BG r)).take j) WW).map eO))))]) [] [] 0 (by first|exact (by (conv=>whnf);exact ⟨rfl,rfl,rfl⟩)|(rw[List.take_zero,<-JT];exact (by (conv=>whnf);exact ⟨rfl,rfl,rfl⟩))) (by omega) ?_;intro j r2 jh;have pj:((r.map (· * BG r)).take j).length=j:=by rw[List.length_take,List.length_map];omega
  have wc:=JS (l:=(r.map (· * BG r)).take j) (m:=WW) (by omega);by_cases hj:j<WW
  ·obtain ⟨x,hx⟩ : ∃ x,r[j]? = some x:=⟨_,zE (by omega)⟩
   have jg:r[(j:Int).toNat]? = some x:=hx;have bx:=gy.at hx;have aq:=KG N.tob8 bx nm (by omega) (by omega);have hs:=JU (l:=(r.map (· * BG r)).take j) (m:=WW) (x:=x*BG r) (by omega);rw[pj,<-H7 (show (r.map (· * BG r))[j]? = some (x*BG r) by rw[List.getElem?_map,hx];rfl)]at hs;generalize D4 ((r.map (· * BG r)).take j) WW=W0 at *;(repeat' ((first|(apply AG<;>intro hc<;>try omega)|(apply AU;omega)|(refine A8 (by assumption) ?_ rfl ?_;omega)|apply AD)<;>conv=>whnf))
   refine N8 (by omega) (by omega) ?_;(conv=>whnf)
   (repeat' (refine AC (aq) ?_<;>conv=>whnf))
   refine AU (by rw[List.length_map];omega) ?_;(conv=>whnf)
   skip
   refine JN (by omega) (by omega) ?_;(conv=>whnf)
   refine F3 (enc:=eO) (some (x*BG r)) rfl (λ e=>by cases e<;>rfl) (by omega) ?_;(conv=>whnf)
   rw[hs];refine V1 (by omega) (by rw[List.length_map,List.length_map,<-hs,List.length_set]) ?_;(conv=>whnf)
   (repeat' ((first|(apply A0;omega)|fail)<;>conv=>whnf))
   exact BQ [] (jh (j+1) (by omega) (by omega))
  have ej:j=WW:=by omega
  clear jh;rw[zT (by rw[List.length_map];omega),JR (by rw[List.length_map];exact bk),m5];have jf:((a.map BG).take i).length=i:=by rw[List.length_take,List.length_map];omega
  have Nq:=JS (l:=(a.map BG).take i) (m:=n) (by omega);have lh:=JU (l:=(a.map BG).take i) (m:=n) (x:=BG r) (by omega);rw[jf,<-H7 uy]at lh;generalize D4 ((a.map BG).take i) n=W1 at *;(repeat' ((first|(apply AG<;>intro hc<;>try omega)|(apply AU;omega)|apply AD)<;>conv=>whnf))
  refine F3 (enc:=eO) (some (BG r)) rfl (λ e=>by cases e<;>rfl) (by omega) ?_;(conv=>whnf)
  rw[lh];(repeat' ((first|(apply A0;omega)|fail)<;>conv=>whnf))
  exact BQ [] (ih (i+1) (by omega) (by omega))
 have ei:i=n:=by omega
 clear ih;rw[ei,W3 (by simp [whole,x7]),zT (by rw[List.length_map];omega),JR (by rw[List.length_map];exact x7)];(repeat' ((first|(apply AG<;>intro hc<;>try omega)|apply AD)<;>conv=>whnf))
 exact BH [] (by (conv=>whnf);exact ⟨rfl,rfl,rfl⟩) bu
theorem Ais (N:q9 L) (q1 q2 q3 q4:Bool) (a0 b:List (List Rat)) (ss:List Rat) (p:Nat) (a:List (List Rat)) (n WW k:Nat) {K:Nat} (x7:a.length=n) (du : ∀ r∈a,r.length=WW) (hn:1<=n/\n<=52) (hW:WW<=104) (au:Ms k a) (ux : ∀ r∈a,∀ j,Bt K (BG (r.take j))) (Oa:k<=K) (Dn:K<=1000000000000) {kk:List It} {Q:Tm->Mem->Prop}
  (bu:AA L kk ([(5,.row 1231019 0 3 0 n),(4,.row 1231016 0 1 0 n)]++[(1000+39,.sl false (eM a)),(1000+38,.sl q3 (CE q4 b)),(1000+7,.row 231019 0 3 0 p),(1000+6,.row 231016 0 1 0 p),(1000+(0+1),.sl q3 (CE q4 b))]) ([(1231016,231016,.mx (BM 3 eQ (whole a))),(1231019,231019,.rw 3 ((a.map BG).map eQ))]++[(231016,231016,.mx (BM 3 eQ a0)),(231019,231019,.rw 3 (ss.map eQ))]) Q) :
  AA L (.lp GI.l1 :: .e7 0::kk) ([(22,.int .i64 0),(21,.int .i64 n),(20,.sl false (eM a)),(5,.row 1231019 0 3 0 n),(4,.row 1231016 0 1 0 n)]++[(1000+39,.sl false (eM a)),(1000+38,.sl q3 (CE q4 b)),(1000+7,.row 231019 0 3 0 p),(1000+6,.row 231016 0 1 0 p),(1000+(0+1),.sl q3 (CE q4 b))]) ([(1231016,231016,.mx (List.replicate n none)),(1231019,231019,.rw 3 ((List.replicate n none).map eO))]++[(231016,231016,.mx (BM 3 eQ a0)),(231019,231019,.rw 3 (ss.map eQ))]) Q:=by
 have hI:=PO N.tob8 1 (by omega);refine QC (l:=[_,_]) rfl ?_;refine DL (λ i=>n-i) (λ(i:Nat)=>i<=n) (λ i=>[(22,.int .i64 i)]) (λ i=>[(1231016,231016,.mx (mz (whole a) n i)),(1231019,231019,.rw 3 ((D4 ((a.map BG).take i) n).map eO))]) [] [] 0 (by first|exact (by (conv=>whnf);exact ⟨rfl,rfl,rfl⟩)|(rw[<-W6 (whole a),List.take_zero,<-JT];exact (by (conv=>whnf);exact ⟨rfl,rfl,rfl⟩))) (by omega) ?_;intro i p1 ih;have Gg:=W4 (Q:=whole a) p1;by_cases hi:i<n
 ·obtain ⟨r,hr⟩ : ∃ r,a[i]? = some r:=⟨_,zE (by omega)⟩
  have ml:a[(i:Int).toNat]? = some r:=hr;have bk:=du r (zM hr);have gy:=au.at hr;have m5:=W5 (Q:=whole a) (i:=i) (n:=n) (row:=r.map (· * BG r)) (by simp [whole,hr]) hi;have uy:(a.map BG)[i]? = some (BG r):=by simp [hr]
  generalize mz (whole a) n i=R0 at *;have zo : ∀ j,Bt K (BG (r.take j)):=ux r (zM hr);have nm:=zo WW;rw[zT (by omega)]at nm;(repeat' ((first|(apply AG<;>intro hc<;>try omega)|apply AQ|(refine A8 (by assumption) ?_ rfl ?_;omega)|apply AD|refine AC (hI) ?_)<;>conv=>whnf))
  try cases hr.symm.trans hv
  refine HG (λ j _=>WW-j) (λ(j:Nat) (s:Rat)=>j<=WW/\s=BG (r.take j)) (λ j _=>[(30,.int .i64 j)]) (λ_ s=>[(231008,231008,.bx (eQ s))]) 0 ((1:Int):Rat) ⟨by omega,by rw[List.take_zero];rfl⟩ ?_;intro j s ⟨p2,p3⟩ jh;by_cases hj:j<WW
  ·obtain ⟨x,hx⟩ : ∃ x,r[j]? = some x:=⟨_,zE (by omega)⟩
   have jg:r[(j:Int).toNat]? = some x:=hx;have uz:Bt K s:=by rw[p3];exact zo j
   have bx:=gy.at hx;have aq:=KG N.tob8 uz bx (by omega) (by omega);have eb:=gX N.tob8 true uz (uz.mul bx).2 (by omega) (by omega);have Fe:BG (r.take (j+1))=s*(((s*x).den:Nat):Rat):=by rw[H7 hx,kY,<-p3];rfl
   (repeat' ((first|(apply AG<;>intro hc<;>try omega)|(apply A0;omega)|(refine A8 (by assumption) ?_ rfl ?_;omega)|refine G7 rfl ?_|apply AD|refine AC (aq) ?_|refine AC (eb) ?_)<;>conv=>whnf))
   exact BH [] (by (conv=>whnf);exact ⟨rfl,rfl,rfl⟩) (jh (j+1) _ (by omega) ⟨by omega,Fe.symm⟩)
  have ej:j=WW:=by omega
  clear jh;rw[zT (by omega)]at p3;subst p3;(repeat' ((first|(apply AG<;>intro hc<;>try omega)|apply AQ|apply AD)<;>conv=>whnf))
  rw[bk];refine EH (enc:=eO) none WW rfl (by omega) (by omega) ?_;(conv=>whnf)
  (repeat' ((first|(apply AU;omega)|fail)<;>conv=>whnf))
  refine AU (by simp) ?_;refine OB (i:=i) (by omega) (by omega) ?_;(conv=>whnf)
  (repeat' (apply AQ<;>conv=>whnf))
  refine DL (λ j=>WW-j) (λ(j:Nat)=>j<=WW) (λ j=>[(53,.int .i64 j)]) (λ j=>[(1231016,231016,.mx (R0.set i (some (3,(D4 ((r.map (· * BG r)).take j) WW).map eO))))]) [] [] 0 (by first|exact (by (conv=>whnf);exact ⟨rfl,rfl,rfl⟩)|(rw[List.take_zero,<-JT];exact (by (conv=>whnf);exact ⟨rfl,rfl,rfl⟩))) (by omega) ?_;intro j r2 jh;have pj:((r.map (· * BG r)).take j).length=j:=by rw[List.length_take,List.length_map];omega
  have wc:=JS (l:=(r.map (· * BG r)).take j) (m:=WW) (by omega);by_cases hj:j<WW
  ·obtain ⟨x,hx⟩ : ∃ x,r[j]? = some x:=⟨_,zE (by omega)⟩
   have jg:r[(j:Int).toNat]? = some x:=hx;have bx:=gy.at hx;have aq:=KG N.tob8 bx nm (by omega) (by omega);have hs:=JU (l:=(r.map (· * BG r)).take j) (m:=WW) (x:=x*BG r) (by omega);rw[pj,<-H7 (show (r.map (· * BG r))[j]? = some (x*BG r) by rw[List.getElem?_map,hx];rfl)]at hs;generalize D4 ((r.map (· * BG r)).take j) WW=W0 at *;(repeat' ((first|(apply AG<;>intro hc<;>try omega)|(apply AU;omega)|(refine A8 (by assumption) ?_ rfl ?_;omega)|apply AD)<;>conv=>whnf))
   refine N8 (by omega) (by omega) ?_;(conv=>whnf)
   (repeat' (refine AC (aq) ?_<;>conv=>whnf))
   refine AU (by rw[List.length_map];omega) ?_;(conv=>whnf)
   skip
   refine JN (by omega) (by omega) ?_;(conv=>whnf)
   refine F3 (enc:=eO) (some (x*BG r)) rfl (λ e=>by cases e<;>rfl) (by omega) ?_;(conv=>whnf)
   rw[hs];refine V1 (by omega) (by rw[List.length_map,List.length_map,<-hs,List.length_set]) ?_;(conv=>whnf)
   (repeat' ((first|(apply A0;omega)|fail)<;>conv=>whnf))
   exact BQ [] (jh (j+1) (by omega) (by omega))
  have ej:j=WW:=by omega
  clear jh;rw[zT (by rw[List.length_map];omega),JR (by rw[List.length_map];exact bk),m5];have jf:((a.map BG).take i).length=i:=by rw[List.length_take,List.length_map];omega
  have Nq:=JS (l:=(a.map BG).take i) (m:=n) (by omega);have lh:=JU (l:=(a.map BG).take i) (m:=n) (x:=BG r) (by omega);rw[jf,<-H7 uy]at lh;generalize D4 ((a.map BG).take i) n=W1 at *;(repeat' ((first|(apply AG<;>intro hc<;>try omega)|(apply AU;omega)|apply AD)<;>conv=>whnf))
  refine F3 (enc:=eO) (some (BG r)) rfl (λ e=>by cases e<;>rfl) (by omega) ?_;(conv=>whnf)
  rw[lh];(repeat' ((first|(apply A0;omega)|fail)<;>conv=>whnf))
  exact BQ [] (ih (i+1) (by omega) (by omega))
 have ei:i=n:=by omega
 clear ih;rw[ei,W3 (by simp [whole,x7]),zT (by rw[List.length_map];omega),JR (by rw[List.length_map];exact x7)];(repeat' ((first|(apply AG<;>intro hc<;>try omega)|apply AD)<;>conv=>whnf))
 exact BH [] (by (conv=>whnf);exact ⟨rfl,rfl,rfl⟩) bu
theorem Aef (N:y9 L) (q1 q2 q3 q4:Bool) (a b:List (List Rat)) (p n w k l:Nat) (x7:a.length=p) (du : ∀ r∈a,r.length=n) (fy:b.length=n) (oy : ∀ r∈b,r.length=w) (hp:1<=p/\p<=52) (hn:1<=n/\n<=52) (hw:1<=w/\w<=52) (hk:1<=k) (hl:1<=l) (au:Ms k a) (fb:Ms l b) (hB:n*(3^n*k+3^n*l+1)+3^n*k+3^n*l<=1000000000000) :
  Ev L 248 [.sl q1 (CE q2 a),.sl q3 (CE q4 b)] (.l6 [.sl false (eM (EJ a b w)),.int .i64 0]):=by
 have Gw:=bF N.toq9 q1 q2 a p n x7 du hp hn;have Gx:=bF N.toq9 q3 q4 b n w fy oy hn hw;have hO:=PO N.tob8 0 (by omega);have hT:=rO N q3 q4 b n w l fy oy hn hw fb (by
  have:l<=3^n*l:=Nat.le_mul_of_pos_left l (Nat.pow_pos (by omega))
  omega)
 obtain ⟨r0,s8⟩ : ∃ r,a[0]? = some r:=⟨_,zE (by omega)⟩;have rk:a[(0:Int).toNat]? = some r0:=s8;have jv:=du r0 (zM s8);refine Ev.x N.KV rfl rfl ?_;(repeat' ((first|(apply AG<;>intro hc<;>try omega)|apply AQ|(refine A8 (by assumption) ?_ rfl ?_;omega)|apply AD|refine AC (Gw) ?_|refine AC (Gx) ?_)<;>conv=>whnf))
 refine EM 1000 N.GI rfl rfl ?_;(repeat' ((first|apply AQ|apply AD)<;>conv=>whnf))
 unfold DZ;refine ⟨⟨by omega,by omega,by simp only[EC];omega,by omega⟩,?_⟩;rw[Int.toNat_natCast];(conv=>whnf)
 (repeat' (apply AQ<;>conv=>whnf))
 rw[x7];refine EH (enc:=eO) none p rfl (by omega) (by omega) ?_;(conv=>whnf)
 (repeat' (apply AQ<;>conv=>whnf))
 rw[x7];refine BH [] (by (conv=>whnf);exact ⟨rfl,rfl,rfl⟩) (Air N.toq9 q1 q2 q3 q4 b a p n k x7 du hp (by omega) au (mM hk du au) (mJ k n) (by omega) ?_);(repeat' (apply AD<;>conv=>whnf))
 refine ⟨rfl,_,rfl,?_⟩;(conv=>whnf)
 (repeat' (refine AC (hT) ?_<;>conv=>whnf))
 have ck:=zJ b w;have Cw:=Aiv (w:=w) fy;have lv:Ms l (G2 b w):=λ r hr=>by
  obtain ⟨j,hj,rfl⟩:=List.mem_map.1 hr;intro x hx;obtain ⟨s,hs,rfl⟩:=List.mem_map.1 hx;obtain ⟨e,xj⟩:=List.getElem?_of_mem hs;exact (fb.at xj).at (QR (by rw[oy s hs];exact List.mem_range.1 hj))
 have An1 : ∀ j,j<w->(G2 b w)[j]? = some (C0 b j):=λ j hj=>zC hj
 have hQ:EJ a b w=a.map λ r=>(G2 b w).map λ c=>A2 r c:=by
  refine List.map_congr_left λ r _ => ?_
  rw[GJ,G2,List.map_map];rfl
 rw[hQ];have q6 : ∀ j,(C0 b j).length=n:=λ j=>by rw[aQ];exact fy
 generalize G2 b w=T at *;clear hQ hT Gw Gx fb oy fy;refine EM 1000 N.GI rfl rfl ?_;(repeat' ((first|apply AQ|apply AD)<;>conv=>whnf))
 unfold DZ;refine ⟨⟨by omega,by omega,by simp only[EC];omega,by omega⟩,?_⟩;rw[Int.toNat_natCast];(conv=>whnf)
 (repeat' (apply AQ<;>conv=>whnf))
 rw[ck];refine EH (enc:=eO) none w rfl (by omega) (by omega) ?_;(conv=>whnf)
 (repeat' (apply AQ<;>conv=>whnf))
 rw[ck];refine BH [] (by (conv=>whnf);exact ⟨rfl,rfl,rfl⟩) (Ais N.toq9 q1 q2 q3 q4 (whole a) b (a.map BG) p T w n l ck Cw hw (by omega) lv (mM hl Cw lv) (mJ l n) (by omega) ?_);(repeat' (apply AD<;>conv=>whnf))
 refine ⟨rfl,_,rfl,?_⟩;(conv=>whnf)
 skip
 have hbA:=mL hk du au;have hbT:=mL hl Cw lv;have hwA:=mK du;have hwT:=mK Cw;have Bm:(whole a).length=p:=by rw[whole,List.length_map];exact x7
 have Aof:(whole T).length=w:=by rw[whole,List.length_map];exact ck
 have hkA : ∀ r∈a,Bt (3^n*k) (BG r):=λ r hr=>(dC hk (au r hr)).le (by rw[du r hr];omega)
 have hkT : ∀ r∈T,Bt (3^n*l) (BG r):=λ r hr=>(dC hl (lv r hr)).le (by rw[Cw r hr];omega)
 have Jc : ∀ (i:Nat) (r:List Rat),a[i]? = some r->(whole a)[i]? = some (r.map (· * BG r)):=λ i r hr=>by rw[whole,List.getElem?_map,hr];rfl
 have Je : ∀ (i:Nat) (r:List Rat),T[i]? = some r->(whole T)[i]? = some (r.map (· * BG r)):=λ i r hr=>by rw[whole,List.getElem?_map,hr];rfl
 have Lj : ∀ (i:Nat) (r:List Rat),a[i]? = some r->(a.map BG)[i]? = some (BG r):=λ i r hr=>by rw[List.getElem?_map,hr];rfl
 have Lk : ∀ (i:Nat) (r:List Rat),T[i]? = some r->(T.map BG)[i]? = some (BG r):=λ i r hr=>by rw[List.getElem?_map,hr];rfl
 have Jd : ∀ (i:Nat) (r:List Rat),a[i]? = some r->(a.map λ r=>T.map λ c=>A2 r c)[i]? = some (T.map λ c=>A2 r c):=λ i r hr=>by rw[List.getElem?_map,hr];rfl
 have yu:(a.map λ r=>T.map λ c=>A2 r c).length=p:=by rw[List.length_map];exact x7
 have AnT:(a.map BG).length=p:=by rw[List.length_map];exact x7
 have AnY:(T.map BG).length=w:=by rw[List.length_map];exact ck
 generalize whole a=A at *;generalize whole T=B at *;generalize a.map BG=sa at *;generalize T.map BG=st at *;generalize (a.map λ r=>T.map λ c=>A2 r c)=R at *;generalize 3^n*k=KA at *;generalize 3^n*l=KT at *;unfold DZ;refine ⟨⟨by omega,by omega,by simp only[EC];omega,by omega⟩,?_⟩;rw[Int.toNat_natCast];(conv=>whnf)
 skip
 refine DL (λ i=>p-i) (λ(i:Nat)=>i<=p) (λ i=>[(48,.int .i64 i)]) (λ i=>[(45,45,.mx (mz R p i))]) [] [] 0 (by first|exact (by (conv=>whnf);exact ⟨rfl,rfl,rfl⟩)|(rw[<-W6 R];exact (by (conv=>whnf);exact ⟨rfl,rfl,rfl⟩))) (by omega) ?_;intro i p1 ih;have Gg:=W4 (Q:=R) p1;by_cases hi:i<p
 ·obtain ⟨rr,s8⟩ : ∃ r,a[i]? = some r:=⟨_,zE (by omega)⟩
  have bk:=du rr (zM s8);have Hj:=Jc i rr s8;have gy:=hbA.at Hj;have Cu:=hkA rr (zM s8);have Li:=Lj i rr s8;have m5:=W5 (Jd i rr s8) hi;have fr:=vN yu hi;have m8:=kX rr;have Jr:=λ(c:List Rat) (s:Rat) (hs:s≠0)=>Zr m8 hs rr c
  have fu:(rr.map (· * BG rr)).length=n:=by rw[List.length_map];exact bk
  have Ie : ∀ (j:Nat) (c:List Rat),T[j]? = some c->(T.map λ c=>A2 rr c)[j]? = some (A2 rr c):=λ j c hc=>by rw[List.getElem?_map,hc];rfl
  have hMl:(T.map λ c=>A2 rr c).length=w:=by rw[List.length_map];exact ck
  generalize mz R p i=R0 at *;generalize (T.map λ c=>A2 rr c)=M at *;generalize rr.map (· * BG rr)=u at *;generalize BG rr=su at *;(repeat' ((first|(apply AG<;>intro hc<;>try omega)|(apply AU;omega)|(refine FM ?_ (λ r hr => ?_);omega)|apply AD)<;>conv=>whnf))
  cases Hj.symm.trans hr;rw[show 0+((i:Nat):Int).toNat=i by omega,show (List.map eQ u).length=n by rw[List.length_map];exact fu];refine DL (λ j=>w-j) (λ(j:Nat)=>j<=w) (λ j=>[(55,.int .i64 j)]) (λ j=>[(45,45,.mx (R0.set i (cM (M.take j))))]) [] [] 0 (by first|exact (by (conv=>whnf);exact ⟨rfl,rfl,rfl⟩)|(rw[List.take_zero,wA,ZI fr];exact (by (conv=>whnf);exact ⟨rfl,rfl,rfl⟩))) (by omega) ?_;intro j p2 jh;have Cv:(M.take j).length=j:=by rw[List.length_take];omega
  by_cases hj:j<w
  ·obtain ⟨c,fp⟩ : ∃ c,T[j]? = some c:=⟨_,zE (by omega)⟩
   have Eg:=Cw c (zM fp);have Jh:=Je j c fp;have jt:=hbT.at Jh;have gq:=hkT c (zM fp);have Ln:=Lk j c fp;have Fc:=kX c;have hdc:=Jr c (BG c) Fc;have zu:=NX (Ie j c fp);have ma:(c.map (· * BG c)).length=n:=by rw[List.length_map];exact Eg
   generalize c.map (· * BG c)=v0 at *;generalize BG c=sv at *;generalize A2 rr c=dd at *;have Lr:(M.take (j+1)).length=j+1:=by rw[List.length_take];omega
   generalize Gp:M.take j=M0 at *;(repeat' ((first|(apply AG<;>intro hc<;>try omega)|(apply AU;omega)|(refine FM ?_ (λ r hr => ?_);omega)|apply AD|refine AC (hO) ?_)<;>conv=>whnf))
   cases Jh.symm.trans hr;rw[show 0+((j:Nat):Int).toNat=j by omega,show (List.map eQ v0).length=n by rw[List.length_map];exact ma];have xb:=K7 (z:=3) Hj;have Ii:=K7 (z:=3) Jh;have il:KA+KT+1<=n*(KA+KT+1):=Nat.le_mul_of_pos_left _ (by omega);refine DL (λ t=>n-t) (λ(t:Nat)=>t<=n) (λ t=>[(63,.int .i64 t)]) (λ t=>[(15,15,.bx (eQ (A2 (u.take t) (v0.take t))))]) [] [] 0 (by first|exact (by (conv=>whnf);exact ⟨rfl,rfl,rfl⟩)|(rw[List.take_zero,List.take_zero];exact (by (conv=>whnf);exact ⟨rfl,rfl,rfl⟩))) (by omega) ?_;intro t p3 th;by_cases ht:t<n
   ·obtain ⟨x,hx⟩ : ∃ x,u[t]? = some x:=⟨_,zE (by omega)⟩
    obtain ⟨y,hy⟩ : ∃ x,v0[t]? = some x:=⟨_,zE (by omega)⟩;have Ek:=(gy.take t).dot (jt.take t);rw[List.length_take,Nat.min_eq_left (by omega)]at Ek;have htn:t*(KA+KT+1)<=n*(KA+KT+1):=zR _ (by omega);have tu:=KG N.tob8 (gy.at hx) (jt.at hy) (by omega) (by omega);have Ai:=Xr N.tob8 Ek ((gy.at hx).mul (jt.at hy)) (by omega) (by omega);rw[<-gL hx hy]at Ai;generalize A2 (u.take t) (v0.take t)=d0 at *;generalize ki:A2 (u.take (t+1)) (v0.take (t+1))=d1 at Ai;generalize x*y=xy at *;(repeat' ((first|(apply AG<;>intro hc<;>try omega)|(apply AU;omega)|apply AD)<;>conv=>whnf))
    refine VY xb ?_;(conv=>whnf)
    (repeat' ((first|(apply AU;omega)|(refine FB ?_ (λ_=>rfl) (λ v hv => ?_);omega))<;>conv=>whnf))
    cases hx.symm.trans hv;skip
    refine VY Ii ?_;(conv=>whnf)
    (repeat' ((first|(refine FB ?_ (λ_=>rfl) (λ v hv => ?_);omega)|fail)<;>conv=>whnf))
    cases hy.symm.trans hv;(repeat' ((first|(apply A0;omega)|refine AC (tu) ?_|refine AC (Ai) ?_)<;>conv=>whnf))
    subst ki;exact BQ [] (th (t+1) (by omega) (by omega))
   ·have et:t=n:=by omega
    clear th;have Nm:=(gy.dot jt);rw[fu]at Nm;rw[et,gI fu];have Ew:su*sv≠0:=λ e=>by
     rcases Rat.mul_eq_zero.1 e with e|e
     ·exact m8 e
     ·exact Fc e
    have tu:=KG N.tob8 Cu gq (by omega) (by omega);have Gn:=rH N.tob8 Nm (Cu.mul gq) (by omega) (by omega) Ew;rw[hdc]at Gn;(repeat' ((first|(apply AG<;>intro hc<;>try omega)|(apply AU;omega)|(refine FB ?_ (λ_=>rfl) (λ v hv => ?_);omega)|apply AD)<;>conv=>whnf))
    rename_i vA hvA;cases Li.symm.trans hvA;cases Ln.symm.trans hv;(repeat' ((first|(apply AU;omega)|refine AC (tu) ?_|refine AC (Gn) ?_)<;>conv=>whnf))
    by_cases lj:j=0
    ·subst lj
     rw[List.take_zero]at Gp;subst Gp;rw[wA,ZI fr];refine nC (r:=none) (by rw[Nat.zero_add,Int.toNat_natCast];exact fr) ?_;(conv=>whnf)
     (repeat' (apply EE<;>conv=>whnf))
     refine ZV (enc:=eQ) dd rfl rfl (by omega) ?_;(conv=>whnf)
     (repeat' ((first|(apply AU;omega)|fail)<;>conv=>whnf))
     refine AU rfl ?_;refine OB (i:=i) (by omega) (by omega) ?_;(conv=>whnf)
     (repeat' ((first|(apply A0;omega)|fail)<;>conv=>whnf))
     have hq:(some (3,[dd].map eQ):Option (Nat × List (List AV)))=cM (M.take (0+1)):=by rw[zu];exact (cN (by simp)).symm
     rw[hq];exact BQ [] (jh (0+1) (by omega) (by omega))
    ·rw[cN (by omega)]
     refine N8 (by omega) (by omega) ?_;(conv=>whnf)
     (repeat' (apply EE<;>conv=>whnf))
     refine JN (by omega) (by omega) ?_;(conv=>whnf)
     refine EX (enc:=eQ) dd rfl (by rw[List.length_map]) rfl (by omega) (by omega) ?_;intro s' v;rw[<-zu,Lr];(conv=>whnf)
     (repeat' ((first|(apply AU;omega)|fail)<;>conv=>whnf))
     refine AU ⟨rfl,by rw[List.length_map];omega⟩ ?_;refine OB (i:=i) (by omega) (by rw[List.length_set,List.length_set];omega) ?_;rw[show 0+((i:Int)).toNat=i by omega,List.set_set,List.set_set,<-cN (by omega)];(conv=>whnf)
     (repeat' ((first|(apply A0;omega)|fail)<;>conv=>whnf))
     exact BQ [] (jh (j+1) (by omega) (by omega))
  ·have ej:j=w:=by omega
   clear jh;rw[ej,zT (by omega),cN (by omega),m5];(repeat' ((first|(apply AG<;>intro hc<;>try omega)|(apply A0;omega)|apply AD)<;>conv=>whnf))
   exact BQ [] (ih (i+1) (by omega) (by omega))
 ·have ei:i=p:=by omega
  clear ih;rw[ei,W3 yu];(repeat' ((first|(apply AG<;>intro hc<;>try omega)|apply AD)<;>conv=>whnf))
  refine QG (λ_=>rfl) rfl (by omega) ?_;(conv=>whnf)
  exact AW rfl (V7 R 0)
theorem Xv (N:ij L) (n1:L.num 289=WQ) (q:Bool) (b:List Rat) (n k:Nat) (fy:b.length=n) (hb:Bs k b) (hk:k<2199023255552) (hn:n<=100):Ev L 291 [.sl q (b.map eQ)] (.sl false (eM (b.map λ x=>[x]))):=by
 refine Ev.x N.NJ rfl rfl ?_;(repeat' (apply AD<;>conv=>whnf))
 refine EM 1000 N.NP rfl rfl ?_;(repeat' ((first|apply AQ|apply AD)<;>conv=>whnf))
 unfold DZ;refine ⟨⟨by omega,by omega,by simp only[EC];omega,by omega⟩,?_⟩;rw[Int.toNat_natCast,fy];(conv=>whnf)
 (repeat' (apply AQ<;>conv=>whnf))
 refine DL (λ i=>n-i) (λ(i:Nat)=>i<=n) (λ i=>[(13,.int .i64 i)]) (λ i=>[(290010,290010,.mx (fz none ((b.take i).map OU) n))]) [] [] 0 (by first|exact (by (conv=>whnf);exact ⟨rfl,rfl,rfl⟩)|(rw[List.take_zero];exact (by (conv=>whnf);exact ⟨rfl,rfl,rfl⟩))) (by omega) ?_;intro i p1 ih;have kj:=bL (z:=(none:Option (Nat × List (List AV)))) (l:=(b.take i).map OU) (m:=n) (by rw[List.length_map,List.length_take];omega);by_cases hi:i<n
 ·obtain ⟨x,hx⟩ : ∃ x,b[i]? = some x:=⟨_,zE (by omega)⟩
  have jg:b[(i:Int).toNat]? = some x:=hx;have hT:=YM N.tob8 (hb.at hx) hk;have lh:=bM (z:=(none:Option (Nat × List (List AV)))) (x:=OU x) (l:=(b.take i).map OU) (m:=n) (by rw[List.length_map,List.length_take];omega);rw[List.length_map,List.length_take,Nat.min_eq_left (by omega),show (b.take i).map OU++[OU x]=(b.take (i+1)).map OU by rw[List.take_add_one,hx,List.map_append];rfl]at lh;generalize fz (none:Option (Nat × List (List AV))) ((b.take i).map OU) n=J at *;have Jy:J.set i (some (3,[[AV.bool (decide (x.num<0)),AV.sl false ((dg x.num.natAbs).map AL),AV.sl false ((dg x.den).map AL)]]))=fz none ((b.take (i+1)).map OU) n:=lh;(repeat' ((first|(apply AG<;>intro hc<;>try omega)|(apply AU;omega)|(refine A8 (by assumption) ?_ rfl ?_;omega)|apply AD)<;>conv=>whnf))
  refine EM 1000 N.NK rfl rfl ?_;(repeat' ((first|apply AD|refine AC (hT) ?_)<;>conv=>whnf))
  refine ⟨rfl,_,rfl,?_⟩;(conv=>whnf)
  (repeat' ((first|(apply AU;omega)|fail)<;>conv=>whnf))
  unfold AM C4;refine ⟨by simp,by omega,?_⟩;(conv=>whnf)
  rw[show 0+((i:Int)).toNat=i by omega,Jy];(repeat' ((first|(apply A0;omega)|fail)<;>conv=>whnf))
  exact BQ [] (ih (i+1) (by omega) (by omega))
 have ei:i=n:=by omega
 clear ih kj;rw[ei,zT (by omega),bK (by rw[List.length_map];exact fy),show b.map OU=BM 3 eQ (b.map λ x=>[x]) by rw[BM,List.map_map];rfl];(repeat' ((first|(apply AG<;>intro hc<;>try omega)|apply AD)<;>conv=>whnf))
 refine ⟨rfl,_,rfl,?_⟩;(conv=>whnf)
 (repeat' ((refine QG (λ_=>rfl) rfl ?_ ?_;(first|rfl|simp))<;>conv=>whnf))
 ·exact fy.symm
 (conv=>whnf)
 exact AW rfl (fK _)
theorem Agt (T:List (List Rat)) (b:List Rat) (n:Nat) (hT : ∀ r∈T,r.length=n) (hb:b.length=n):EJ T (b.map λ x=>[x]) 1=(A6 T b).map λ x=>[x]:=by
 rw[EJ,A6,List.map_map];refine List.map_congr_left λ r _ => ?_
 show [A2 r (C0 (b.map λ x=>[x]) 0)]=[A2 r b];rw[C0,List.map_map];have:b.map ((λ r:List Rat=>r.getD 0 0) ∘ λ x=>[x])=b:=by
  conv=>rhs;rw[<-List.map_id b]
  exact List.map_congr_left λ x _=>rfl
 rw[this]
theorem sL (N:fl L) (n1:L.num 95=WR) (q:Bool) (b:List Rat) (k:Nat) (hb:Bs k b) (hk:k<2199023255552) (hn:b.length<=100):JL L 370 [.sl q (b.map eQ)] 3 (b.map eQ)/\Ev L 370 [.sl q (b.map eQ)] (.sl false (b.map eQ)):=by
 refine JL.x2 N.NU rfl rfl (λ_=>rfl) ?_;(repeat' (apply AD<;>conv=>whnf))
 refine EM 1000 N.NQ rfl rfl ?_;(repeat' ((first|apply AQ|apply AD)<;>conv=>whnf))
 refine EH (enc:=eO) none b.length rfl rfl (by omega) ?_;(conv=>whnf)
 (repeat' (apply AQ<;>conv=>whnf))
 refine DL (λ e=>b.length-e) (λ(e:Nat)=>e<=b.length) (λ e=>[(13,.int .i64 e)]) (λ e=>[(369010,369010,.rw 3 ((D4 (b.take e) b.length).map eO))]) [] [] 0 (by first|exact (by (conv=>whnf);exact ⟨rfl,rfl,rfl⟩)|(rw[List.take_zero,<-JT];exact (by (conv=>whnf);exact ⟨rfl,rfl,rfl⟩))) (by omega) ?_;intro e p2 eh;have wc:=JS (l:=b.take e) (m:=b.length) (by rw[List.length_take];omega);by_cases Cn:e<b.length
 ·obtain ⟨x,hx⟩ : ∃ x,b[e]? = some x:=⟨_,zE (by omega)⟩
  have jg:b[(e:Int).toNat]? = some x:=hx;have m5:=JU (l:=b.take e) (m:=b.length) (x:=x) (by rw[List.length_take];omega);rw[List.length_take,Nat.min_eq_left (by omega),<-H7 hx]at m5;have hT:=YM N.tob8 (hb.at hx) hk;generalize D4 (b.take e) b.length=F0 at *;(repeat' ((first|(apply AG<;>intro hc<;>try omega)|(apply AU;omega)|(refine A8 (by assumption) ?_ rfl ?_;omega)|apply AD|refine AC (hT) ?_)<;>conv=>whnf))
  refine F3 (enc:=eO) (some x) rfl (λ e=>by cases e<;>rfl) (by omega) ?_;(conv=>whnf)
  rw[m5];(repeat' ((first|(apply A0;omega)|fail)<;>conv=>whnf))
  exact BQ [] (eh (e+1) (by omega) (by omega))
 have ee:e=b.length:=by omega
 clear eh;rw[ee,zT (by omega),JR rfl];(repeat' ((first|(apply AG<;>intro hc<;>try omega)|apply AD)<;>conv=>whnf))
 refine ⟨rfl,_,rfl,?_⟩;(conv=>whnf)
 skip
 exact ⟨rfl,rfl,by simp,rfl,GF _⟩
theorem qW {m0 m a:List (List Rat)} {K w n c:Nat} {P:List Nat} {odd:Bool} {l:Rat} (hE:G3 m0 K w w m P c odd l) (hs:aA m0 a) (x7:a.length=n) (jb:w<=c\/n<=P.length):Z0 a w P.length:=by
 have hc:=hE.cc;have h1:=hE.bf.pl;have h2:=hE.len;have h3:=hs.1;refine ⟨m,P,?_,λ X=>(hE.kt X).trans (hs.kt X),rfl⟩;rcases jb with h|h
 ·obtain rfl:c=w:=by omega
  exact hE.bf
 ·exact hE.bf.wide (by omega) hc
theorem Ahu (N:q9 L) (q q':Bool) (a:List (List Rat)) (n WW k:Nat) {K:Nat} (x7:a.length=n) (du : ∀ r∈a,r.length=WW) (hn:1<=n/\n<=52) (hW:WW<=104) (au:Ms k a) (ux : ∀ r∈a,∀ j,Bt K (BG (r.take j))) (Oa:k<=K) (Dn:K<=1000000000000) {kk:List It} {Q:Tm->Mem->Prop}
  (bu:AA L kk ([(5,.row 231019 0 3 0 n),(4,.row 231016 0 1 0 n)]++[(1000+13,.sl q (CE q' a)),(1000+11,.bool false),(1000+0,.sl q (CE q' a))]) ([(231016,231016,.mx (BM 3 eQ (whole a))),(231019,231019,.rw 3 ((a.map BG).map eQ))]++[]) Q) :
  AA L (.lp GI.l1 :: .e7 0::kk) ([(22,.int .i64 0),(21,.int .i64 n),(20,.sl q (CE q' a)),(5,.row 231019 0 3 0 n),(4,.row 231016 0 1 0 n)]++[(1000+13,.sl q (CE q' a)),(1000+11,.bool false),(1000+0,.sl q (CE q' a))]) ([(231016,231016,.mx (List.replicate n none)),(231019,231019,.rw 3 ((List.replicate n none).map eO))]++[]) Q:=by
 have hI:=PO N.tob8 1 (by omega);refine QC (l:=[_,_]) rfl ?_;refine DL (λ i=>n-i) (λ(i:Nat)=>i<=n) (λ i=>[(22,.int .i64 i)]) (λ i=>[(231016,231016,.mx (mz (whole a) n i)),(231019,231019,.rw 3 ((D4 ((a.map BG).take i) n).map eO))]) [] [] 0 (by first|exact (by (conv=>whnf);exact ⟨rfl,rfl,rfl⟩)|(rw[<-W6 (whole a),List.take_zero,<-JT];exact (by (conv=>whnf);exact ⟨rfl,rfl,rfl⟩))) (by omega) ?_;intro i p1 ih;have Gg:=W4 (Q:=whole a) p1;by_cases hi:i<n
 ·obtain ⟨r,hr⟩ : ∃ r,a[i]? = some r:=⟨_,zE (by omega)⟩
  have ml:a[(i:Int).toNat]? = some r:=hr;have bk:=du r (zM hr);have gy:=au.at hr;have m5:=W5 (Q:=whole a) (i:=i) (n:=n) (row:=r.map (· * BG r)) (by simp [whole,hr]) hi;have uy:(a.map BG)[i]? = some (BG r):=by simp [hr]
  generalize mz (whole a) n i=R0 at *;have zo : ∀ j,Bt K (BG (r.take j)):=ux r (zM hr);have nm:=zo WW;rw[zT (by omega)]at nm;(repeat' ((first|(apply AG<;>intro hc<;>try omega)|apply AQ|(refine A8 (by assumption) ?_ rfl ?_;omega)|apply AD|refine AC (hI) ?_)<;>conv=>whnf))
  try cases hr.symm.trans hv
  refine HG (λ j _=>WW-j) (λ(j:Nat) (s:Rat)=>j<=WW/\s=BG (r.take j)) (λ j _=>[(30,.int .i64 j)]) (λ_ s=>[(231008,231008,.bx (eQ s))]) 0 ((1:Int):Rat) ⟨by omega,by rw[List.take_zero];rfl⟩ ?_;intro j s ⟨p2,p3⟩ jh;by_cases hj:j<WW
  ·obtain ⟨x,hx⟩ : ∃ x,r[j]? = some x:=⟨_,zE (by omega)⟩
   have jg:r[(j:Int).toNat]? = some x:=hx;have uz:Bt K s:=by rw[p3];exact zo j
   have bx:=gy.at hx;have aq:=KG N.tob8 uz bx (by omega) (by omega);have eb:=gX N.tob8 true uz (uz.mul bx).2 (by omega) (by omega);have Fe:BG (r.take (j+1))=s*(((s*x).den:Nat):Rat):=by rw[H7 hx,kY,<-p3];rfl
   (repeat' ((first|(apply AG<;>intro hc<;>try omega)|(apply A0;omega)|(refine A8 (by assumption) ?_ rfl ?_;omega)|refine G7 rfl ?_|apply AD|refine AC (aq) ?_|refine AC (eb) ?_)<;>conv=>whnf))
   exact BH [] (by (conv=>whnf);exact ⟨rfl,rfl,rfl⟩) (jh (j+1) _ (by omega) ⟨by omega,Fe.symm⟩)
  have ej:j=WW:=by omega
  clear jh;rw[zT (by omega)]at p3;subst p3;(repeat' ((first|(apply AG<;>intro hc<;>try omega)|apply AQ|apply AD)<;>conv=>whnf))
  rw[bk];refine EH (enc:=eO) none WW rfl (by omega) (by omega) ?_;(conv=>whnf)
  (repeat' ((first|(apply AU;omega)|fail)<;>conv=>whnf))
  refine AU (by simp) ?_;refine OB (i:=i) (by omega) (by omega) ?_;(conv=>whnf)
  (repeat' (apply AQ<;>conv=>whnf))
  refine DL (λ j=>WW-j) (λ(j:Nat)=>j<=WW) (λ j=>[(53,.int .i64 j)]) (λ j=>[(231016,231016,.mx (R0.set i (some (3,(D4 ((r.map (· * BG r)).take j) WW).map eO))))]) [] [] 0 (by first|exact (by (conv=>whnf);exact ⟨rfl,rfl,rfl⟩)|(rw[List.take_zero,<-JT];exact (by (conv=>whnf);exact ⟨rfl,rfl,rfl⟩))) (by omega) ?_;intro j r2 jh;have pj:((r.map (· * BG r)).take j).length=j:=by rw[List.length_take,List.length_map];omega
  have wc:=JS (l:=(r.map (· * BG r)).take j) (m:=WW) (by omega);by_cases hj:j<WW
  ·obtain ⟨x,hx⟩ : ∃ x,r[j]? = some x:=⟨_,zE (by omega)⟩
   have jg:r[(j:Int).toNat]? = some x:=hx;have bx:=gy.at hx;have aq:=KG N.tob8 bx nm (by omega) (by omega);have hs:=JU (l:=(r.map (· * BG r)).take j) (m:=WW) (x:=x*BG r) (by omega);rw[pj,<-H7 (show (r.map (· * BG r))[j]? = some (x*BG r) by rw[List.getElem?_map,hx];rfl)]at hs;generalize D4 ((r.map (· * BG r)).take j) WW=W0 at *;(repeat' ((first|(apply AG<;>intro hc<;>try omega)|(apply AU;omega)|(refine A8 (by assumption) ?_ rfl ?_;omega)|apply AD)<;>conv=>whnf))
   refine N8 (by omega) (by omega) ?_;(conv=>whnf)
   (repeat' (refine AC (aq) ?_<;>conv=>whnf))
   refine AU (by rw[List.length_map];omega) ?_;(conv=>whnf)
   skip
   refine JN (by omega) (by omega) ?_;(conv=>whnf)
   refine F3 (enc:=eO) (some (x*BG r)) rfl (λ e=>by cases e<;>rfl) (by omega) ?_;(conv=>whnf)
   rw[hs];refine V1 (by omega) (by rw[List.length_map,List.length_map,<-hs,List.length_set]) ?_;(conv=>whnf)
   (repeat' ((first|(apply A0;omega)|fail)<;>conv=>whnf))
   exact BQ [] (jh (j+1) (by omega) (by omega))
  have ej:j=WW:=by omega
  clear jh;rw[zT (by rw[List.length_map];omega),JR (by rw[List.length_map];exact bk),m5];have jf:((a.map BG).take i).length=i:=by rw[List.length_take,List.length_map];omega
  have Nq:=JS (l:=(a.map BG).take i) (m:=n) (by omega);have lh:=JU (l:=(a.map BG).take i) (m:=n) (x:=BG r) (by omega);rw[jf,<-H7 uy]at lh;generalize D4 ((a.map BG).take i) n=W1 at *;(repeat' ((first|(apply AG<;>intro hc<;>try omega)|(apply AU;omega)|apply AD)<;>conv=>whnf))
  refine F3 (enc:=eO) (some (BG r)) rfl (λ e=>by cases e<;>rfl) (by omega) ?_;(conv=>whnf)
  rw[lh];(repeat' ((first|(apply A0;omega)|fail)<;>conv=>whnf))
  exact BQ [] (ih (i+1) (by omega) (by omega))
 have ei:i=n:=by omega
 clear ih;rw[ei,W3 (by simp [whole,x7]),zT (by rw[List.length_map];omega),JR (by rw[List.length_map];exact x7)];(repeat' ((first|(apply AG<;>intro hc<;>try omega)|apply AD)<;>conv=>whnf))
 exact BH [] (by (conv=>whnf);exact ⟨rfl,rfl,rfl⟩) bu
theorem Aht (N:q9 L) (q q':Bool) (a:List (List Rat)) (r0:List Rat) {m0 m1:List (List Rat)} {n cw WW K0 c:Nat} {P:List Nat} {o:Bool} {l:Rat} {rp:List Rat} (sc:List Rat) (uj:m0.length=n) (hn:1<=n/\n<=52) (hW:cw<=WW) (Eb:WW<=104) (Cc:1<=K0) (hB:6^n*K0<=1000000000000) (hP:P.length<n) (nw:c<cw) (hS:PI m0 K0 WW cw P c o l rp m1 (P.length+1)) {kk:List It} {Q:Tm->Mem->Prop}
  (bu : ∀ m2,PI m0 K0 WW cw P c o l rp m2 n->AA L kk ([(9,.bool o),(8,.int .i64 c),(7,.int .i64 (P.length:Nat)),(10,.ptr 233010 0 0 0),(5,.ptr 233005 0 0 0),(0,.row 231016 0 1 0 n),(0+1,.int .i64 cw)]++[(1000+22,.int .i64 cw),(1000+21,.sl q' (r0.map eQ)),(1000+20,.u6 [.sl q' (r0.map eQ)]),(1000+19,.sl q (CE q' a)),(1000+18,.row 231016 0 1 0 n),(1000+4,.row 231016 0 1 0 n),(1000+0,.sl q (CE q' a))]) ([(231016,231016,.mx (BM 3 eQ m2)),(233010,233010,.bx (eQ l)),(233005,233005,.bx [.bool false,.nil,.nil])]++[(231019,231019,.rw 3 (sc.map eQ))]) Q) :
  AA L (.lp JW.l4 :: .e7 6::kk) ([(12,.int .i64 ((P.length+1:Nat):Int)),(9,.bool o),(8,.int .i64 c),(7,.int .i64 (P.length:Nat)),(10,.ptr 233010 0 0 0),(5,.ptr 233005 0 0 0),(0,.row 231016 0 1 0 n),(0+1,.int .i64 cw)]++[(1000+22,.int .i64 cw),(1000+21,.sl q' (r0.map eQ)),(1000+20,.u6 [.sl q' (r0.map eQ)]),(1000+19,.sl q (CE q' a)),(1000+18,.row 231016 0 1 0 n),(1000+4,.row 231016 0 1 0 n),(1000+0,.sl q (CE q' a))]) ([(231016,231016,.mx (BM 3 eQ m1)),(233010,233010,.bx (eQ l)),(233005,233005,.bx [.bool false,.nil,.nil])]++[(231019,231019,.rw 3 (sc.map eQ))]) Q:=by
 refine QC (l:=[_,_]) rfl ?_;refine HG (λ_ i=>n-i) (λ(m:List (List Rat)) (i:Nat)=>PI m0 K0 WW cw P c o l rp m i/\P.length+1<=i/\i<=n) (λ_ i=>[(12,.int .i64 i)]) (λ m _=>[(231016,231016,.mx (BM 3 eQ m))]) m1 (P.length+1) ⟨hS,by omega,by omega⟩ ?_;clear hS;intro m2 i ⟨hS,j1,j2⟩ sh;have um:=hS.len;rw[uj]at um;by_cases hj:i<n
 ·obtain ⟨rq,ka⟩ : ∃ r,m2[i]? = some r:=⟨_,zE (by omega)⟩
  have pg:=hS.ht;have Fq:=hS.bf.lr rq (zM ka);have ck:=hS.bf.lr rp (zM pg);(repeat' ((first|(apply AG<;>intro hc<;>try omega)|(apply AU;omega)|(refine FM ?_ (λ r hr => ?_);omega)|apply AD)<;>conv=>whnf))
  rename_i rA hrA;cases ka.symm.trans hrA;cases pg.symm.trans hr;rw[show 0+((i:Nat):Int).toNat=i by omega,show 0+((P.length:Nat):Int).toNat=P.length by omega,show (List.map eQ rq).length=WW by rw[List.length_map];exact Fq,show (List.map eQ rp).length=WW by rw[List.length_map];exact ck];have rj:rq[c]? = some (rq.getD c 0):=QR (by omega);refine EM 1000 N.KY rfl rfl ?_;have uv:rp[c]? = some (rp.getD c 0):=QR (by omega);have Lm:=hS.step (by omega) ka;have q6:(comb (rp.getD c 0) (rq.getD c 0) l rq rp).length=WW:=by rw[pI (by omega)];exact Fq
  have hcg:=λ j=>fS (p:=rp.getD c 0) (f:=rq.getD c 0) (l:=l) (r:=rq) (t:=rp) (by omega) j
  have fw:=λ j (h:j<c)=>hS.bf.zr i rq (by omega) ka j h
  have qw:=λ j (h:j<c)=>hS.bf.zr P.length rp (Nat.le_refl _) pg j h
  have Nj:=hS.hi i rq (Nat.le_refl i) ka;have Ni:=hS.bt;have fy:=hS.bl;have jv:=hS.l0;have Ao:=Ni.at uv;have Ap:=Nj.at rj;generalize Hh:rp.getD c 0=pv at *;generalize hfv:rq.getD c 0=fv at *;generalize jt:comb pv fv l rq rp=cb at *;have Fa:cb.take c++rq.drop c=rq:=Agi (by omega) λ j hj=>⟨by rw[hcg,fw j hj,qw j hj,Rat.zero_mul,Rat.zero_mul,Rat.sub_eq_add_neg,Rat.neg_zero,Rat.add_zero,Rat.div_def,Rat.zero_mul],fw j hj⟩
  have xb:=K7 (z:=3) ka;have Nf:=K7 (z:=3) pg;have Ij:(BM 3 eQ m2).length=n:=by simp only[BM,List.length_map];omega
  have Ce:(BM 3 eQ m2).set i (some (3,cb.map eQ))=BM 3 eQ (m2.set i cb):=by simp only[BM,List.map_set]
  generalize BM 3 eQ m2=R2 at *;have Dr:R2.set i (some (3,rq.map eQ))=R2:=ZI xb;(repeat' ((first|(apply AU;omega)|apply AD)<;>conv=>whnf))
  refine VY Nf ?_;(conv=>whnf)
  (repeat' ((first|(apply AU;omega)|(refine FB ?_ (λ_=>rfl) (λ v hv => ?_);omega))<;>conv=>whnf))
  cases uv.symm.trans hv;skip
  refine VY xb ?_;(conv=>whnf)
  (repeat' ((first|(refine FB ?_ (λ_=>rfl) (λ v hv => ?_);omega)|fail)<;>conv=>whnf))
  cases rj.symm.trans hv;skip
  have hp7:=Nat.le_trans (wL Cc P.length) (kK hB (show P.length+1<=n by omega));generalize 6^P.length*K0=BB at *;refine DL (λ j=>WW-j) (λ(j:Nat)=>c<=j/\j<=WW) (λ j=>[(10,.int .i64 j)]) (λ j=>[(231016,231016,.mx (R2.set i (some (3,(cb.take j++rq.drop j).map eQ))))]) [] [] c (by first|exact (by (conv=>whnf);exact ⟨rfl,rfl,rfl⟩)|(rw[Fa,Dr];exact (by (conv=>whnf);exact ⟨rfl,rfl,rfl⟩))) ⟨by omega,by omega⟩ ?_;intro j ⟨k1,k2⟩ jh;have jn:(cb.take j++rq.drop j).length=WW:=by rw[List.length_append,List.length_take,List.length_drop];omega
  by_cases Kd:j<WW
  ·obtain ⟨x,hx⟩ : ∃ x,rq[j]? = some x:=⟨_,zE (by omega)⟩
   obtain ⟨y,hy⟩ : ∃ y,rp[j]? = some y:=⟨_,zE (by omega)⟩;have zd:cb[j]? = some ((x*pv-y*fv)/l):=by rw[<-jt];exact Wt hx hy
   have Ey:=Agg (a:=cb) (by omega) hx;have qo:=Agh (b:=rq) (by omega) zd;have bx:=Nj.at hx;have Bx:=Ni.at hy
   have aq:=KG N.tob8 bx Ao (by omega) (by omega);have eb:=KG N.tob8 Bx Ap (by omega) (by omega)
   have Im:=sK N.toz7 (bx.mul Ao) (Bx.mul Ap) (by omega) (by omega);have Gn:=rH N.tob8 ((bx.mul Ao).qe (Bx.mul Ap)) fy (by omega) (by omega) jv;have Ik:(R2.set i (some (3,(cb.take j++rq.drop j).map eQ)))[P.length]? = some (some (3,rp.map eQ)):=by rw[List.getElem?_set,if_neg (by omega)];exact Nf
   generalize cb.take j++rq.drop j=cm at *;(repeat' ((first|(apply AG<;>intro hc<;>try omega)|(apply AU;omega)|apply AD)<;>conv=>whnf))
   refine JN rfl (by omega) ?_;(conv=>whnf)
   (repeat' ((first|(refine FB ?_ (λ_=>rfl) (λ v hv => ?_);omega)|fail)<;>conv=>whnf))
   cases Ey.symm.trans hv;(repeat' ((first|(apply AU;omega)|refine AC (aq) ?_)<;>conv=>whnf))
   refine VY Ik ?_;(conv=>whnf)
   (repeat' ((first|(refine FB ?_ (λ_=>rfl) (λ v hv => ?_);omega)|fail)<;>conv=>whnf))
   cases hy.symm.trans hv;(repeat' ((first|refine AC (eb) ?_|refine AC (Im) ?_)<;>conv=>whnf))
   (repeat' ((first|(apply AU;omega)|refine AC (Gn) ?_)<;>conv=>whnf))
   refine JN rfl (by omega) ?_;(conv=>whnf)
   refine F3 (enc:=eQ) ((x*pv-y*fv)/l) rfl (λ_=>rfl) (by omega) ?_;rw[qo];(conv=>whnf)
   refine V1 rfl (by rw[List.length_map,List.length_map,<-qo,List.length_set]) ?_;(conv=>whnf)
   (repeat' ((first|(apply A0;omega)|fail)<;>conv=>whnf))
   exact BQ [] (jh (j+1) (by omega) ⟨by omega,by omega⟩)
  ·have ej:j=WW:=by omega
   clear jh;rw[zT (by omega),List.drop_of_length_le (by omega),List.append_nil,Ce];(repeat' ((first|(apply AG<;>intro hc<;>try omega)|apply AD)<;>conv=>whnf))
   refine ⟨rfl,_,rfl,?_⟩;(conv=>whnf)
   (repeat' ((first|(apply A0;omega)|fail)<;>conv=>whnf))
   exact BQ [] (sh (m2.set i cb) (i+1) (by omega) ⟨Lm,by omega,by omega⟩)
 ·have ei:i=n:=by omega
  clear sh;rw[ei]at hS;(repeat' ((first|(apply AG<;>intro hc<;>try omega)|apply AD)<;>conv=>whnf))
  exact BH [] (by (conv=>whnf);exact ⟨rfl,rfl,rfl⟩) (bu m2 hS)
theorem Yv (N:y9 L) (q q':Bool) (a:List (List Rat)) (n w k:Nat) (x7:a.length=n) (du : ∀ r∈a,r.length=w) (hn:1<=n/\n<=52) (hw:1<=w/\w<=52) (hk:1<=k) (au:Ms k a) (hB:6^n*(3^w*k)<=1000000000000) :
  ∃ r:Nat,Ev L 249 [.sl q (CE q' a)] (.l6 [.int .i64 r,.int .i64 0])/\Z0 a w r/\r<=n/\r<=w:=by
 suffices h : ∃ v,Ev L 249 [.sl q (CE q' a)] v /\ ∃ r:Nat,v = .l6 [.int .i64 r,.int .i64 0]/\Z0 a w r/\r<=n/\r<=w by
  obtain ⟨v,h1,m,rfl,h2⟩:=h;exact ⟨m,h1,h2⟩
 have hV:=bF N.toq9 q q' a n w x7 du hn hw;obtain ⟨r0,s8⟩ : ∃ r,a[0]? = some r:=⟨_,zE (by omega)⟩;have rk:a[(0:Int).toNat]? = some r0:=s8;have jv:=du r0 (zM s8);have hI:=PO N.tob8 1 (by omega);have Dn:3^w*k<=1000000000000:=by simpa using kK hB (Nat.zero_le n)
 have N0:=N.toq9;refine Ev.xE N.KU rfl rfl ?_;(repeat' ((first|apply AD|refine AC (hV) ?_)<;>conv=>whnf))
 have hW:w<=104:=by omega
 have N:q9 L:=N0;refine EM 1000 N.GI rfl rfl ?_;(repeat' ((first|apply AQ|apply AD)<;>conv=>whnf))
 unfold DZ;refine ⟨⟨by omega,by omega,by simp only[EC];omega,by omega⟩,?_⟩;rw[Int.toNat_natCast];(conv=>whnf)
 (repeat' (apply AQ<;>conv=>whnf))
 rw[x7];refine EH (enc:=eO) none n rfl (by omega) (by omega) ?_;(conv=>whnf)
 (repeat' (apply AQ<;>conv=>whnf))
 rw[x7];refine BH [] (by (conv=>whnf);exact ⟨rfl,rfl,rfl⟩) (Ahu N q q' a n w k x7 du hn hW au (mM hk du au) (mJ k w) Dn ?_);(repeat' (apply AD<;>conv=>whnf))
 refine ⟨rfl,_,rfl,?_⟩;(conv=>whnf)
 (repeat' ((first|apply AQ|(refine A8 (by assumption) ?_ rfl ?_;omega))<;>conv=>whnf))
 rw[jv];have uj:(whole a).length=n:=by simp [whole,x7]
 have Ki:=mK du;have Kh:=mL hk du au;have Ex:=AiG a;have Cc:1<=3^w*k:=Nat.mul_pos (Nat.pow_pos (by omega)) hk;clear Dn;generalize whole a=m0 at *;generalize 3^w*k=K0 at *;have Eb:=hW;have hW:=Nat.le_refl w;refine E8 1000 N.JW rfl rfl ?_;(repeat' ((first|apply AD|refine AC (hI) ?_)<;>conv=>whnf))
 refine Rs (λ_ P _ _ _=>n-P.length) (λ(m:List (List Rat)) (P:List Nat) (c:Nat) (odd:Bool) (l:Rat)=>G3 m0 K0 w w m P c odd l) (λ_ P c odd _=>[(7,.int .i64 (P.length:Nat)),(8,.int .i64 c),(9,.bool odd)]) (λ m _ _ _ l=>[(231016,231016,.mx (BM 3 eQ m)),(233010,233010,.bx (eQ l))]) [] [] m0 [] 0 false ((1:Int):Rat) (by (conv=>whnf);exact ⟨rfl,rfl,rfl⟩) (G3.start Ki Kh) ?_;intro m P c odd l hE eh;have jn:=hE.len;have Nb:=hE.bf.pl;rw[uj]at jn;by_cases hP:P.length<n
 ·have hp6:=kK hB (show P.length<=n by omega)
  (repeat' ((first|(apply AG<;>intro hc<;>try omega)|apply AD)<;>conv=>whnf))
  refine Ru (l:=[_,_]) (λ(m1:List (List Rat)) (c:Nat) (o:Bool)=>G3 m0 K0 w w m1 P c o l/\(c<w -> ∃ rp,m1[P.length]? = some rp/\rp.getD c 0≠0)) (λ_ c o=>[(8,.int .i64 c),(9,.bool o)]) (λ m1 _ _=>[(231016,231016,.mx (BM 3 eQ m1))]) [17] rfl ?_ ?_
  ·clear hE jn Nb
   intro m1 c Aot ⟨hE,Hh⟩;have jn:=hE.len;have Nb:=hE.bf.pl;have w4:=hE.cc;rw[uj]at jn;by_cases nw:c<w
   ·obtain ⟨rp,Oj,Om⟩:=Hh nw
    clear Hh;have hS:=hE.swp nw Oj Om;(repeat' ((first|(apply AG<;>intro hc<;>try omega)|(apply A0;omega)|apply AD)<;>conv=>whnf))
    refine BH [] (by (conv=>whnf);exact ⟨rfl,rfl,rfl⟩) (Aht N q q' a r0 (a.map BG) uj hn hW Eb Cc hB hP nw hS λ m2 hS => ?_);have pg:=hS.ht;have AnS:=hS.bf.lr rp (zM pg);have uv:rp[c]? = some (rp.getD c 0):=QR (by omega);have um:=hS.len;have bu:=hS.done Cc (by omega);have Dq:(P++[c]).length=P.length+1:=by simp
    generalize rp.getD c 0=pv at uv bu;clear hS hE Om Oj;(repeat' ((first|(apply AU;omega)|(refine FM ?_ (λ r hr => ?_);omega)|apply AD)<;>conv=>whnf))
    cases pg.symm.trans hr;refine AU (by rw[List.length_map];omega) ?_;(conv=>whnf)
    (repeat' ((first|(apply A0;omega)|(refine FB ?_ (λ_=>rfl) (λ v hv => ?_);omega)|refine GO (by assumption) ?_)<;>conv=>whnf))
    cases uv.symm.trans hv;skip
    rw[show ((P.length:Nat):Int)+1=((P++[c]).length:Nat) by rw[Dq];omega];exact BH [] (by (conv=>whnf);exact ⟨rfl,rfl,rfl⟩) (eh m2 (P++[c]) (c+1) _ pv (by rw[Dq];omega) bu)
   ·clear eh Hh
    (repeat' ((first|(apply AG<;>intro hc<;>try omega)|apply AD)<;>conv=>whnf))
    refine ⟨rfl,?_⟩;(conv=>whnf)
    skip
    have jb:w<=c\/n<=P.length:=Or.inl (by omega);have Lb:=qW hE Ex x7 jb;have Ig:P.length<=n:=by have:=hE.bf.pl;omega
    have Ih:P.length<=w:=by have:=hE.bf.le;have:=hE.cc;omega
    skip
    refine ⟨.l6 [.int .i64 P.length,.int .i64 0],?_,P.length,rfl,Lb,Ig,Ih⟩;(conv=>whnf)
    exact AW rfl (by simp [A1,CD])
  ·clear eh
   intro uk;refine DL (λ c=>w-c) (λ(c:Nat)=>G3 m0 K0 w w m P c odd l) (λ c=>[(8,.int .i64 c)]) (λ_=>[]) [17] [] c (by (conv=>whnf);exact ⟨rfl,rfl,rfl⟩) hE ?_;clear hE;intro c hE ch;have w4:=hE.cc;by_cases nw:c<w
   ·(repeat' ((first|(apply AG<;>intro hc<;>try omega)|apply AD)<;>conv=>whnf))
    refine DF (λ i=>n-i) (λ(i:Nat)=>P.length<=i/\i<=n /\ ∀ (q:Nat) (r:List Rat),P.length<=q->q<i->m[q]? = some r->r.getD c 0=0) (λ i=>[(11,.int .i64 i)]) (λ_=>[]) P.length ⟨Nat.le_refl _,by omega,λ q r h1 h2=>absurd h1 (by omega)⟩ ?_;intro i ⟨i1,i2,i3⟩ ih;by_cases hi:i<n
    ·obtain ⟨rp,s8⟩ : ∃ r,m[i]? = some r:=⟨_,zE (by omega)⟩
     have bk:=hE.bf.lr rp (zM s8);have je:rp[c]? = some (rp.getD c 0):=QR (by omega);have xd:=bG N.tob8 (hE.ms.at s8 _ (zM je)) (by omega);have hz:=dD (x:=rp.getD c 0);generalize pe:rp.getD c 0=rc at *;generalize y7 rc.num=sg at *;by_cases rn:sg=0
     ·(repeat' ((first|(apply AG<;>intro hc<;>try omega)|(apply AU;omega)|(refine FM ?_ (λ r hr => ?_);omega)|apply AD)<;>conv=>whnf))
      cases s8.symm.trans hr;refine AU (by rw[List.length_map];omega) ?_;(conv=>whnf)
      (repeat' ((first|(refine FB ?_ (λ_=>rfl) (λ v hv => ?_);omega)|refine GO (by assumption) ?_)<;>conv=>whnf))
      cases je.symm.trans hv;(repeat' ((first|(apply AG<;>intro hc<;>try omega)|(apply A0;omega)|refine AC (xd) ?_)<;>conv=>whnf))
      refine BH [] (by (conv=>whnf);exact ⟨rfl,rfl,rfl⟩) (ih (i+1) (by omega) ⟨by omega,by omega,λ q x h1 h2 hx => ?_⟩);by_cases e:q=i
      ·subst e
       cases s8.symm.trans hx;rw[pe];exact hz.1 rn
      ·exact i3 q x h1 (by omega) hx
     ·clear ih ch
      have Ff:rc≠0:=λ e=>rn (hz.2 e)
      (repeat' ((first|(apply AG<;>intro hc<;>try omega)|(apply AU;omega)|(refine FM ?_ (λ r hr => ?_);omega)|apply AD)<;>conv=>whnf))
      cases s8.symm.trans hr;refine AU (by rw[List.length_map];omega) ?_;(conv=>whnf)
      (repeat' ((first|(refine FB ?_ (λ_=>rfl) (λ v hv => ?_);omega)|refine GO (by assumption) ?_)<;>conv=>whnf))
      cases je.symm.trans hv;(repeat' ((first|(apply AG<;>intro hc<;>try omega)|(apply AU;omega)|(refine FM ?_ (λ r hr => ?_);omega)|refine GO (by assumption) ?_|refine AC (xd) ?_)<;>conv=>whnf))
      ·obtain ⟨t,wh⟩ : ∃ t,m[P.length]? = some t:=⟨_,zE (by omega)⟩
       refine AU ⟨rfl,by simp only[BM,List.length_map];omega⟩ ?_;(conv=>whnf)
       (repeat' ((first|(apply AU;omega)|refine GO (by assumption) ?_)<;>conv=>whnf))
       rw[show 0+((i:Nat):Int).toNat=i by omega,show 0+((P.length:Nat):Int).toNat=P.length by omega];refine AU ⟨rfl,by simp only[BM,List.length_map,List.length_set,List.length_range];omega,zW (by simp only[BM,List.length_map];omega)⟩ ?_;(conv=>whnf)
       skip
       have hE2:=hE.swap s8 wh i1 (Nat.le_refl _) (by omega);have hS2:c<w -> ∃ Pz,((m.set i t).set P.length rp)[P.length]? = some Pz/\Pz.getD c 0≠0:=λ_=>⟨rp,by rw[List.getElem?_set,if_pos rfl,if_pos (by rw[List.length_set];omega)],by rw[pe];exact Ff⟩
       generalize hob:(!odd)=ob at *;cases ob;all_goals
        (conv=>whnf)
        skip
        refine ZZ.go ?_;refine mQ (k:=231016) (i:=i) (j:=P.length) rfl (K7 s8) (K7 wh) rfl rfl ?_;rw[vM];exact BH [] (by (conv=>whnf);exact ⟨rfl,rfl,rfl⟩) (uk _ c _ ⟨hE2,hS2⟩)
      ·have ei:i=P.length:=by omega
       exact ZZ.go (BH [] (by (conv=>whnf);exact ⟨rfl,rfl,rfl⟩) (uk m c odd ⟨hE,λ_=>⟨rp,by rw[<-ei];exact s8,by rw[pe];exact Ff⟩⟩))
    ·have ei:i=n:=by omega
     clear ih;(repeat' ((first|(apply AG<;>intro hc<;>try omega)|(apply A0;omega)|apply AD)<;>conv=>whnf))
     exact BQ [] (ch (c+1) (by omega) (hE.skip nw λ q x h1 hx=>i3 q x h1 (by have:=(zS hx).1;omega) hx))
   ·clear ch
    (repeat' ((first|(apply AG<;>intro hc<;>try omega)|apply AD)<;>conv=>whnf))
    exact ZZ.go (BH [] (by (conv=>whnf);exact ⟨rfl,rfl,rfl⟩) (uk m c odd ⟨hE,λ h=>absurd h nw⟩))
 ·clear eh
  (repeat' ((first|(apply AG<;>intro hc<;>try omega)|apply AD)<;>conv=>whnf))
  refine ⟨rfl,?_⟩;(conv=>whnf)
  skip
  have jb:w<=c\/n<=P.length:=Or.inr (by omega);have Lb:=qW hE Ex x7 jb;have Ig:P.length<=n:=by have:=hE.bf.pl;omega
  have Ih:P.length<=w:=by have:=hE.bf.le;have:=hE.cc;omega
  skip
  refine ⟨.l6 [.int .i64 P.length,.int .i64 0],?_,P.length,rfl,Lb,Ig,Ih⟩;(conv=>whnf)
  exact AW rfl (by simp [A1,CD])
theorem Aho {n:Nat} (hn:n<=3):10*FE 4 n<=100000000000:=by
 obtain rfl|rfl|rfl|rfl:n=0\/n=1\/n=2\/n=3:=by omega
 all_goals decide
end Go.e8
