/-
  The reference of layer 9: Valid, Identity, Times, Same.
-/
import Derived.Test.YtgdojcofnobpeaaGreatB4
import Derived.Test.YtgdojcofnobpeaaGreatB10
import Derived.Test.YtgdojcofnobpeaaGreatB9
import Derived.Test.YtgdojcofnobpeaaGreatB11
import Derived.Test.YtgdojcofnobpeaaGreatB12
import Derived.Test.YtgdojcofnobpeaaGreatB7
set_option linter.unusedSimpArgs false
set_option linter.unusedVariables false
set_option linter.unnecessarySimpa false
namespace Go.Eng
open F
attribute [local irreducible] AH BJ B1 BD E6 CF CI CY CU DX B5 DT EN GS DS CR DR EF AR CW BW pw DC DB EP EV E7 FM EZ D5 FE
variable {L:Lib}
set_option maxHeartbeats 16000000
set_option maxRecDepth 8000
theorem mY (N:R09GLib L) (q q':Bool) (a:List (List Rat)) (n w:Nat) (hn:a.length=n) (hw : ∀ r∈a,r.length=w) (h1:1<=n/\n<=52) (h2:1<=w/\w<=52):Ev L 239 [.sl q (E8 q' a)] (.bool true):=by
 obtain ⟨r0,hr0⟩ : ∃ r,a[0]? = some r:=⟨_,zE (by omega)⟩;have hr0':a[(0:Int).toNat]? = some r0:=hr0;have hl0:=hw r0 (zM hr0);refine Ev.x N.R9 rfl rfl ?_;(repeat' ((first|(apply BR<;>intro hc<;>try (exfalso;omega))|apply CB|(refine CX (by assumption) ?_ rfl ?_;omega)|apply BA)<;>conv=>whnf))
 refine DG (λ i=>n-i) (λ(i:Nat)=>i<=n) (λ i=>[(29,.int .i64 i)]) (λ_=>[]) [] [] 0 (by (conv=>whnf);exact ⟨rfl,rfl,rfl⟩) (by omega) ?_;intro i p1 ih;by_cases hi:i<n
 ·obtain ⟨r,hr⟩ : ∃ r,a[i]? = some r:=⟨_,zE (by omega)⟩
  have hr':a[(i:Int).toNat]? = some r:=hr;have hl:=hw r (zM hr);(repeat' ((first|(apply BR<;>intro hc<;>try (exfalso;omega))|(apply CG;omega)|apply CB|(refine CX (by assumption) ?_ rfl ?_;omega)|apply BA)<;>conv=>whnf))
  exact C6 [] (ih (i+1) (by omega) (by omega))
 ·obtain rfl:i=n:=by omega
  clear ih;(repeat' ((first|(apply BR<;>intro hc<;>try (exfalso;omega))|apply BA)<;>conv=>whnf))
  exact I4 rfl
theorem Vr (N:R09GLib L) (n:Nat) (hn:1<=n/\n<=52):Ev L 240 [.int .i64 n] (.tup [.sl false (eM (FJ n)),.int .i64 0]):=by
 have hO:=ZP N.toa9 0 (by omega);have hI:=ZP N.toa9 1 (by omega);have hat : ∀ i,i<n->(FJ n)[i]? = some (FV n i):=λ i hi=>by simp [FJ,hi]
 have htl:(FJ n).length=n:=by simp [FJ]
 generalize hT:FJ n=T at *;refine Ev.x N.R7 rfl rfl ?_;(repeat' ((first|(apply BR<;>intro hc<;>try (exfalso;omega))|apply BA)<;>conv=>whnf))
 refine dX 4 4 rfl ?_;refine DG (λ i=>n-i) (λ(i:Nat)=>i<=n) (λ i=>[(5,.int .i64 i),(4,.row 4 0 1 0 i)]) (λ i=>[(4,4,.mx (C7 3 eQ (T.take i)))]) [] [] 0 (by (conv=>whnf);exact ⟨rfl,rfl,rfl⟩) (by omega) ?_;intro i p1 ih;have htk:(T.take i).length=i:=by rw[List.length_take];omega
 by_cases hi:i<n
 ·have hts:=TC (hat i hi)
  generalize T.take i=R0 at *;(repeat' ((first|(apply BR<;>intro hc<;>try (exfalso;omega))|apply BA)<;>conv=>whnf))
  refine GT (enc:=eO) none n rfl (by omega) (by omega) ?_;(conv=>whnf)
  skip
  refine DG (λ j=>n-j) (λ(j:Nat)=>j<=n) (λ j=>[(23,.int .i64 j)]) (λ j=>[(20,20,.rw 3 ((FR (List.replicate j 0) n).map eO))]) [] [] 0 (by first|exact (by (conv=>whnf);exact ⟨rfl,rfl,rfl⟩)|(rw[List.replicate_zero,<-KO];exact (by (conv=>whnf);exact ⟨rfl,rfl,rfl⟩))) (by omega) ?_;intro j r2 jh;have htj:(List.replicate j (0:Rat)).length=j:=by simp
  have hlf:=JM (l:=List.replicate j (0:Rat)) (m:=n) (by omega);by_cases hj:j<n
  ·have hs:=KP (l:=List.replicate j (0:Rat)) (m:=n) (x:=((0:Int):Rat)) (by omega)
   rw[htj,show List.replicate j (0:Rat)++[((0:Int):Rat)]=List.replicate (j+1) 0 from List.replicate_succ'.symm]at hs;generalize FR (List.replicate j (0:Rat)) n=W at *;(repeat' ((first|(apply BR<;>intro hc<;>try (exfalso;omega))|(apply CE;omega)|apply BA|refine BH (hO) ?_)<;>conv=>whnf))
   refine G8 (enc:=eO) (some ((0:Int):Rat)) rfl (λ e=>by cases e<;>rfl) (by omega) ?_;(conv=>whnf)
   rw[hs];(repeat' ((first|(apply CG;omega)|fail)<;>conv=>whnf))
   exact C6 [] (jh (j+1) (by omega) (by omega))
  obtain rfl:j=n:=by omega
  clear jh;rw[K4 (by omega)];(repeat' ((first|(apply BR<;>intro hc<;>try (exfalso;omega))|(apply CE;omega)|apply BA|refine BH (hI) ?_)<;>conv=>whnf))
  refine G8 (enc:=eQ) ((1:Int):Rat) rfl (λ_=>rfl) (by omega) ?_;rw[show (List.replicate j (0:Rat)).set i ((1:Int):Rat)=FV j i from YR j i];(conv=>whnf)
  skip
  have hul:=TD j i;generalize FV j i=u at *;refine CE (by rw[List.length_map];omega) ?_;refine Y0 (r:=u) (en:=eQ) htk.symm (by omega) (by omega) ?_;rw[<-hts,show (T.take (i+1)).length=i+1 by rw[List.length_take];omega];(conv=>whnf)
  (repeat' ((first|(apply CG;omega)|fail)<;>conv=>whnf))
  exact C6 [(4,38)] (ih (i+1) (by omega) (by omega))
 ·obtain rfl:i=n:=by omega
  clear ih;rw[List.take_of_length_le (by omega)];(repeat' ((first|(apply BR<;>intro hc<;>try (exfalso;omega))|apply BA)<;>conv=>whnf))
  refine NT (λ_=>rfl) rfl htl.symm ?_;(conv=>whnf)
  exact CJ rfl (TU T 0)
theorem xY (N:R09GLib L) (q1 q2 q3 q4:Bool) (a b:List (List Rat)) (p n w k l:Nat) (hal:a.length=p) (haw : ∀ r∈a,r.length=n) (hbl:b.length=n) (hbw : ∀ r∈b,r.length=w) (hp:1<=p/\p<=52) (hn:1<=n/\n<=52) (hw:1<=w/\w<=52) (hab:Ms k a) (hbb:Ms l b) (hB:n*(k+l+1)<2199023255552) :
  Ev L 241 [.sl q1 (E8 q2 a),.sl q3 (E8 q4 b)] (.tup [.sl false (eM (EA a b w)),.int .i64 0]):=by
 have hVa:=mY N q1 q2 a p n hal haw hp hn;have hVb:=mY N q3 q4 b n w hbl hbw hn hw;have hO:=ZP N.toa9 0 (by omega);obtain ⟨r0,hr0⟩ : ∃ r,a[0]? = some r:=⟨_,zE (by omega)⟩;have hr0':a[(0:Int).toNat]? = some r0:=hr0;have hl0:=haw r0 (zM hr0);obtain ⟨s0,hs0⟩ : ∃ r,b[0]? = some r:=⟨_,zE (by omega)⟩;have hs0':b[(0:Int).toNat]? = some s0:=hs0;have hl1:=hbw s0 (zM hs0);have hat : ∀ (i:Nat) (r:List Rat),a[i]? = some r->(EA a b w)[i]? = some (HZ r b w):=λ i r hr=>by rw[EA,List.getElem?_map,hr];rfl
 have htl:(EA a b w).length=p:=by rw[Cr];exact hal
 generalize hT:EA a b w=T at *;refine Ev.x N.R8 rfl rfl ?_;(repeat' ((first|(apply BR<;>intro hc<;>try (exfalso;omega))|apply CB|(refine CX (by assumption) ?_ rfl ?_;omega)|apply BA|refine BH (hVa) ?_|refine BH (hVb) ?_)<;>conv=>whnf))
 refine dX 6 6 rfl ?_;refine DG (λ i=>p-i) (λ(i:Nat)=>i<=p) (λ i=>[(31,.int .i64 i),(6,.row 6 0 1 0 i)]) (λ i=>[(6,6,.mx (C7 3 eQ (T.take i)))]) [] [] 0 (by (conv=>whnf);exact ⟨rfl,rfl,rfl⟩) (by omega) ?_;intro i p1 ih;have htk:(T.take i).length=i:=by rw[List.length_take];omega
 by_cases hi:i<p
 ·obtain ⟨r,hr⟩ : ∃ r,a[i]? = some r:=⟨_,zE (by omega)⟩
  have hr':a[(i:Int).toNat]? = some r:=hr;have hrl:=haw r (zM hr);have hrb:=hab.at hr;have hts:=TC (hat i r hr);have hmat : ∀ j,j<w->(HZ r b w)[j]? = some (CK r (EB b j)):=λ j hj=>by simp [HZ,hj]
  have hml:=iI r b w;generalize T.take i=R0 at *;generalize HZ r b w=M at *;(repeat' ((first|(apply BR<;>intro hc<;>try (exfalso;omega))|apply CB|(refine CX (by assumption) ?_ rfl ?_;omega)|apply BA)<;>conv=>whnf))
  refine DG (λ j=>w-j) (λ(j:Nat)=>j<=w) (λ j=>[(38,.int .i64 j),(8,.row 8 0 3 0 j)]) (λ j=>[(8,8,.rw 3 ((M.take j).map eQ))]) [] [] 0 (by (conv=>whnf);exact ⟨rfl,rfl,rfl⟩) (by omega) ?_;intro j p2 jh;have htj:(M.take j).length=j:=by rw[List.length_take];omega
  by_cases hj:j<w
  ·have hms:=TC (hmat j hj)
   have hcl:=bL b j;have hcb:Bs l (EB b j):=λ x hx=>by
    obtain ⟨s,hs,rfl⟩:=List.mem_map.1 hx;obtain ⟨e,he1⟩:=List.getElem?_of_mem hs;exact (hbb.at he1).at (OW (by rw[hbw s hs];exact hj))
   have hce : ∀ (t:Nat) (s:List Rat) (x:Rat),b[t]? = some s->s[j]? = some x->(EB b j)[t]? = some x:=λ t s x h1 h2=>by
    rw[EB,List.getElem?_map,h1,Option.map_some,List.getD_eq_getElem?_getD,h2];rfl
   generalize EB b j=C at *;generalize M.take j=M0 at *;(repeat' ((first|(apply BR<;>intro hc<;>try (exfalso;omega))|apply CB|apply BA|refine BH (hO) ?_)<;>conv=>whnf))
   refine DG (λ t=>n-t) (λ(t:Nat)=>t<=n) (λ t=>[(44,.int .i64 t)]) (λ t=>[(10,10,.bx (eQ (CK (r.take t) (C.take t))))]) [] [] 0 (by first|exact (by (conv=>whnf);exact ⟨rfl,rfl,rfl⟩)|(rw[List.take_zero,List.take_zero];exact (by (conv=>whnf);exact ⟨rfl,rfl,rfl⟩))) (by omega) ?_;intro t p3 th;by_cases ht:t<n
   ·obtain ⟨s,hs⟩ : ∃ s,b[t]? = some s:=⟨_,zE (by omega)⟩
    have hs':b[(t:Int).toNat]? = some s:=hs;have hsl:=hbw s (zM hs);obtain ⟨x,hx⟩ : ∃ x,r[t]? = some x:=⟨_,zE (by omega)⟩;obtain ⟨y,hy⟩ : ∃ y,s[j]? = some y:=⟨_,zE (by omega)⟩;have hx':r[(t:Int).toNat]? = some x:=hx;have hy':s[(j:Int).toNat]? = some y:=hy;have hyb:=(hbb.at hs).at hy;have hdb:=(hrb.take t).dot (hcb.take t);rw[List.length_take,Nat.min_eq_left (by omega)]at hdb;have hkl:k+l+1<=n*(k+l+1):=Nat.le_mul_of_pos_left _ (by omega);have htn:t*(k+l+1)<=n*(k+l+1):=Nat.mul_le_mul_right _ (by omega);have hMu:=cC N.toa9 (hrb.at hx) hyb (by omega) (by omega);have hAd:=mG N.toa9 hdb ((hrb.at hx).mul hyb) (by omega) (by omega);rw[<-bR hx (hce t s y hs hy)]at hAd;generalize CK (r.take t) (C.take t)=d0 at *;generalize hd1:CK (r.take (t+1)) (C.take (t+1))=d1 at hAd;generalize x*y=xy at *;(repeat' ((first|(apply BR<;>intro hc<;>try (exfalso;omega))|(apply CG;omega)|(refine CX (by assumption) ?_ rfl ?_;omega)|apply BA|refine BH (hMu) ?_|refine BH (hAd) ?_)<;>conv=>whnf))
    subst hd1;exact C6 [] (th (t+1) (by omega) (by omega))
   ·obtain rfl:t=n:=by omega
    clear th;rw[XF hrl];(repeat' ((first|(apply BR<;>intro hc<;>try (exfalso;omega))|apply G0|apply BA)<;>conv=>whnf))
    refine HP (enc:=eQ) (CK r C) rfl htj.symm rfl (by omega) (by omega) ?_;rw[<-hms,show (M.take (j+1)).length=j+1 by rw[List.length_take];omega];(conv=>whnf)
    (repeat' ((first|(apply CG;omega)|fail)<;>conv=>whnf))
    exact C6 [(8,68)] (jh (j+1) (by omega) (by omega))
  ·obtain rfl:j=w:=by omega
   clear jh;rw[List.take_of_length_le (by omega)];(repeat' ((first|(apply BR<;>intro hc<;>try (exfalso;omega))|apply BA)<;>conv=>whnf))
   refine CE (by rw[List.length_map,hml]) ?_;refine Y0 (r:=M) (en:=eQ) htk.symm (by omega) (by omega) ?_;rw[<-hts,show (T.take (i+1)).length=i+1 by rw[List.length_take];omega];(conv=>whnf)
   (repeat' ((first|(apply CG;omega)|fail)<;>conv=>whnf))
   exact C6 [(6,73)] (ih (i+1) (by omega) (by omega))
 ·obtain rfl:i=p:=by omega
  clear ih;rw[List.take_of_length_le (by omega)];(repeat' ((first|(apply BR<;>intro hc<;>try (exfalso;omega))|apply BA)<;>conv=>whnf))
  refine NT (λ_=>rfl) rfl htl.symm ?_;(conv=>whnf)
  exact CJ rfl (TU T 0)
theorem Ws (N:InvGLib L) {x y:Rat} {k l:Nat} (hx:Bt k x) (hy:Bt l y) (hk:k<2199023255552) (hl:l<2199023255552) (h0:y≠0):Ev L 276 [.agg (eQ x),.agg (eQ y)] (.agg (eQ (x/y))):=by
 have hD:=Wa N.tog9 hx hy hk hl h0;refine Ev.x N.RP rfl rfl ?_;(repeat' ((first|(apply BR<;>intro hc<;>try (exfalso;omega))|apply BA|refine BH (hD) ?_)<;>conv=>whnf))
 exact CJ rfl (G4 _)
theorem Lp {R:List (Option (Nat × List (List AV)))} {e:Nat} {r:Option (Nat × List (List AV))} {K:Option (Nat × List (List AV))->Prop} (h:R[e]? = some r) (hk:K r):DC R e K:=by
 unfold DC;exact ⟨r,h,hk⟩
theorem oI {α:Type} {a b:List α} {j:Nat} {x:α} (hl:a.length=b.length) (hx:b[j]? = some x):(a.take j++b.drop j)[j]? = some x:=by
 have h1:=(zS hx).1;have ht:(a.take j).length=j:=by rw[List.length_take];omega
 rw[List.getElem?_append_right (by omega),ht,Nat.sub_self,List.getElem?_drop];exact hx
theorem oJ {α:Type} {a b:List α} {j:Nat} {y:α} (hl:a.length=b.length) (hy:a[j]? = some y):(a.take j++b.drop j).set j y=a.take (j+1)++b.drop (j+1):=by
 have h1:=(zS hy).1;have ht:(a.take j).length=j:=by rw[List.length_take];omega
 rw[List.set_append_right _ _ (by omega),ht,Nat.sub_self,List.drop_eq_getElem_cons (by omega),List.set_cons_zero,List.take_add_one,hy,List.append_assoc];rfl
def JB (k0:Nat):Nat->Nat
 | 0=>k0
 | c+1=>4*JB k0 c+1
theorem Fu (k0:Nat) {c:Nat} : ∀ d,JB k0 c<=JB k0 (c+d)
 | 0=>Nat.le_refl _
 | d+1=>by
  have:=Fu k0 (c:=c) d
  show JB k0 c<=4*JB k0 (c+d)+1;omega
theorem Fv (N:InvGLib L) (q1 q2 q3 q4:Bool) (a b T:List (List Rat)) (n K:Nat) (hn:1<=n/\n<=10) (hK:K<=10000000000) {m:List (List Rat)} {k c:Nat} {d:Rat} {t:List Rat} (hR:H8 T n m k c) (hM:Ms K m) (hkn:k<n) (hcn:c<n) (ht:m[k]? = some t) (hp:t.getD c 0≠0) {kk:List It} {Q:Tm->Mem->Prop}
  (hfin : ∀ m2:List (List Rat),H8 T n m2 (k+1) (c+1)->Ms (4*K+1) m2->AH L (.lp JP.l1 :: .blk 0::kk) ([(8,.int .i64 ((c+1:Nat):Int)),(6,.int .i64 ((k+1:Nat):Int)),(7,.ptr 901007 0 0 0),(5,.ptr 901005 0 0 0),(0,.row 277003 0 1 0 n),(0+1,.int .i64 n)]++[(1000+38,.int .i64 n),(1000+37,.sl q1 (E8 q2 a)),(1000+36,.row 277003 0 1 0 n),(1000+20,.bool false),(1000+19,.int .i64 n),(1000+18,.int .i64 n),(1000+6,.row 277003 0 1 0 n),(1000+0,.sl q1 (E8 q2 a)),(1000+(0+1),.sl q3 (E8 q4 b))]) [(277003,277003,.mx (C7 3 eQ m2)),(901007,901007,.bx (eQ d)),(901005,901005,.bx [.bool false,.nil,.nil])] Q) :
  AH L (.lp JP.l3 :: .blk 4 :: .code ((((C1.ops JP.r19 false).dr [10,82,83,84,102] []).seq (C1.block 6 JP.l4.loop)).seq ((C1.ops JP.r30 false).dr [103,104,105,155,156] [])) :: .blk 1 :: .code ((C1.ops JP.r4 false).dr [9,25,26,48] []) :: .lp JP.l1 :: .blk 0::kk)
   ([(83,.int .i64 ((0:Nat):Int)),(82,.int .i64 ((n+n:Nat):Int)),(10,.ptr 901010 0 0 0),(8,.int .i64 c),(6,.int .i64 k),(7,.ptr 901007 0 0 0),(5,.ptr 901005 0 0 0),(0,.row 277003 0 1 0 n),(0+1,.int .i64 n)]++[(1000+38,.int .i64 n),(1000+37,.sl q1 (E8 q2 a)),(1000+36,.row 277003 0 1 0 n),(1000+20,.bool false),(1000+19,.int .i64 n),(1000+18,.int .i64 n),(1000+6,.row 277003 0 1 0 n),(1000+0,.sl q1 (E8 q2 a)),(1000+(0+1),.sl q3 (E8 q4 b))])
   [(277003,277003,.mx (C7 3 eQ m)),(901007,901007,.bx (eQ d)),(901010,901010,.bx (eQ (t.getD c 0))),(901005,901005,.bx [.bool false,.nil,.nil])] Q:=by
 have hml:=hR.len;have htl:=hR.wid t (zM ht);have htb:=hM.at ht;have hpb:=Bs.getD htb c;have hS0:=NU.start hR ht hp (λ q r hq=>hM.at hq);have hRi:=PM (z:=3) ht;have hRn:(C7 3 eQ m).length=n:=by simp only[C7,List.length_map];omega
 have hRf:(C7 3 eQ m).set k (some (3,(t.map (· / t.getD c 0)).map eQ))=C7 3 eQ (m.set k (t.map (· / t.getD c 0))):=by simp only[C7,List.map_set]
 have hdl:(t.map (· / t.getD c 0)).length=n+n:=by rw[List.length_map];exact htl
 have hda : ∀ (j:Nat) (x:Rat),t[j]? = some x->(t.map (· / t.getD c 0))[j]? = some (x/t.getD c 0):=λ j x hx=>by rw[List.getElem?_map,hx];rfl
 generalize t.map (· / t.getD c 0)=u at *;generalize t.getD c 0=p at *;refine VP (l:=[_,_]) rfl ?_;generalize C7 3 eQ m=R0 at *;have hR00:R0.set k (some (3,t.map eQ))=R0:=dJ hRi;refine DG (λ j=>n+n-j) (λ(j:Nat)=>j<=n+n) (λ j=>[(83,.int .i64 j)]) (λ j=>[(277003,277003,.mx (R0.set k (some (3,(u.take j++t.drop j).map eQ))))]) [] [] 0 (by first|exact (by (conv=>whnf);exact ⟨rfl,rfl,rfl⟩)|(rw[List.take_zero,List.drop_zero,List.nil_append,hR00];exact (by (conv=>whnf);exact ⟨rfl,rfl,rfl⟩))) (by omega) ?_;intro j j1 jh;have hcl:(u.take j++t.drop j).length=n+n:=by rw[List.length_append,List.length_take,List.length_drop];omega
 by_cases hj:j<n+n
 ·obtain ⟨x,hx⟩ : ∃ x,t[j]? = some x:=⟨_,zE (by omega)⟩
  have hma:=oI (a:=u) (by omega) hx;have hms:=oJ (a:=u) (b:=t) (by omega) (hda j x hx);have hO:=Ws N (htb.at hx) hpb (by omega) (by omega) hp;generalize u.take j++t.drop j=cm at *;(repeat' ((first|(apply BR<;>intro hc<;>try (exfalso;omega))|(apply CE;omega)|apply BA)<;>conv=>whnf))
  refine MM (by omega) (by omega) ?_;(conv=>whnf)
  (repeat' ((first|(apply CE;omega)|fail)<;>conv=>whnf))
  refine MM (by omega) (by omega) ?_;(conv=>whnf)
  skip
  refine CE (by rw[List.length_map];omega) ?_;(conv=>whnf)
  skip
  refine L1 (by omega) (by omega) ?_;(conv=>whnf)
  (repeat' ((first|(refine HX ?_ (λ_=>rfl) (λ v hv => ?_);omega)|fail)<;>conv=>whnf))
  cases hma.symm.trans hv;(repeat' (refine BH (hO) ?_<;>conv=>whnf))
  refine CE (by rw[List.length_map];omega) ?_;(conv=>whnf)
  skip
  refine L1 (by omega) (by omega) ?_;(conv=>whnf)
  refine G8 (enc:=eQ) (x/p) rfl (λ_=>rfl) (by omega) ?_;rw[hms];(conv=>whnf)
  refine VT (by omega) (by rw[List.length_map,List.length_map,<-hms,List.length_set]) ?_;(conv=>whnf)
  (repeat' ((first|(apply CG;omega)|fail)<;>conv=>whnf))
  exact C6 [] (jh (j+1) (by omega) (by omega))
 ·have ej:j=n+n:=by omega
  clear jh;rw[ej,List.take_of_length_le (by omega),List.drop_of_length_le (by omega),List.append_nil,hRf];clear hcl hj j1 ej j hRf hRi hRn hR00 hda hdl;have hm2:=hS0.red.len;generalize m.set k u=m2 at *;(repeat' ((first|(apply BR<;>intro hc<;>try (exfalso;omega))|apply BA)<;>conv=>whnf))
  refine VP (l:=[_,_]) rfl ?_;clear ht hM htb hR hml hpb htl t hp;have hul:=hS0.red.wid u (zM hS0.ht);have hub:=hS0.bt;refine I3 (λ_ i=>n-i) (λ(m:List (List Rat)) (i:Nat)=>NU T n K k c u m i/\i<=n) (λ_ i=>[(104,.int .i64 i)]) (λ m _=>[(277003,277003,.mx (C7 3 eQ m))]) [] [] m2 0 (by (conv=>whnf);exact ⟨rfl,rfl,rfl⟩) ⟨hS0,by omega⟩ ?_;clear hS0 hm2;intro m i ⟨hS,i1⟩ ih;have hml:=hS.red.len;by_cases hi:i<n
  ·obtain ⟨rq,hq0⟩ : ∃ r,m[i]? = some r:=⟨_,zE (by omega)⟩
   have hql:=hS.red.wid rq (zM hq0);have hqb:Bs (2*K) rq:=by
    by_cases e:i=k
    ·have h1:=hS.ht
     rw[<-e]at h1;cases h1.symm.trans hq0;exact hub
    ·exact λ y hy=>(hS.hi i rq (Nat.le_refl _) e hq0 y hy).le (by omega)
   have hqc0:rq[c]? = some (rq.getD c 0):=OW (by omega);have hfb:=hqb.at hqc0;obtain ⟨sg,hSg,hz⟩:=gR N.tog9 hfb (by omega);by_cases hik:i=k
   ·have hst:=hS.same (λ h=>absurd hik h)
    generalize rq.getD c 0=f at *;(repeat' ((first|(apply BR<;>intro hc<;>try (exfalso;omega))|(apply CE;omega)|(refine HJ ?_ (λ r hr => ?_);omega)|apply BA)<;>conv=>whnf))
    cases hq0.symm.trans hr;refine CE (by rw[List.length_map];omega) ?_;(conv=>whnf)
    (repeat' ((first|(apply BR<;>intro hc<;>try (exfalso;omega))|(apply CG;omega)|(refine HX ?_ (λ_=>rfl) (λ v hv => ?_);omega)|refine H7 (by assumption) ?_)<;>conv=>whnf))
    exact C6 [] (ih m (i+1) (by omega) ⟨hst,by omega⟩)
   ·by_cases hsg:sg=0
    ·have hf0:=hz.1 hsg
     have hst:=hS.same (λ_ r h=>by cases hq0.symm.trans h;exact hf0);generalize rq.getD c 0=f at *;(repeat' ((first|(apply BR<;>intro hc<;>try (exfalso;omega))|(apply CE;omega)|(refine HJ ?_ (λ r hr => ?_);omega)|apply BA)<;>conv=>whnf))
     cases hq0.symm.trans hr;refine CE (by rw[List.length_map];omega) ?_;(conv=>whnf)
     (repeat' ((first|(apply BR<;>intro hc<;>try (exfalso;omega))|(refine HX ?_ (λ_=>rfl) (λ v hv => ?_);omega)|refine H7 (by assumption) ?_)<;>conv=>whnf))
     cases hqc0.symm.trans hv;(repeat' ((first|(apply BR<;>intro hc<;>try (exfalso;omega))|(apply CG;omega)|refine BH (hSg) ?_)<;>conv=>whnf))
     exact C6 [] (ih m (i+1) (by omega) ⟨hst,by omega⟩)
    ·have hst:=hS.step hq0 hik
     have hRi:=PM (z:=3) hq0;have hRk:=PM (z:=3) hS.ht;have hRn:(C7 3 eQ m).length=n:=by simp only[C7,List.length_map];omega
     have hRf:(C7 3 eQ m).set i (some (3,(cmb (rq.getD c 0) rq u).map eQ))=C7 3 eQ (m.set i (cmb (rq.getD c 0) rq u)):=by simp only[C7,List.map_set]
     have hcl:(cmb (rq.getD c 0) rq u).length=n+n:=by rw[lH (by omega)];exact hql
     have hca : ∀ (j:Nat) (x y:Rat),rq[j]? = some x->u[j]? = some y->(cmb (rq.getD c 0) rq u)[j]? = some (x-rq.getD c 0*y):=λ j x y h1 h2=>uI h1 h2
     generalize cmb (rq.getD c 0) rq u=cb at *;generalize rq.getD c 0=f at *;(repeat' ((first|(apply BR<;>intro hc<;>try (exfalso;omega))|(apply CE;omega)|(refine HJ ?_ (λ r hr => ?_);omega)|apply BA)<;>conv=>whnf))
     cases hq0.symm.trans hr;refine CE (by rw[List.length_map];omega) ?_;(conv=>whnf)
     (repeat' ((first|(apply BR<;>intro hc<;>try (exfalso;omega))|(refine HX ?_ (λ_=>rfl) (λ v hv => ?_);omega)|refine H7 (by assumption) ?_)<;>conv=>whnf))
     cases hqc0.symm.trans hv;(repeat' ((first|(apply BR<;>intro hc<;>try (exfalso;omega))|(apply CE;omega)|(refine HJ ?_ (λ r hr => ?_);omega)|refine BH (hSg) ?_)<;>conv=>whnf))
     cases hq0.symm.trans hr;rw[show (rq.map eQ).length=n+n by rw[List.length_map];exact hql];generalize C7 3 eQ m=R1 at *;have hR00:R1.set i (some (3,rq.map eQ))=R1:=dJ hRi;refine DG (λ j=>n+n-j) (λ(j:Nat)=>j<=n+n) (λ j=>[(127,.int .i64 j)]) (λ j=>[(277003,277003,.mx (R1.set i (some (3,(cb.take j++rq.drop j).map eQ))))]) [] [] 0 (by first|exact (by (conv=>whnf);exact ⟨rfl,rfl,rfl⟩)|(rw[List.take_zero,List.drop_zero,List.nil_append,hR00];exact (by (conv=>whnf);exact ⟨rfl,rfl,rfl⟩))) (by omega) ?_;intro j j1 jh;have hcml:(cb.take j++rq.drop j).length=n+n:=by rw[List.length_append,List.length_take,List.length_drop];omega
     by_cases hj:j<n+n
     ·obtain ⟨x,hx⟩ : ∃ x,rq[j]? = some x:=⟨_,zE (by omega)⟩
      obtain ⟨y,hy⟩ : ∃ y,u[j]? = some y:=⟨_,zE (by omega)⟩;have hma:=oI (a:=cb) (by omega) hx;have hms:=oJ (a:=cb) (b:=rq) (by omega) (hca j x y hx hy);have hMu:=cC N.toa9 hfb (hub.at hy) (by omega) (by omega);have hSu:=Uz N.tog9 (hqb.at hx) (hfb.mul (hub.at hy)) (by omega) (by omega);generalize cb.take j++rq.drop j=cm at *;have hRk2:(R1.set i (some (3,cm.map eQ)))[k]? = some (some (3,u.map eQ)):=by rw[List.getElem?_set,if_neg hik];exact hRk
      (repeat' ((first|(apply BR<;>intro hc<;>try (exfalso;omega))|(apply CE;omega)|apply BA)<;>conv=>whnf))
      refine MM (by omega) (by omega) ?_;(conv=>whnf)
      (repeat' ((first|(apply CE;omega)|fail)<;>conv=>whnf))
      refine MM (by omega) (by omega) ?_;(conv=>whnf)
      skip
      refine CE (by rw[List.length_map];omega) ?_;(conv=>whnf)
      skip
      refine L1 (by omega) (by omega) ?_;(conv=>whnf)
      (repeat' ((first|(apply CE;omega)|(refine HX ?_ (λ_=>rfl) (λ v hv => ?_);omega))<;>conv=>whnf))
      cases hma.symm.trans hv;skip
      refine Lp (r:=some (3,u.map eQ)) (by rw[show 0+((k:Nat):Int).toNat=k by omega];exact hRk2) ?_;(conv=>whnf)
      skip
      refine CE (by rw[List.length_map];omega) ?_;(conv=>whnf)
      skip
      refine Y4 (by rw[show 0+((k:Nat):Int).toNat=k by omega];exact hRk2) ?_;(conv=>whnf)
      (repeat' ((first|(refine HX ?_ (λ_=>rfl) (λ v hv => ?_);omega)|fail)<;>conv=>whnf))
      cases hy.symm.trans hv;(repeat' ((first|refine BH (hMu) ?_|refine BH (hSu) ?_)<;>conv=>whnf))
      refine CE (by rw[List.length_map];omega) ?_;(conv=>whnf)
      skip
      refine L1 (by omega) (by omega) ?_;(conv=>whnf)
      refine G8 (enc:=eQ) (x-f*y) rfl (λ_=>rfl) (by omega) ?_;rw[hms];(conv=>whnf)
      refine VT (by omega) (by rw[List.length_map,List.length_map,<-hms,List.length_set]) ?_;(conv=>whnf)
      (repeat' ((first|(apply CG;omega)|fail)<;>conv=>whnf))
      exact C6 [] (jh (j+1) (by omega) (by omega))
     ·have ej:j=n+n:=by omega
      clear jh;rw[ej,List.take_of_length_le (by omega),List.drop_of_length_le (by omega),List.append_nil,hRf];(repeat' ((first|(apply BR<;>intro hc<;>try (exfalso;omega))|(apply CG;omega)|apply BA)<;>conv=>whnf))
      exact C6 [] (ih (m.set i cb) (i+1) (by omega) ⟨hst,by omega⟩)
  ·have ei:i=n:=by omega
   rw[ei]at hS;obtain ⟨g1,g2⟩:=hS.fin hcn;clear ih;(repeat' ((first|(apply BR<;>intro hc<;>try (exfalso;omega))|(apply CG;omega)|apply BA)<;>conv=>whnf))
   exact DE [] (by (conv=>whnf);exact ⟨rfl,rfl,rfl⟩) (hfin m g1 (λ r hr=>by
    obtain ⟨q,hq⟩:=List.getElem?_of_mem hr;exact g2 q r hq))
theorem Akm (N:InvGLib L) (q1 q2 q3 q4:Bool) (a b T:List (List Rat)) (n k0:Nat) (hn:1<=n/\n<=10) (hB:10*JB k0 n<=100000000000) (hT:Sq n T) {m0:List (List Rat)} (hR0:H8 T n m0 0 0) (hM0:Ms k0 m0) {kk:List It} {Q:Tm->Mem->Prop}
  (hfin : ∀ (m:List (List Rat)) (k c:Nat) (d:Rat),H8 T n m k c->(k<n/\c=n\/k=n/\c=n)->Ms (JB k0 n) m->Bt 100000000000 d->AH L kk ([(8,.int .i64 c),(6,.int .i64 k),(7,.ptr 901007 0 0 0),(5,.ptr 901005 0 0 0),(0,.row 277003 0 1 0 n),(0+1,.int .i64 n)]++[(1000+38,.int .i64 n),(1000+37,.sl q1 (E8 q2 a)),(1000+36,.row 277003 0 1 0 n),(1000+20,.bool false),(1000+19,.int .i64 n),(1000+18,.int .i64 n),(1000+6,.row 277003 0 1 0 n),(1000+0,.sl q1 (E8 q2 a)),(1000+(0+1),.sl q3 (E8 q4 b))]) [(277003,277003,.mx (C7 3 eQ m)),(901007,901007,.bx (eQ d)),(901005,901005,.bx [.bool false,.nil,.nil])] Q) :
  AH L (.lp JP.l1 :: .blk 0::kk) ([(8,.int .i64 ((0:Nat):Int)),(6,.int .i64 ((0:Nat):Int)),(7,.ptr 901007 0 0 0),(5,.ptr 901005 0 0 0),(0,.row 277003 0 1 0 n),(0+1,.int .i64 n)]++[(1000+38,.int .i64 n),(1000+37,.sl q1 (E8 q2 a)),(1000+36,.row 277003 0 1 0 n),(1000+20,.bool false),(1000+19,.int .i64 n),(1000+18,.int .i64 n),(1000+6,.row 277003 0 1 0 n),(1000+0,.sl q1 (E8 q2 a)),(1000+(0+1),.sl q3 (E8 q4 b))]) [(277003,277003,.mx (C7 3 eQ m0)),(901007,901007,.bx (eQ ((1:Int):Rat))),(901005,901005,.bx [.bool false,.nil,.nil])] Q:=by
 refine VP (l:=[_,_]) rfl ?_;refine kD (λ_ c _ _=>n-c) (λ(m:List (List Rat)) (c k:Nat) (d:Rat)=>H8 T n m k c/\Ms (JB k0 c) m/\Bt (c*JB k0 n) d) (λ_ c k _=>[(8,.int .i64 c),(6,.int .i64 k)]) (λ m _ _ d=>[(277003,277003,.mx (C7 3 eQ m)),(901007,901007,.bx (eQ d))]) [24] [] m0 0 0 ((1:Int):Rat) (by (conv=>whnf);exact ⟨rfl,rfl,rfl⟩) ⟨hR0,hM0,Bt.one _⟩ ?_;intro m c k d ⟨hR,hM,hd⟩ eh;have hml:=hR.len;have hkc:=hR.le;have hcn':=hR.cn;have hKc:=Fu k0 (c:=c) (n-c);rw[show c+(n-c)=n by omega]at hKc;have hcX:c*JB k0 n<=10*JB k0 n:=Nat.mul_le_mul_right _ (by omega);by_cases hcn:c<n/\k<n
 ·(repeat' ((first|(apply BR<;>intro hc<;>try (exfalso;omega))|apply BA)<;>conv=>whnf))
  refine DG (λ i=>n-i) (λ(i:Nat)=>k<=i/\i<=n /\ ∀ (q:Nat) (r:List Rat),k<=q->q<i->m[q]? = some r->r.getD c 0=0) (λ i=>[(9,.int .i64 i)]) (λ_=>[]) [] [] k (by (conv=>whnf);exact ⟨rfl,rfl,rfl⟩) ⟨Nat.le_refl _,by omega,λ q r h1 h2=>absurd h2 (by omega)⟩ ?_;intro i ⟨i1,i2,i3⟩ ih;by_cases hi:i<n
  ·obtain ⟨rp,hr0⟩ : ∃ r,m[i]? = some r:=⟨_,zE (by omega)⟩
   have hrl:=hR.wid rp (zM hr0);have hrc0:rp[c]? = some (rp.getD c 0):=OW (by omega);obtain ⟨sg,hSg,hz⟩:=gR N.tog9 (hM.at hr0 _ (zM hrc0)) (by omega);generalize hrcv:rp.getD c 0=rc at *;by_cases hsg:sg=0
   ·(repeat' ((first|(apply BR<;>intro hc<;>try (exfalso;omega))|(apply CE;omega)|(refine HJ ?_ (λ r hr => ?_);omega)|apply BA)<;>conv=>whnf))
    cases hr0.symm.trans hr;refine CE (by rw[List.length_map];omega) ?_;(conv=>whnf)
    (repeat' ((first|(refine HX ?_ (λ_=>rfl) (λ v hv => ?_);omega)|refine H7 (by assumption) ?_)<;>conv=>whnf))
    cases hrc0.symm.trans hv;(repeat' ((first|(apply BR<;>intro hc<;>try (exfalso;omega))|(apply CG;omega)|refine BH (hSg) ?_)<;>conv=>whnf))
    have i4 : ∀ (q:Nat) (r:List Rat),k<=q->q<i+1->m[q]? = some r->r.getD c 0=0:=λ q r h1 h2 h3=>by
     by_cases e:q=i
     ·subst e
      cases hr0.symm.trans h3;rw[hrcv];exact hz.1 hsg
     ·exact i3 q r h1 (by omega) h3
    exact C6 [] (ih (i+1) (by omega) ⟨by omega,by omega,i4⟩)
   ·clear ih i3
    have hnz:rc≠0:=λ e=>hsg (hz.2 e)
    obtain ⟨t,ht0⟩ : ∃ t,m[k]? = some t:=⟨_,zE (by omega)⟩;have hKc2:=hM.at hr0 _ (zM hrc0);by_cases hik:i=k
    ·have hMu:=cC N.toa9 hd hKc2 (by omega) (by omega)
     have hdB:Bt ((c+1)*JB k0 n) (d*rc):=(hd.mul hKc2).le (by rw[Nat.succ_mul];omega);subst hik;(repeat' ((first|(apply BR<;>intro hc<;>try (exfalso;omega))|(apply CE;omega)|(refine HJ ?_ (λ r hr => ?_);omega)|apply BA)<;>conv=>whnf))
     cases hr0.symm.trans hr;refine CE (by rw[List.length_map];omega) ?_;(conv=>whnf)
     (repeat' ((first|(refine HX ?_ (λ_=>rfl) (λ v hv => ?_);omega)|refine H7 (by assumption) ?_)<;>conv=>whnf))
     cases hrc0.symm.trans hv;(repeat' ((first|(apply BR<;>intro hc<;>try (exfalso;omega))|(apply CE;omega)|(refine HJ ?_ (λ r hr => ?_);omega)|refine BH (hSg) ?_)<;>conv=>whnf))
     cases hr0.symm.trans hr;refine CE (by rw[List.length_map];omega) ?_;(conv=>whnf)
     (repeat' ((first|(refine HX ?_ (λ_=>rfl) (λ v hv => ?_);omega)|refine H7 (by assumption) ?_)<;>conv=>whnf))
     cases hrc0.symm.trans hv;(repeat' ((first|(apply CE;omega)|(refine HJ ?_ (λ r hr => ?_);omega)|refine BH (hMu) ?_)<;>conv=>whnf))
     cases hr0.symm.trans hr;rw[show (rp.map eQ).length=n+n by rw[List.length_map];exact hrl];subst hrcv;exact DE [] (by (conv=>whnf);exact ⟨rfl,rfl,rfl⟩) (Fv N q1 q2 q3 q4 a b T n (JB k0 c) hn (by omega) hR hM hcn.2 hcn.1 hr0 hnz λ m2 g1 g2=>DE [] (by (conv=>whnf);exact ⟨rfl,rfl,rfl⟩) (eh m2 (c+1) (i+1) _ (by omega) ⟨g1,g2,hdB⟩))
    ·have hNg:=mO N.tog9 hd (by omega)
     have hMu:=cC N.toa9 (Bt.negL hd) hKc2 (by omega) (by omega);have hdB:Bt ((c+1)*JB k0 n) (-d*rc):=((Bt.negL hd).mul hKc2).le (by rw[Nat.succ_mul];omega);refine Kw 24 ?_;(conv=>whnf)
     (repeat' ((first|(apply BR<;>intro hc<;>try (exfalso;omega))|(apply CE;omega)|(refine HJ ?_ (λ r hr => ?_);omega))<;>conv=>whnf))
     cases hr0.symm.trans hr;refine CE (by rw[List.length_map];omega) ?_;(conv=>whnf)
     (repeat' ((first|(refine HX ?_ (λ_=>rfl) (λ v hv => ?_);omega)|refine H7 (by assumption) ?_)<;>conv=>whnf))
     cases hrc0.symm.trans hv;(repeat' ((first|(apply BR<;>intro hc<;>try (exfalso;omega))|(apply CE;omega)|(refine HJ ?_ (λ r hr => ?_);omega)|refine H7 (by assumption) ?_|refine BH (hSg) ?_)<;>conv=>whnf))
     refine CE ⟨rfl,by simp only[C7,List.length_map];omega⟩ ?_;(conv=>whnf)
     (repeat' ((first|(apply CE;omega)|refine H7 (by assumption) ?_)<;>conv=>whnf))
     rw[show 0+((i:Nat):Int).toNat=i by omega,show 0+((k:Nat):Int).toNat=k by omega];refine CE ⟨rfl,by simp only[C7,List.length_map,List.length_set,List.length_range];omega,Hb (by simp only[C7,List.length_map];omega)⟩ ?_;(conv=>whnf)
     refine rS (k:=277003) (i:=i) (j:=k) rfl (PM hr0) (PM ht0) rfl rfl ?_;rw[Cy];have hR2:=hR.swap hr0 ht0 i1;have hM2:Ms (JB k0 c) ((m.set i t).set k rp):=λ x hx=>by
      rcases List.mem_or_eq_of_mem_set hx with h|rfl
      ·rcases List.mem_or_eq_of_mem_set h with h|rfl
       ·exact hM x h
       ·exact hM.at ht0
      ·exact hM.at hr0
     have hk2:((m.set i t).set k rp)[k]? = some rp:=by rw[List.getElem?_set,if_pos rfl,if_pos (by rw[List.length_set];omega)]
     have hml2:=hR2.len;generalize (m.set i t).set k rp=m1 at *;(repeat' ((first|(apply CE;omega)|(refine HJ ?_ (λ r hr => ?_);omega)|apply BA|refine BH (hNg) ?_)<;>conv=>whnf))
     cases hk2.symm.trans hr;refine CE (by rw[List.length_map];omega) ?_;(conv=>whnf)
     (repeat' ((first|(refine HX ?_ (λ_=>rfl) (λ v hv => ?_);omega)|refine H7 (by assumption) ?_)<;>conv=>whnf))
     cases hrc0.symm.trans hv;(repeat' ((first|(apply CE;omega)|(refine HJ ?_ (λ r hr => ?_);omega)|refine BH (hMu) ?_)<;>conv=>whnf))
     cases hk2.symm.trans hr;rw[show (rp.map eQ).length=n+n by rw[List.length_map];exact hrl];subst hrcv;exact DE [] (by (conv=>whnf);exact ⟨rfl,rfl,rfl⟩) (Fv N q1 q2 q3 q4 a b T n (JB k0 c) hn (by omega) hR2 hM2 hcn.2 hcn.1 hk2 hnz λ m2 g1 g2=>DE [] (by (conv=>whnf);exact ⟨rfl,rfl,rfl⟩) (eh m2 (c+1) (k+1) _ (by omega) ⟨g1,g2,hdB⟩))
  ·have ei:i=n:=by omega
   clear ih;have i4 : ∀ (q:Nat) (r:List Rat),k<=q->m[q]? = some r->r.getD c 0=0:=λ q r h1 h3=>i3 q r h1 (by have:=(zS h3).1;omega) h3
   have hR9:=hR.skip hT hcn.1 i4;clear i3 i4;(repeat' ((first|(apply BR<;>intro hc<;>try (exfalso;omega))|(apply CG;omega)|apply BA)<;>conv=>whnf))
   exact DE [] (by (conv=>whnf);exact ⟨rfl,rfl,rfl⟩) (eh m (c+1) k d (by omega) ⟨hR9,hM.le (show JB k0 c<=4*JB k0 c+1 by omega),hd.le (Nat.mul_le_mul_right _ (by omega))⟩)
 ·clear eh
  have hlast:k<n/\c=n\/k=n/\c=n:=by omega
  (repeat' ((first|(apply BR<;>intro hc<;>try (exfalso;omega))|apply BA)<;>conv=>whnf))
  exact DE [] (by (conv=>whnf);exact ⟨rfl,rfl,rfl⟩) (hfin m k c d hR hlast (hM.le hKc) (hd.le (by omega)))
theorem Cu {m:List (List Rat)} {X:List Rat} (h:HW m X):CO m X=List.replicate m.length 0:=by
 rw[CO,List.eq_replicate_iff];refine ⟨by simp,λ x hx => ?_⟩;obtain ⟨r,hr,rfl⟩:=List.mem_map.1 hx;exact h r hr
theorem Ze (m:List (List Rat)) (k:Nat):CO m (List.replicate k 0)=List.replicate m.length 0:=Cu λ r _=>bS r k
theorem Ako (n K:Nat):(List.replicate n (0:Rat)).getD K 0=0:=by
 rw[List.getD_eq_getElem?_getD,List.getElem?_replicate];split<;>rfl
theorem Ss (N:InvGLib L) (q1 q2 q3 q4:Bool) (a b:List (List Rat)) (n k:Nat) (hT:Sq n a) (hbid:b=FJ n) (hn:1<=n/\n<=10) (hab:Ms k a) (hk:k<=1000) (hB:10*JB k n<=100000000000) :
  ∃ v,Ev L 278 [.sl q1 (E8 q2 a),.sl q3 (E8 q4 b)] v/\((¬ NS n a/\v = .tup [.sl false [],.int .i64 11])\/(NS n a /\ ∃ U:List (List Rat),v = .tup [.sl false (eM U),.int .i64 0]/\U.length=n/\(∀ r∈U,r.length=n) /\ ∀ v:List Rat,v.length=n->CO U (CO a v)=v)):=by
 have hal:=hT.l;have haw : ∀ r∈a,r.length=n:=hT.r;have hbl:b.length=n:=by rw[hbid];simp [FJ]
 have hbw : ∀ r∈b,r.length=n:=by
  rw[hbid];intro r hr;obtain ⟨i,_,rfl⟩:=List.mem_map.1 hr;exact TD _ _
 have hbb:Ms k b:=by rw[hbid];exact Ms.id n k
 have hR0:H8 a n (E1 a b) 0 0:=by rw[hbid];exact H8.start hT
 have hjl:(E1 a b).length=n:=by simp [E1,hal,hbl]
 obtain ⟨hjw,hjb⟩:=Dt haw hbw hab hbb;have hI:=ZP N.toa9 1 (by omega);refine Ev.xE N.SA rfl rfl ?_;(repeat' (apply BA<;>conv=>whnf))
 refine HI 1000 N.SB rfl rfl ?_;(repeat' ((first|apply CB|apply BA)<;>conv=>whnf))
 refine dX 277003 277003 rfl ?_;refine DG (λ i=>n-i) (λ(i:Nat)=>i<=n) (λ i=>[(11,.int .i64 i),(3,.row 277003 0 1 0 i)]) (λ i=>[(277003,277003,.mx (C7 3 eQ (a.take i)))]) [] [] 0 (by (conv=>whnf);exact ⟨rfl,rfl,rfl⟩) (by omega) ?_;intro i p1 ih;have htk:(a.take i).length=i:=by rw[List.length_take];omega
 by_cases hi:i<n
 ·obtain ⟨r,hr⟩ : ∃ r,a[i]? = some r:=⟨_,zE (by omega)⟩
  have hr':a[(i:Int).toNat]? = some r:=hr;have hrl:=haw r (zM hr);have hrb:=hab.at hr;have hts:=TC hr;generalize a.take i=R0 at *;(repeat' ((first|(apply BR<;>intro hc<;>try (exfalso;omega))|apply CB|(refine CX (by assumption) ?_ rfl ?_;omega)|apply BA)<;>conv=>whnf))
  refine DG (λ j=>n-j) (λ(j:Nat)=>j<=n) (λ j=>[(17,.int .i64 j),(6,.row 277006 0 3 0 j)]) (λ j=>[(277006,277006,.rw 3 ((r.take j).map eQ))]) [] [] 0 (by (conv=>whnf);exact ⟨rfl,rfl,rfl⟩) (by omega) ?_;intro j p2 jh;have htj:(r.take j).length=j:=by rw[List.length_take];omega
  by_cases hj:j<n
  ·obtain ⟨x,hx⟩ : ∃ x,r[j]? = some x:=⟨_,zE (by omega)⟩
   have hx':r[(j:Int).toNat]? = some x:=hx;have hms:=TC hx;have hT:=cF N.toa9 (hrb.at hx) (by omega);generalize r.take j=M0 at *;(repeat' ((first|(apply BR<;>intro hc<;>try (exfalso;omega))|(refine CX (by assumption) ?_ rfl ?_;omega)|apply G0|apply BA|refine BH (hT) ?_)<;>conv=>whnf))
   refine HP (enc:=eQ) x rfl htj.symm rfl (by omega) (by omega) ?_;(conv=>whnf)
   (repeat' ((first|(apply CG;omega)|fail)<;>conv=>whnf))
   rw[<-hms,show (r.take (j+1)).length=j+1 by rw[List.length_take];omega];exact C6 [(277006,277025)] (jh (j+1) (by omega) (by omega))
  ·obtain rfl:j=n:=by omega
   clear jh;rw[List.take_of_length_le (by omega)];(repeat' ((first|(apply BR<;>intro hc<;>try (exfalso;omega))|apply BA)<;>conv=>whnf))
   refine CE (by rw[List.length_map,hrl]) ?_;refine Y0 (r:=r) (en:=eQ) htk.symm (by omega) (by omega) ?_;rw[<-hts,show (a.take (i+1)).length=i+1 by rw[List.length_take];omega];(conv=>whnf)
   (repeat' ((first|(apply CG;omega)|fail)<;>conv=>whnf))
   exact C6 [(277003,277030)] (ih (i+1) (by omega) (by omega))
 ·obtain rfl:i=n:=by omega
  clear ih;rw[List.take_of_length_le (by omega)];(repeat' ((first|(apply BR<;>intro hc<;>try (exfalso;omega))|apply BA)<;>conv=>whnf))
  refine ⟨rfl,_,rfl,?_⟩;(conv=>whnf)
  skip
  refine DG (λ j=>i-j) (λ(j:Nat)=>j<=i) (λ j=>[(19,.int .i64 j)]) (λ j=>[(277003,277003,.mx (C7 3 eQ ((E1 a b).take j++a.drop j)))]) [] [] 0 (by first|exact (by (conv=>whnf);exact ⟨rfl,rfl,rfl⟩)|(rw[List.take_zero,List.drop_zero,List.nil_append];exact (by (conv=>whnf);exact ⟨rfl,rfl,rfl⟩))) (by omega) ?_;intro j p2 jh;have hml:((E1 a b).take j++a.drop j).length=i:=by rw[List.length_append,List.length_take,List.length_drop];omega
  by_cases hj:j<i
  ·obtain ⟨r,hr0⟩ : ∃ r,a[j]? = some r:=⟨_,zE (by omega)⟩
   obtain ⟨s,hs0⟩ : ∃ s,b[j]? = some s:=⟨_,zE (by omega)⟩;have hs0':b[(j:Int).toNat]? = some s:=hs0;have hrl:=haw r (zM hr0);have hsl:=hbw s (zM hs0);have hRj:=oI (a:=E1 a b) (by omega) hr0;have hRs:=oJ (a:=E1 a b) (b:=a) (by omega) (V9 hr0 hs0);generalize (E1 a b).take j++a.drop j=R0 at *;(repeat' ((first|(apply BR<;>intro hc<;>try (exfalso;omega))|(apply CE;omega)|(refine CX (by assumption) ?_ rfl ?_;omega)|(refine HJ ?_ (λ r hr => ?_);omega)|refine H7 (by assumption) ?_|apply BA)<;>conv=>whnf))
   cases hRj.symm.trans hr;refine dY (enc:=eQ) (by rw[List.length_map]) (λ_=>rfl) (by omega) (by omega) ?_;intro s' v;(conv=>whnf)
   (repeat' ((first|(apply CE;omega)|fail)<;>conv=>whnf))
   refine CE ⟨rfl,by rw[List.length_map]⟩ ?_;refine OO (i:=j) (by omega) (by rw[List.length_set];simp only[C7,List.length_map];omega) ?_;rw[show 0+((j:Int)).toNat=j by omega,List.set_set,show (C7 3 eQ R0).set j (some (3,(r++s).map eQ))=C7 3 eQ (R0.set j (r++s)) by simp only[C7,List.map_set],hRs];(conv=>whnf)
   (repeat' ((first|(apply CG;omega)|fail)<;>conv=>whnf))
   exact C6 [] (jh (j+1) (by omega) (by omega))
  ·have ej:j=i:=by omega
   clear jh;rw[ej,List.take_of_length_le (by omega),List.drop_of_length_le (by omega),List.append_nil];(repeat' ((first|(apply BR<;>intro hc<;>try (exfalso;omega))|apply CB|apply BA)<;>conv=>whnf))
   rw[hal];refine H6 1000 N.JP rfl rfl ?_;(repeat' ((first|apply BA|refine BH (hI) ?_)<;>conv=>whnf))
   refine DE [] (by (conv=>whnf);exact ⟨rfl,rfl,rfl⟩) (Akm N q1 q2 q3 q4 a b a i k hn hB hT hR0 hjb (λ m k2 c2 d h1 h2 h3 h4 => ?_));by_cases hk2:k2<i
   ·(repeat' (apply BA<;>conv=>whnf))
    refine ⟨rfl,?_⟩;(conv=>whnf)
    (repeat' ((first|(apply BR<;>intro hc<;>try (exfalso;omega))|apply CB)<;>conv=>whnf))
    exact ⟨_,CJ rfl (by simp only[CS,FG,IO,true_and,and_true]),Or.inl ⟨h1.sk (by omega),rfl⟩⟩
   ·have hkn:k2=i/\c2=i:=by omega
    obtain ⟨rfl,rfl⟩:=hkn;(repeat' (apply BA<;>conv=>whnf))
    refine ⟨rfl,?_⟩;(conv=>whnf)
    (repeat' ((first|(apply BR<;>intro hc<;>try (exfalso;omega))|apply CB)<;>conv=>whnf))
    refine dX 10 10 rfl ?_;have hml2:=h1.len;have hUw : ∀ r∈m.map (·.drop c2),r.length=c2:=λ r hr=>by
     obtain ⟨s,hs,rfl⟩:=List.mem_map.1 hr;rw[List.length_drop,h1.wid s hs];omega
    have hUv : ∀ v:List Rat,v.length=c2->CO (m.map (·.drop c2)) (CO a v)=v:=λ v hv=>h1.inv hv hal
    have hns:NS c2 a:=λ X hX hK j=>by
     have e:=hUv X hX;rw[Cu hK,Ze]at e;rw[<-e];exact Ako _ _
    have hUl:(m.map (·.drop c2)).length=c2:=by rw[List.length_map];exact hml2
    have hUat : ∀ (q:Nat) (r:List Rat),m[q]? = some r->(m.map (·.drop c2))[q]? = some (r.drop c2):=λ q r hq=>by rw[List.getElem?_map,hq];rfl
    generalize m.map (·.drop c2)=U at *;refine DG (λ i=>c2-i) (λ(i:Nat)=>i<=c2) (λ i=>[(48,.int .i64 i),(10,.row 10 0 1 0 i)]) (λ i=>[(10,10,.mx (C7 3 eQ (U.take i)))]) [] [] 0 (by (conv=>whnf);exact ⟨rfl,rfl,rfl⟩) (by omega) ?_;intro i i1 ih;have htk2:(U.take i).length=i:=by rw[List.length_take];omega
    by_cases hi2:i<c2
    ·obtain ⟨rp,hr0⟩ : ∃ r,m[i]? = some r:=⟨_,zE (by omega)⟩
     have hrl:=h1.wid rp (zM hr0);have hrb:=h3.at hr0;have hut:=TC (hUat i rp hr0);have hdl:(rp.drop c2).length=c2:=by rw[List.length_drop];omega
     have hda : ∀ (j:Nat),(rp.drop c2)[j]? = rp[c2+j]? := λ j=>by rw[List.getElem?_drop]
     generalize U.take i=R0 at *;(repeat' ((first|(apply BR<;>intro hc<;>try (exfalso;omega))|(apply CE;omega)|apply CB|(refine HJ ?_ (λ r hr => ?_);omega)|apply BA)<;>conv=>whnf))
     cases hr0.symm.trans hr;refine Nh c2 (by omega) (by rw[List.length_map];omega) ?_;rw[List.length_map,show rp.length=c2+c2 from hrl];(conv=>whnf)
     skip
     refine DG (λ j=>c2-j) (λ(j:Nat)=>j<=c2) (λ j=>[(59,.int .i64 j),(12,.row 12 0 3 0 j)]) (λ j=>[(12,12,.rw 3 (((rp.drop c2).take j).map eQ))]) [] [] 0 (by (conv=>whnf);exact ⟨rfl,rfl,rfl⟩) (by omega) ?_;intro j j1 jh;have htj:((rp.drop c2).take j).length=j:=by rw[List.length_take];omega
     by_cases hj:j<c2
     ·obtain ⟨x,hx⟩ : ∃ x,(rp.drop c2)[j]? = some x:=⟨_,zE (by omega)⟩
      have hx':=hx;rw[hda]at hx';have hms:=TC hx;have hT3:=cF N.toa9 (hrb.at hx') (by omega);generalize (rp.drop c2).take j=M0 at *;(repeat' ((first|(apply BR<;>intro hc<;>try (exfalso;omega))|(apply CE;omega)|refine H7 (by assumption) ?_|apply BA)<;>conv=>whnf))
      refine aO (enc:=eQ) (e:=x) (l:=rp) (by rw[show 0+c2+((j:Nat):Int).toNat=c2+j by omega];exact hx') rfl ?_;(conv=>whnf)
      (repeat' ((first|apply G0|refine BH (hT3) ?_)<;>conv=>whnf))
      refine HP (enc:=eQ) x rfl htj.symm rfl (by omega) (by omega) ?_;(conv=>whnf)
      (repeat' ((first|(apply CG;omega)|fail)<;>conv=>whnf))
      rw[<-hms,show ((rp.drop c2).take (j+1)).length=j+1 by rw[List.length_take];omega];exact C6 [(12,67)] (jh (j+1) (by omega) (by omega))
     ·have ej:j=c2:=by omega
      clear jh;rw[ej,List.take_of_length_le (by omega)];(repeat' ((first|(apply BR<;>intro hc<;>try (exfalso;omega))|apply BA)<;>conv=>whnf))
      refine CE (by rw[List.length_map,hdl]) ?_;refine Y0 (r:=rp.drop c2) (en:=eQ) htk2.symm (by omega) (by omega) ?_;rw[<-hut,show (U.take (i+1)).length=i+1 by rw[List.length_take];omega];(conv=>whnf)
      (repeat' ((first|(apply CG;omega)|fail)<;>conv=>whnf))
      exact C6 [(10,72)] (ih (i+1) (by omega) (by omega))
    ·have ei:i=c2:=by omega
     clear ih;rw[ei,List.take_of_length_le (by omega)];(repeat' ((first|(apply BR<;>intro hc<;>try (exfalso;omega))|apply BA)<;>conv=>whnf))
     refine ⟨.tup [.sl false (eM U),.int .i64 0],?_,Or.inr ⟨hns,U,rfl,hUl,hUw,hUv⟩⟩;(conv=>whnf)
     refine NT (λ_=>rfl) rfl hUl.symm ?_;(conv=>whnf)
     exact CJ rfl (TU U 0)
theorem Tr (N:InvGLib L) (q1 q2:Bool) (a:List (List Rat)) (n k:Nat) (hT:Sq n a) (hn:1<=n/\n<=10) (hab:Ms k a) (hk:k<=1000) (hB:10*JB k n<=100000000000) :
  ∃ v,Ev L 279 [.sl q1 (E8 q2 a)] v/\((¬ NS n a/\v = .tup [.sl false [],.int .i64 11])\/(NS n a /\ ∃ U:List (List Rat),v = .tup [.sl false (eM U),.int .i64 0]/\U.length=n/\(∀ r∈U,r.length=n) /\ ∀ v:List Rat,v.length=n->CO U (CO a v)=v)):=by
 have hV:=mY N.toR09GLib q1 q2 a n n hT.l hT.r (by omega) (by omega);have hI:Ev L 240 [.int .i64 (a.length:Nat)] (.tup [.sl false (eM (FJ n)),.int .i64 0]):=by
  rw[hT.l];exact Vr N.toR09GLib n (by omega)
 obtain ⟨v,h1,h2⟩:=Ss N q1 q2 false false a (FJ n) n k hT rfl hn hab hk hB;have hal:=hT.l;obtain ⟨r0,hr0⟩ : ∃ r,a[0]? = some r:=⟨_,zE (by omega)⟩;have hr0':a[(0:Int).toNat]? = some r0:=hr0;have hl0:=hT.r r0 (zM hr0);refine ⟨v,?_,h2⟩;rcases h2 with ⟨_,rfl⟩|⟨_,U,rfl,_⟩
 ·refine Ev.x N.M9 rfl rfl ?_
  (repeat' ((first|(apply BR<;>intro hc<;>try (exfalso;omega))|apply CB|(refine CX (by assumption) ?_ rfl ?_;omega)|apply BA|refine BH (hV) ?_|refine BH (hI) ?_|refine BH (h1) ?_)<;>conv=>whnf))
  exact CJ rfl (by simp only[CS,FG,IO,true_and,and_true])
 ·refine Ev.x N.M9 rfl rfl ?_
  (repeat' ((first|(apply BR<;>intro hc<;>try (exfalso;omega))|apply CB|(refine CX (by assumption) ?_ rfl ?_;omega)|apply BA|refine BH (hV) ?_|refine BH (hI) ?_|refine BH (h1) ?_)<;>conv=>whnf))
  exact CJ rfl (TU U 0)
theorem Akl {n:Nat} (hn:n<=3):10*JB 4 n<=100000000000:=by
 obtain rfl|rfl|rfl|rfl:n=0\/n=1\/n=2\/n=3:=by omega
 all_goals decide
theorem So (N:EquGLib L) (S:GU) (T:List (List Rat)) (n:Nat) (hS:S.Ok n 4) (hT:Sq n T) (hTb:Ms 4 T) (hn:n<=3) :
  ∃ v,Ev L 285 [.agg (eS S),.sl false (eM T)] v/\((¬ NS n T/\v = .tup [.agg [.sl false [],.sl false [],.sl false [],.bool false,.sl false [],.sl false []],.int .i64 11])\/(NS n T /\ ∃ U:List (List Rat),Sq n U/\(∀ v:List Rat,v.length=n->CO U (CO T v)=v)/\v = .tup [.agg (eS (IG T U S n)),.int .i64 0])):=by
 have hSm:=Uv N S n 4 hS (by omega);have hla:=hS.la;have htl:=hT.l;have hTr:=cF N.toa9 hS.bd (by omega);have hT0 : ∀ i,i<n -> ∃ r,T[i]? = some r/\r.length=n:=λ i hi=>by
  obtain ⟨r,hr⟩ : ∃ r,T[i]? = some r:=⟨_,zE (by omega)⟩;exact ⟨r,hr,hT.r r (zM hr)⟩
 refine Ev.xE N.SH rfl rfl ?_;(repeat' ((first|(apply BR<;>intro hc<;>try (exfalso;omega))|apply CB|apply BA|refine BH (hSm) ?_)<;>conv=>whnf))
 refine DG (λ i=>n-i) (λ(i:Nat)=>i<=n) (λ i=>[(6,.int .i64 i)]) (λ_=>[]) [] [] 0 (by (conv=>whnf);exact ⟨rfl,rfl,rfl⟩) (by omega) ?_;intro i i1 ih;by_cases hi:i<n
 ·obtain ⟨r,hr,hrl⟩:=hT0 i hi
  have hr':T[(i:Int).toNat]? = some r:=hr;(repeat' ((first|(apply BR<;>intro hc<;>try (exfalso;omega))|(apply CG;omega)|apply CB|(refine CX (by assumption) ?_ rfl ?_;omega)|apply BA)<;>conv=>whnf))
  exact C6 [] (ih (i+1) (by omega) (by omega))
 have ei:i=n:=by omega
 clear ih i1 hi;by_cases h0:n=0
 ·(repeat' ((first|(apply BR<;>intro hc<;>try (exfalso;omega))|apply CB|apply BA|refine BH (hTr) ?_)<;>conv=>whnf))
  have eS0:eS S=[.sl false [],.sl false [],.sl false []]++eQ S.d:=by
   have e1:S.a=[]:=List.length_eq_zero_iff.1 (by omega);have e2:S.b=[]:=List.length_eq_zero_iff.1 (by rw[hS.lb];omega);have e3:S.c=[]:=List.length_eq_zero_iff.1 (by rw[hS.lc];omega);rw[eS,e1,e2,e3];rfl
  have hcl:=bC S 0;have hT0:T=[]:=List.length_eq_zero_iff.1 (by omega);have hsim:IG T [] S n=S:=by
   have e1:S.a=[]:=List.length_eq_zero_iff.1 (by omega);have e2:S.b=[]:=List.length_eq_zero_iff.1 (by rw[hS.lb];omega);have e3:S.c=[]:=List.length_eq_zero_iff.1 (by rw[hS.lc];omega);rw[IG,hT0];show (⟨[],[],[],S.d⟩:GU)=S;cases S;simp only at e1 e2 e3;rw[e1,e2,e3]
  refine ⟨.tup [.agg (eS S),.int .i64 0],?_,Or.inr ⟨λ X hX _ j=>by rw[List.length_eq_zero_iff.1 (hX.trans h0)];rfl,[],⟨by rw[h0];rfl,λ r hr=>by cases hr⟩,λ v hv=>by rw[List.length_eq_zero_iff.1 (hv.trans h0)];rfl,by rw[hsim]⟩⟩;rw[eS0]at hcl ⊢;exact CJ rfl hcl
 ·obtain ⟨v,hI,hv0⟩:=Tr N.toInvGLib false false T n 4 hT (by omega) hTb (by omega) (Akl hn)
  rcases hv0 with ⟨hns,rfl⟩|⟨hns,U,rfl,hUl,hUw,hUT⟩
  ·(repeat' ((first|(apply BR<;>intro hc<;>try (exfalso;omega))|apply CB|apply BA|refine BH (hI) ?_)<;>conv=>whnf))
   exact ⟨.tup [.agg [.sl false [],.sl false [],.sl false [],.bool false,.sl false [],.sl false []],.int .i64 11],CJ rfl (by simp [CS,FG,IO]),Or.inl ⟨hns,rfl⟩⟩
  ·have hUs:Sq n U:=⟨hUl,hUw⟩
   have hUb:=nX hn hT hUs hTb hUT;obtain ⟨hOk,hM1⟩:=qB hS hT hUs hTb hUb hn;have hT1:=λ q1 q2 q3 q4=>xY N.toR09GLib q1 q2 q3 q4 T S.a n n n 4 4 hT.l hT.r hS.la hS.lr (by omega) (by omega) (by omega) hTb hS.ba (by omega)
   have hT2:=λ q1 q2 q3 q4=>xY N.toR09GLib q1 q2 q3 q4 (EA T S.a n) U n n n 27 82 (Sq.mul hT.l S.a).l (Sq.mul hT.l S.a).r hUl hUw (by omega) (by omega) (by omega) hM1 hUb (by omega)
   have hB1:=xC N.tom9 T S.b false false false n 4 4 hT hS.lb hTb hS.bb (by omega) (by omega);have hTn:=Yg N.toStGLib false U n hUl hUw (by omega);have hC1:=xC N.tom9 (KE U) S.c false false false n 82 4 (Gu hUs) hS.lc (Gr hUb) hS.bc (by omega) (by omega);(repeat' ((first|(apply BR<;>intro hc<;>try (exfalso;omega))|apply CB|apply BA|refine BH (hI) ?_|refine BH (hT1 _ _ _ _) ?_|refine BH (hT2 _ _ _ _) ?_|refine BH (hB1) ?_|refine BH (hTn) ?_|refine BH (hC1) ?_|refine BH (hTr) ?_)<;>conv=>whnf))
   refine ⟨.tup [.agg (eS (IG T U S n)),.int .i64 0],?_,Or.inr ⟨hns,U,hUs,hUT,rfl⟩⟩;exact CJ rfl (bC (IG T U S n) 0)
end Go.Eng
namespace Go.Eng
open F
attribute [local irreducible] AH BJ B1 BD E6 CF CI CY CU DX B5 DT EN GS DS CR DR EF AR CW BW pw DC DB EP EV E7 FM EZ D5 FE
variable {L:Lib} (n:Nt)
set_option maxHeartbeats 1000000
end Go.Eng

namespace Go.Eng
open F
attribute [local irreducible] AH BJ B1 BD E6 CF CI CY CU DX B5 DT EN GS DS CR DR EF AR CW BW pw DC DB EP EV E7 FM EZ D5 FE
variable {L:Lib}
set_option maxHeartbeats 8000000
set_option maxRecDepth 8000
theorem Sh (N:BldGLib L) (p r:List Rat) (k:Nat) (hp:Bs k p) (hr:Bs k r) (hk:k<2199023255552) (hn:p.length<=1000000) (hm:r.length<=1000000):Ev L 176 [.agg [.sl false (p.map eQ),.sl false (r.map eQ)],.agg [.sl false (p.map eQ),.sl false (r.map eQ)]] (.bool true):=by
 have hP:=λ q1 q2=>xX N.tov7 q1 q2 p k hp hk hn
 have hR:=λ q1 q2=>xX N.tov7 q1 q2 r k hr hk hm
 refine Ev.x N.SE rfl rfl ?_;(repeat' ((first|apply BA|refine BH (hP _ _) ?_|refine BH (hR _ _) ?_)<;>conv=>whnf))
 exact I4 rfl
theorem Sl (N:ModGLib L) (S:GU) (n k:Nat) (q:Bool) (h:S.Ok n k) (hn:n<=64) (hk:k<2199023255552) :
  Ev L 167 [.agg ([.sl false (S.a.map λ r=>[AV.sl false (r.map eQ)]),.sl false (S.b.map eQ),.sl false (S.c.map eQ)]++eQ S.d),.agg ([.sl q (S.a.map λ r=>[AV.sl q (r.map eQ)]),.sl q (S.b.map eQ),.sl q (S.c.map eQ)]++eQ S.d)] (.bool true):=by
 have hD:=mH N.toa9 h.bd h.bd hk hk;rw[dL.2 rfl]at hD;have hB:=ZM N.toa9 S.b S.b false q k h.bb h.bb hk (by have:=h.lb;omega);have hC:=ZM N.toa9 S.c S.c false q k h.bc h.bc hk (by have:=h.lc;omega);rw[decide_eq_true rfl]at hB hC;have hla:=h.la;refine Ev.x N.NA rfl rfl ?_;(repeat' ((first|(apply BR<;>intro hc<;>try (exfalso;omega))|apply CB|apply BA|refine BH (hB) ?_|refine BH (hC) ?_|refine BH (hD) ?_)<;>conv=>whnf))
 refine DG (λ i=>S.a.length-i) (λ(i:Nat)=>i<=S.a.length) (λ i=>[(5,.int .i64 i)]) (λ_=>[]) [] [] 0 (by (conv=>whnf);exact ⟨rfl,rfl,rfl⟩) (by omega) ?_;intro i p1 ih;by_cases hi:i<S.a.length
 ·obtain ⟨r,hr⟩ : ∃ r,S.a[i]? = some r:=⟨_,zE hi⟩
  have hr':S.a[(i:Int).toNat]? = some r:=hr;have hrb:=h.ba r (zM hr);have hrl:=h.lr r (zM hr);have hR:=ZM N.toa9 r r false q k hrb hrb hk (by omega);rw[decide_eq_true rfl]at hR;(repeat' ((first|(apply BR<;>intro hc<;>try (exfalso;omega))|(apply CG;omega)|apply CB|(refine CX (by assumption) ?_ rfl ?_;omega)|apply BA|refine BH (hR) ?_)<;>conv=>whnf))
  exact C6 [] (ih (i+1) (by omega) (by omega))
 ·obtain rfl:i=S.a.length:=by omega
  clear ih;(repeat' ((first|(apply BR<;>intro hc<;>try (exfalso;omega))|apply CB|apply BA)<;>conv=>whnf))
  exact I4 rfl
theorem Bt.ng {k:Nat} {x:Rat} (h:Bt k x):Bt k (-x):=⟨by simpa using h.1,by simpa using h.2⟩
theorem Rw {B A:List Rat} {n:Nat} (hB:Bs 4 B) (hA:Bs 4 A):(G9 B A n).Ok n 80:=by
 have hs : ∀ i,Bt 80 (B.getD i 0-B.getD 0 0*A.getD i 0):=λ i=>by
  rw[Rat.sub_eq_add_neg];exact ((N4 hB i).add ((N4 hB 0).mul (N4 hA i)).ng).le (by omega)
 have hu : ∀ j,Bs 80 (FV n j):=λ j x hx=>by
  simp only[FV,List.mem_map]at hx;obtain ⟨i,_,rfl⟩:=hx;split
  ·exact Bt.one _
  ·exact Bt.zero _
 refine ⟨uW B A n,Rx,TD _ _,uY B A n,?_,hu 0,?_,(N4 hB 0).le (by omega)⟩
 ·intro r hr
  simp only[G9,List.mem_map]at hr;obtain ⟨i,_,rfl⟩:=hr;split
  ·intro x hx
   obtain ⟨j,_,rfl⟩:=List.mem_map.1 hx;exact (N4 hA _).ng.le (by omega)
  ·exact hu _
 ·intro x hx
  simp only[G9,List.mem_map]at hx;obtain ⟨i,_,rfl⟩:=hx;exact hs _
theorem Yt:Bt 4 (Rat.divInt 1 2):=(Bt.mk (k:=4) (z:=1) (d:=2) (by decide) (by decide))
theorem Wg (N:LawFLib L):Ev L 215 [] (.bool true):=by
 have A:StGLib L:=N.toStGLib;have hO:=ZP A.toa9 1 (by omega);have hF:=xW A.toa9 1 2 (by omega) (by omega);have hh:=Yt;have hne : -(Rat.divInt 1 2)≠0:=by decide
 generalize Rat.divInt 1 2=h at *;have hN:=mO A.tog9 hh (by omega);have hA:Bs 4 [1,-h]:=λ x hx=>by
  rcases List.mem_cons.1 hx with rfl|hx
  ·exact Bt.one 4
  ·obtain rfl:=List.mem_singleton.1 hx
   exact hh.ng
 have hB:Bs 4 [(1:Rat)]:=λ x hx=>by
  obtain rfl:=List.mem_singleton.1 hx;exact Bt.one 4
 have tB:GM [(1:Rat)]=[1]:=by decide
 have tA:GM [1,-h]=[1,-h]:=by
  show List.take (if -h=0 then _ else 2) [1,-h]=_;rw[if_neg hne];rfl
 have hC:=Tn A true true [1] [1,-h] 1 4 tB tA hB hA (by simp) (by simp) rfl rfl (by omega);have hok:(G9 [1] [1,-h] 1).Ok 1 80:=Rw hB hA;have e:G9 [1] [1,-h] 1=⟨[[h]],[1],[h],1⟩:=by
  have:G9 [1] [1,-h] 1=⟨[[- -h]],[1],[0-1 * -h],1⟩:=rfl
  rw[this,Rat.neg_neg,show 0-1 * -h=h by grind]
 rw[e]at hC hok;have hS:=Sl N.toModGLib ⟨[[h]],[1],[h],1⟩ 1 80 true hok (by omega) (by omega);refine Ev.x N.O5 rfl rfl ?_;(repeat' ((first|(apply BR<;>intro hc<;>try (exfalso;omega))|refine KI rfl ?_|refine Y8 rfl rfl ?_|apply BA|refine BH (hO) ?_|refine BH (hF) ?_|refine BH (hN) ?_|refine BH (hC) ?_)<;>conv=>whnf))
 refine CE rfl ?_;(conv=>whnf)
 (repeat' ((first|refine KI rfl ?_|refine BH (hS) ?_)<;>conv=>whnf))
 exact I4 rfl
def U7 (l:List Int) (n:Nat):List (List Rat):=IY (JE l (n*n)) n n
theorem Zu (l:List Int) (n:Nat):(U7 l n).length=n:=by simp [U7,IY]
theorem tU : ∀ m:List (List Rat),IO (m.map λ r=>[AV.sl false (r.map eQ)])
 | []=>trivial
 | r::m=>⟨⟨by simp only[CS,true_and];exact KM r,trivial⟩,tU m⟩
theorem Tt (N:WMatLib L) (l:List Int) (q:Bool) (n:Nat) (hl : ∀ x∈l,LD x) (hn:n<=64):Ev L 280 [.sl q (l.map V3),.int .i64 (n:Int)] (.sl false ((U7 l n).map λ r=>[AV.sl false (r.map eQ)])):=by
 have hnn:n*n<=4096:=Nat.mul_le_mul hn hn;have hR:=λ q=>wZ N.toRatsGLib l q (n*n) hl (by omega)
 have hXl:=Z5 l (n*n);have hc1:((n*n:Nat):Int)=(n:Int)*n:=by simp
 rw[hc1]at hR;unfold U7;generalize JE l (n*n)=X at *;refine Ev.x N.TI rfl rfl ?_;(repeat' ((first|(apply NQ;omega)|apply BA|refine BH (hR _) ?_)<;>conv=>whnf))
 refine DG (λ i=>n-i) (λ(i:Nat)=>i<=n) (λ i=>[(7,.int .i64 i),(6,.row 6 0 1 0 i)]) (λ i=>[(6,6,.rw 1 ((IY X n i).map λ r=>[AV.sl false (r.map eQ)]))]) [] [] 0 (by (conv=>whnf);exact ⟨rfl,rfl,rfl⟩) (by omega) ?_;intro i p1 ih;have hrl:(IY X n i).length=i:=by simp [IY]
 by_cases hi:i<n
 ·have h1:i*n+n<=n*n:=by
   have:=Nat.mul_le_mul_right n (show i+1<=n by omega)
   rw[Nat.succ_mul]at this;exact this
  have f1:((i:Int)*n).toNat=i*n:=by rw[<-Int.natCast_mul];rfl
  have f2:((i:Int)*n+n).toNat=i*n+n:=by rw[<-Int.natCast_mul];omega
  have f3:0<=(i:Int)*n:=by rw[<-Int.natCast_mul];omega
  have f4:(i:Int)*n+n<=X.length:=by rw[<-Int.natCast_mul];omega
  have f5:SR X n i=(X.take (i*n+n)).drop (i*n):=rfl;have hsucc:=Gd X n i;(repeat' ((first|(apply BR<;>intro hc<;>try (exfalso;omega))|(apply CG;omega)|(apply NQ;omega)|(refine Y7 (λ_=>rfl) (aG ?_ ?_);omega)|apply G0|apply BA)<;>conv=>whnf))
  rw[f1,f2,<-f5];refine HP (l:=IY X n i) (z:=1) (bytes:=24) (enc:=λ r:List Rat=>[AV.sl false (r.map eQ)]) (SR X n i) rfl hrl.symm rfl (by omega) (by omega) ?_;(conv=>whnf)
  (repeat' ((first|(apply CG;omega)|fail)<;>conv=>whnf))
  rw[<-hsucc,show (IY X n (i+1)).length=i+1 by simp [IY]];exact C6 [(6,30)] (ih (i+1) (by omega) (by omega))
 ·obtain rfl:i=n:=by omega
  clear ih;(repeat' ((first|(apply BR<;>intro hc<;>try (exfalso;omega))|apply BA)<;>conv=>whnf))
  refine GI (enc:=λ r:List Rat=>[AV.sl false (r.map eQ)]) (λ_=>rfl) rfl hrl.symm ?_;(conv=>whnf)
  exact CJ rfl (by simp only[CS,true_and];exact tU _)
theorem Zv (l:List Int) (n:Nat):Sq n (U7 l n)/\Ms 4 (U7 l n):=by
 have hX:=Z5 l (n*n);have hb:=Fs l (n*n);have hr : ∀ r∈U7 l n,∃ j,j<n/\r=SR (JE l (n*n)) n j:=λ r hr=>by
  simp only[U7,IY,List.mem_map,List.mem_range]at hr;obtain ⟨j,h1,rfl⟩:=hr;exact ⟨j,h1,rfl⟩
 refine ⟨⟨Zu l n,?_⟩,?_⟩
 ·intro r h
  obtain ⟨j,h1,rfl⟩:=hr r h;refine Ga ?_;have:=Nat.mul_le_mul_right n (show j+1<=n by omega)
  rw[Nat.succ_mul]at this;omega
 ·intro r h x hx
  obtain ⟨j,h1,rfl⟩:=hr r h;exact hb x (List.mem_of_mem_take (List.mem_of_mem_drop hx))
end Go.Eng

namespace Go.Eng
end Go.Eng

namespace Go.Eng
open F
attribute [local irreducible] AH BJ B1 BD E6 CF CI CY CU DX B5 DT EN GS DS CR DR EF AR CW BW pw DC DB EP EV E7 FM EZ D5 FE
variable {L:Lib}
set_option maxHeartbeats 8000000
set_option maxRecDepth 8000
theorem xA (N:ModGLib L) (S:GU) (n k:Nat) (h:S.Ok n k) (hn:n<=64) (hk:k<2199023255552) (g:Bool) (m d:List Nat) (hD:Ev L 127 [.agg (rQ false false g m d),.agg (rQ false false g m d)] (.int .i64 0)) :
  Ev L 167 [.agg ([.sl false (S.a.map λ r=>[AV.sl false (r.map eQ)]),.sl false (S.b.map eQ),.sl false (S.c.map eQ)]++rQ false false g m d),.agg ([.sl false (S.a.map λ r=>[AV.sl false (r.map eQ)]),.sl false (S.b.map eQ),.sl false (S.c.map eQ)]++rQ false false g m d)] (.bool true):=by
 have hB:=ZM N.toa9 S.b S.b false false k h.bb h.bb hk (by have:=h.lb;omega);have hC:=ZM N.toa9 S.c S.c false false k h.bc h.bc hk (by have:=h.lc;omega);rw[decide_eq_true rfl]at hB hC;have hla:=h.la;refine Ev.x N.NA rfl rfl ?_;(repeat' ((first|(apply BR<;>intro hc<;>try (exfalso;omega))|apply CB|apply BA|refine BH (hB) ?_|refine BH (hC) ?_|refine BH (hD) ?_)<;>conv=>whnf))
 refine DG (λ i=>S.a.length-i) (λ(i:Nat)=>i<=S.a.length) (λ i=>[(5,.int .i64 i)]) (λ_=>[]) [] [] 0 (by (conv=>whnf);exact ⟨rfl,rfl,rfl⟩) (by omega) ?_;intro i p1 ih;by_cases hi:i<S.a.length
 ·obtain ⟨r,hr⟩ : ∃ r,S.a[i]? = some r:=⟨_,zE hi⟩
  have hr':S.a[(i:Int).toNat]? = some r:=hr;have hrb:=h.ba r (zM hr);have hrl:=h.lr r (zM hr);have hR:=ZM N.toa9 r r false false k hrb hrb hk (by omega);rw[decide_eq_true rfl]at hR;(repeat' ((first|(apply BR<;>intro hc<;>try (exfalso;omega))|(apply CG;omega)|apply CB|(refine CX (by assumption) ?_ rfl ?_;omega)|apply BA|refine BH (hR) ?_)<;>conv=>whnf))
  exact C6 [] (ih (i+1) (by omega) (by omega))
 ·obtain rfl:i=S.a.length:=by omega
  clear ih;(repeat' ((first|(apply BR<;>intro hc<;>try (exfalso;omega))|apply CB|apply BA)<;>conv=>whnf))
  exact I4 rfl
theorem Sj (N:ModGLib L) (S:GU) (n k:Nat) (h:S.Ok n k) (hn:n<=64) (hk:k<2199023255552):Ev L 167 [.agg (eS S),.agg (eS S)] (.bool true):=by
 have hD:=mH N.toa9 h.bd h.bd hk hk;rw[dL.2 rfl]at hD;exact xA N S n k h hn hk _ _ _ hD
theorem Sk (N:ModGLib L):Ev L 167 [.agg [.sl false [],.sl false [],.sl false [],.bool false,.sl false [],.sl false []],.agg [.sl false [],.sl false [],.sl false [],.bool false,.sl false [],.sl false []]] (.bool true):=by
 have hD:=xV N.toa9 1 (by omega) false false false false [] [] [] [] ⟨T3,by simp⟩ ⟨T3,by simp⟩ ⟨T3,by simp⟩ ⟨T3,by simp⟩;rw[dL.2 rfl]at hD;exact xA N ⟨[],[],[],0⟩ 0 0 ⟨rfl,(λ r h=>by cases h),rfl,rfl,(λ r h=>by cases h),(λ x h=>by cases h),(λ x h=>by cases h),Bt.zero 0⟩ (by omega) (by omega) false [] [] hD
theorem Wi (N:SimGLib L) (n1:L.num 289=55) (n2:L.num 287=20) (l m:List Int) (size:Int) (q1 q2:Bool) (hl : ∀ v∈l,LD v) (hm : ∀ v∈m,LD v) (hs:LD size) :
  Ev L 293 [.sl q1 (l.map V3),.sl q2 (m.map V3),.int .i64 size] (.bool true):=by
 have W:WorldLib L:=N.toWorldLib;have T:RatsGLib L:=N.toRatsGLib;have A:TrGLib L:=N.toTrGLib;have hkn:=Wg N.toLawFLib;obtain ⟨g1,g2⟩:=Alv (v:=size) (m:=4) (by omega);have hW1:=yE W size 4 hs (by omega);generalize JU size 4=z1 at *;obtain ⟨n,rfl⟩:=Int.eq_ofNat_of_zero_le g1;have hS1:=λ q=>Sr T l q n hl (by omega)
 have hM:=λ q=>Tt N.toWMatLib m q n hm (by omega)
 have hok1:=Ak8 l n;obtain ⟨hq,hb4⟩:=Zv m n;generalize YP l n=S at *;generalize U7 m n=P at *;obtain ⟨v,hV,hv0⟩:=Sn N n1 n2 S P n hok1 hq hb4 (by omega);obtain ⟨w,hX,hw0⟩:=So N.toEquGLib S P n hok1 hq hb4 (by omega);rcases hv0 with ⟨hns,rfl⟩|⟨hns,U,hU,h1,h2,rfl⟩
 ·rcases hw0 with ⟨_,rfl⟩|⟨hns',_⟩
  ·have h0:=Sk N.toModGLib
   refine Ev.x N.MY rfl rfl ?_;(repeat' ((first|(apply BR<;>intro hc<;>try (exfalso;omega))|apply BA|refine BH (hW1) ?_|refine BH (hS1 _) ?_|refine BH (hM _) ?_|refine BH (hV) ?_|refine BH (hX) ?_|refine BH (h0) ?_|refine BH (hkn) ?_)<;>conv=>whnf))
   exact I4 rfl
  ·exact absurd hns' hns
 ·rcases hw0 with ⟨hns',_⟩|⟨_,U',hU',h1',rfl⟩
  ·exact absurd hns hns'
  ·obtain rfl:U'=U:=Ajr hq hU' hU h1' h2
   obtain ⟨t1,t2⟩:=Ald hok1 hq hU h1 h2;have hok2:(IG P U' S n).Ok n 400:=(qB hok1 hq hU hb4 (nX (by omega) hq hU hb4 h1) (by omega)).1;have hT1:=xD A S n (hok1.le (by omega)) (by omega);have hT2:=xD A (IG P U' S n) n hok2 (by omega);rw[t1,t2]at hT2;have hSy:=Sj N.toModGLib (IG P U' S n) n 400 hok2 (by omega) (by omega);obtain ⟨bA,bB⟩:=Alb (n:=n) (hok1.le (show 4<=80 by omega)) (by omega);obtain ⟨lA,lB⟩:=Alc S n;have hF:=Sh N.toBldGLib (ON S n) (OM S n) 510000000 bB (bA.le (by omega)) (by omega) (by omega) (by omega);clear t1 t2 hok2 bA bB lA lB h1 h2 h1';generalize IG P U' S n=Z at *;generalize ON S n=FB at *;generalize OM S n=FA at *;refine Ev.x N.MY rfl rfl ?_;(repeat' ((first|(apply BR<;>intro hc<;>try (exfalso;omega))|apply BA|refine BH (hW1) ?_|refine BH (hS1 _) ?_|refine BH (hM _) ?_|refine BH (hV) ?_|refine BH (hX) ?_|refine BH (hSy) ?_|refine BH (hkn) ?_|refine BH (hT1) ?_|refine BH (hT2) ?_|refine BH (hF) ?_)<;>conv=>whnf))
   exact I4 rfl
end Go.Eng
