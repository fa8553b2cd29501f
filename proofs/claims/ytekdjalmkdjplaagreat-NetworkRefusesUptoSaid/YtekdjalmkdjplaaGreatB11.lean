/-
  Systems of raw numbers, of any shape (layer 22): the program.
-/
import Derived.Test.YtekdjalmkdjplaaGreatB10
import Derived.Test.YtekdjalmkdjplaaGreatB9
import Derived.Test.YtekdjalmkdjplaaGreatB8
import Derived.Test.YtekdjalmkdjplaaGreatB2
set_option linter.unusedSimpArgs false
set_option linter.unusedVariables false
set_option linter.unnecessarySimpa false
namespace Go.c8
open F
attribute [local irreducible] AA AF AX AB CQ AY BB A9 BS BR CX D9 BT A1 BP CK AC A5 AL pw C7 CE DM DF DP DU DY BQ DE
variable {L:Lib}
set_option maxHeartbeats 16000000
structure CP where
 a:List (List A3)
 b:List A3
 c:List A3
 d:A3
abbrev E6 (S:CP):List AV:=[.sl false (tV false S.a),.sl false (S.b.map eW),.sl false (S.c.map eW)]++eW S.d
def CP.v (S:CP):C1:=⟨vM S.a,S.b.map A3.v,S.c.map A3.v,S.d.v⟩
def CP.Fit (k:Nat) (S:CP):Prop:=V1 k S.a/\Fs k S.b/\Fs k S.c/\S.d.Fit k
def DW (S:CP):Bool:=decide (S.a.length<=64)&&decide (S.b.length=S.a.length)&&decide (S.c.length=S.a.length)&&S.a.all λ r=>decide (r.length=S.a.length)
theorem PH {S:CP}:DW S=true↔S.a.length<=64/\S.b.length=S.a.length/\S.c.length=S.a.length /\ ∀ r∈S.a,r.length=S.a.length:=by
 simp only[DW,Bool.and_eq_true,decide_eq_true_eq,List.all_eq_true,and_assoc]
theorem CP.ok {S:CP} {k:Nat} (hs:DW S=true) (hf:S.Fit k):S.v.Ok S.a.length k:=by
 obtain ⟨h1,h2,h3,h4⟩:=PH.1 hs;obtain ⟨f1,f2,f3,f4⟩:=hf;exact ⟨VS rfl,Kn h4,by rw[CP.v,List.length_map];exact h2,by rw[CP.v,List.length_map];exact h3,f1.ms,f2.bs,f3.bs,f4.1⟩
theorem OQ (N:e5 L) (S:CP) (ha:S.a.length<=9223372036854775807/\S.b.length<=9223372036854775807/\S.c.length<=9223372036854775807):Ev L 130 [.agg (E6 S)] (.bool (DW S)):=by
 obtain ⟨a1,a2,a3⟩:=ha;by_cases h1:S.a.length<=64
 ·by_cases h2:S.b.length=S.a.length
  ·by_cases h3:S.c.length=S.a.length
   ·rw[DW,decide_eq_true h1,decide_eq_true h2,decide_eq_true h3,Bool.true_and,Bool.true_and,Bool.true_and]
    refine Ev.x N.F8 rfl rfl ?_;(repeat' ((first|(apply AH<;>intro hc<;>try omega)|apply AQ|apply AD)<;>conv=>whnf))
    refine DL (λ i=>S.a.length-i) (λ(i:Nat)=>i<=S.a.length /\ ∀ (j:Nat) (r:List A3),j<i->S.a[j]? = some r->decide (r.length=S.a.length)=true) (λ i=>[(28,.int .i64 i)]) (λ_=>[]) 0 ⟨by omega,λ j x h _=>absurd h (by omega)⟩ ?_;intro i ⟨p1,p2⟩ ih;by_cases hi:i<S.a.length
    ·obtain ⟨r,hr⟩ : ∃ r,S.a[i]? = some r:=⟨_,zE hi⟩
     have Ea:S.a[(i:Int).toNat]? = some r:=hr;by_cases dj:r.length=S.a.length
     ·(repeat' ((first|(apply AH<;>intro hc<;>try omega)|(apply A2;omega)|apply AQ|(refine BH (by assumption) ?_ rfl ?_;omega)|apply AD)<;>conv=>whnf))
      exact B2 [] (ih (i+1) (by omega) ⟨by omega,λ j y hj hy=>by
       by_cases e:j=i
       ·subst e;rw[hr]at hy;obtain rfl:=Option.some.inj hy;exact decide_eq_true dj
       ·exact p2 j y (by omega) hy⟩)
     ·rw[bO hr (decide_eq_false dj)]
      clear ih p2;(repeat' ((first|(apply AH<;>intro hc<;>try omega)|apply AQ|(refine BH (by assumption) ?_ rfl ?_;omega)|apply AD)<;>conv=>whnf))
      exact E4 rfl
    ·obtain rfl:i=S.a.length:=by omega
     clear ih;rw[bN λ j x hx=>p2 j x (zS hx).1 hx];(repeat' ((first|(apply AH<;>intro hc<;>try omega)|apply AD)<;>conv=>whnf))
     exact E4 rfl
   ·rw[DW,decide_eq_false h3,Bool.and_false,Bool.false_and]
    refine Ev.x N.F8 rfl rfl ?_;(repeat' ((first|(apply AH<;>intro hc<;>try omega)|apply AQ|apply AD)<;>conv=>whnf))
    exact E4 rfl
  ·rw[DW,decide_eq_false h2,Bool.and_false,Bool.false_and,Bool.false_and]
   refine Ev.x N.F8 rfl rfl ?_;(repeat' ((first|(apply AH<;>intro hc<;>try omega)|apply AQ|apply AD)<;>conv=>whnf))
   exact E4 rfl
 ·rw[DW,decide_eq_false h1,Bool.false_and,Bool.false_and,Bool.false_and]
  refine Ev.x N.F8 rfl rfl ?_;(repeat' ((first|(apply AH<;>intro hc<;>try omega)|apply AQ|apply AD)<;>conv=>whnf))
  exact E4 rfl
theorem RW (N:e5 L) (aw bw:List A3) (q1 q2:Bool) (k s:Nat) (hl:aw.length=bw.length) (xe:Fs k aw) (ow:Fs s bw) (hK:aw.length*(k+s+1)+k+s<2199023255552) (xf:aw.length<=1099511627776):Ev L 132 [.sl q1 (aw.map eW),.sl q2 (bw.map eW)] (.agg (eQ (B0 (aw.map A3.v) (bw.map A3.v)))):=by
 have hO:=OU N.toa5 0 (by omega);have ha:=xe.bs;have hb:=ow.bs;have gv:(aw.map A3.v).length=aw.length:=List.length_map ..;have xy:(bw.map A3.v).length=bw.length:=List.length_map ..;have Ce : ∀ (i:Nat) (w:A3),aw[i]? = some w->(aw.map A3.v)[i]? = some w.v:=λ i w h=>by rw[List.getElem?_map,h];rfl
 have Ch : ∀ (i:Nat) (w:A3),bw[i]? = some w->(bw.map A3.v)[i]? = some w.v:=λ i w h=>by rw[List.getElem?_map,h];rfl
 generalize aw.map A3.v=a at *;generalize bw.map A3.v=b at *;refine Ev.x N.KF rfl rfl ?_;(repeat' ((first|apply AQ|apply AD|refine AG (hO) ?_)<;>conv=>whnf))
 refine IH (λ i _=>aw.length-i) (λ(i:Nat) (acc:Rat)=>i<=aw.length/\acc=B0 (a.take i) (b.take i)) (λ i acc=>[(11,.int .i64 i)]) (λ i acc=>[(5,5,.bx (eQ acc))]) 0 ((0:Int):Rat) ⟨by omega,by simp [B0]⟩ ?_;intro i acc ⟨p1,p2⟩ ih;by_cases hi:i<aw.length
 ·obtain ⟨xw,iy⟩ : ∃ x,aw[i]? = some x:=⟨_,zE hi⟩
  obtain ⟨yw,uj⟩ : ∃ y,bw[i]? = some y:=⟨_,zE (by omega)⟩;have js:aw[(i:Int).toNat]? = some xw:=iy;have rk:bw[(i:Int).toNat]? = some yw:=uj;obtain ⟨bx,fx⟩:=xe xw (zM iy);obtain ⟨Bg,fy⟩:=ow yw (zM uj);have hx:=Ce i xw iy;have hy:=Ch i yw uj;have Br:=fK N.toa5 fx (Nat.le_refl _);have Fp:=fK N.toa5 fy (Nat.le_refl _);have hM:=vI N.toa5 fx fy (Nat.le_refl _) (Nat.le_refl _);generalize xw.v=x at *;generalize yw.v=y at *;have sj:Bt (aw.length*(k+s+1)) acc:=by
   rw[p2];have:=(ha.take i).dot (hb.take i)
   refine this.le (zR _ ?_);rw[List.length_take];omega
  have hA:=P5 N.toa5 sj (bx.mul Bg) (by omega) (by omega);have g8:=dM hx hy;have z1:=NV (x:=x);have z2:=NV (x:=y);generalize v5 x.num=sx at *;generalize v5 y.num=sy at *;by_cases h1:sx=0
  ·have fj:=z1.1 h1
   (repeat' ((first|(apply AH<;>intro hc<;>try omega)|(apply A2;omega)|(refine BH (by assumption) ?_ rfl ?_;omega)|apply AD|refine AG (Br) ?_)<;>conv=>whnf))
   refine BJ [] (by (conv=>whnf);exact ⟨rfl,rfl,rfl⟩) (ih (i+1) acc (by omega) ⟨by omega,?_⟩);rw[g8,fj,Rat.zero_mul,Rat.add_zero];exact p2
  ·by_cases h2:sy=0
   ·have iz:=z2.1 h2
    (repeat' ((first|(apply AH<;>intro hc<;>try omega)|(apply A2;omega)|(refine BH (by assumption) ?_ rfl ?_;omega)|apply AD|refine AG (Br) ?_|refine AG (Fp) ?_)<;>conv=>whnf))
    refine BJ [] (by (conv=>whnf);exact ⟨rfl,rfl,rfl⟩) (ih (i+1) acc (by omega) ⟨by omega,?_⟩);rw[g8,iz,Rat.mul_zero,Rat.add_zero];exact p2
   ·(repeat' ((first|(apply AH<;>intro hc<;>try omega)|(apply A2;omega)|(refine BH (by assumption) ?_ rfl ?_;omega)|apply AD|refine AG (Br) ?_|refine AG (Fp) ?_|refine AG (hM) ?_|refine AG (hA) ?_)<;>conv=>whnf))
    refine BJ [] (by (conv=>whnf);exact ⟨rfl,rfl,rfl⟩) (ih (i+1) (acc+x*y) (by omega) ⟨by omega,?_⟩);rw[g8,<-p2]
 ·obtain rfl:i=aw.length:=by omega
  clear ih;rw[dK gv]at p2;rw[<-p2];(repeat' ((first|(apply AH<;>intro hc<;>try omega)|apply AD)<;>conv=>whnf))
  exact AU rfl (EM _)
theorem eE (N:e5 L) (SW:CP) (S:C1) (eg:SW.v=S) (dm kz:Nat) (KK:Nat->Nat) (h:S.Ok dm kz) (hF:SW.Fit kz) (af:DW SW=true) (hn:dm<=64) (st xs:List Rat) (q1 q2:Bool) (g8:st.length=dm) (ur:Bs kz xs) (zl:xs.length<=4096)
  (ku : ∀ i,i<=xs.length->Bs (KK i) (S.state st (xs.take i))) (hK : ∀ i,i<xs.length->dm*(kz+KK i+1)+(kz+kz)+1<1099511627776) (wv : ∀ i,i<=xs.length->KK i<1099511627776) (Nz:kz<1099511627776) :
  Ev L 133 [.agg (E6 SW),.sl q1 (st.map eQ),.sl q2 (xs.map eQ)] (.e7 [.sl false ((S.outs st xs).map eQ),.sl false ((S.state st xs).map eQ),.int .i64 0]):=by
 obtain ⟨d1,d2,d3,d4⟩:=PH.1 af;have jk:=OQ N SW (by omega);rw[af]at jk;have zj:SW.c.map A3.v=S.c:=by rw[<-eg];rfl
 have ui:SW.d.v=S.d:=by rw[<-eg];rfl
 have zh : ∀ (j:Nat) (r:List A3),SW.a[j]? = some r->S.a[j]? = some (r.map A3.v)/\Fs kz r:=λ j r hr=>⟨by rw[<-eg];exact aB hr,hF.1 r (zM hr)⟩
 have zi : ∀ (j:Nat) (r:A3),SW.b[j]? = some r->S.b[j]? = some r.v/\r.Fit kz:=λ j r hr=>⟨by rw[<-eg];exact lU hr,hF.2.1 r (zM hr)⟩
 have gv:=h.la;have xy:=h.lb;have dh:=h.lc;have Db:SW.a.length=dm:=by rw[<-gv,<-eg];exact (VS rfl).symm
 have mq:SW.c.length=dm:=by omega
 have Be:Bs (KK 0) st:=ku 0 (by omega);have pg:=wv 0 (by omega);clear eg;refine Ev.x N.G2 rfl rfl ?_;(repeat' ((first|(apply AH<;>intro hc<;>try omega)|apply AQ|apply AD|refine AG (jk) ?_)<;>conv=>whnf))
 refine DQ (enc:=eO) none st.length rfl rfl (by omega) ?_;(conv=>whnf)
 (repeat' (apply AQ<;>conv=>whnf))
 refine GF (λ i=>st.length-i) (λ(i:Nat)=>i<=st.length) (λ i=>[(35,.int .i64 i)]) (λ i=>[(133032,133032,.rw 3 ((EH (st.take i) st.length).map eO))]) [] [] 0 (by first|exact (by (conv=>whnf);exact ⟨rfl,rfl,rfl⟩)|(rw[List.take_zero,<-L5];exact (by (conv=>whnf);exact ⟨rfl,rfl,rfl⟩))) (by omega) ?_;intro i p1 ih;by_cases hi:i<st.length
 ·obtain ⟨x,hx⟩ : ∃ x,st[i]? = some x:=⟨_,zE hi⟩
  have js:st[(i:Int).toNat]? = some x:=hx;have hT:=XR N.toa5 (Be.at hx) (by omega);have hl:=JC (l:=st.take i) (m:=st.length) (by rw[List.length_take];omega);have hs:=L6 (l:=st.take i) (m:=st.length) (x:=x) (by rw[List.length_take];omega);rw[List.length_take,Nat.min_eq_left (by omega),<-I1 hx]at hs;(repeat' ((first|(apply AH<;>intro hc<;>try omega)|(apply BA;omega)|(refine BH (by assumption) ?_ rfl ?_;omega)|apply AD|refine AG (hT) ?_)<;>conv=>whnf))
  refine GI (enc:=eO) (some x) rfl (λ e=>by cases e<;>rfl) (by omega) ?_;(conv=>whnf)
  (repeat' ((first|(apply A2;omega)|fail)<;>conv=>whnf))
  rw[hs];exact B2 [] (ih (i+1) (by omega) (by omega))
 obtain rfl:i=st.length:=by omega
 clear ih;rw[zT (Nat.le_refl _),L4 rfl];(repeat' ((first|(apply AH<;>intro hc<;>try omega)|apply AQ|apply AD)<;>conv=>whnf))
 refine DQ (enc:=eO) none 0 rfl rfl (by omega) ?_;(conv=>whnf)
 (repeat' (apply AQ<;>conv=>whnf))
 refine S3 (λ i _ _ _=>xs.length-i) (λ(i:Nat) (nw os:List Rat) (_:Nat)=>i<=xs.length/\nw=S.state st (xs.take i)/\os=S.outs st (xs.take i)) (λ i nw os _=>[(51,.int .i64 i),(12,.row 133048 0 3 0 os.length),(9,.row 133032 0 3 0 nw.length)]) (λ i nw os t=>[(133048,133048,.rw 3 (os.map eQ)),(133032,t,.rw 3 (nw.map eQ))]) [] [] 0 st [] 133032 (by (conv=>whnf);exact ⟨rfl,rfl,rfl⟩) ⟨by omega,rfl,rfl⟩ ?_;intro i nw os t ⟨p1,p2,p3⟩ ih;have qu:nw.length=dm:=by rw[p2];exact h.bp _ _ g8
 have vi:os.length=i:=by rw[p3,U1,List.length_take];omega
 by_cases hi:i<xs.length
 ·obtain ⟨x,hx⟩ : ∃ x,xs[i]? = some x:=⟨_,zE hi⟩
  have js:xs[(i:Int).toNat]? = some x:=hx;have bx:=ur.at hx;have oi:Bs (KK i) nw:=by rw[p2];exact ku i (by omega)
  have Cx:=hK i (by omega);have Oa:=wv i (by omega);have ue:S.state st (xs.take (i+1))=S.next nw x:=by rw[I1 hx,Z0,<-p2]
  have tz:S.outs st (xs.take (i+1))=os++[S.out nw x]:=by rw[I1 hx,U2,<-p2,<-p3]
  generalize KK i=kk at *;have hP:=λ q q'=>RW N SW.c (wR nw) q q' kz kk (by rw[wR,List.length_map];omega) hF.2.2.1 (Fs.of oi (by omega)) (by rw[mq];omega) (by omega)
  simp only[ON,PJ,zj]at hP;have ef:=eM N.toa5 hF.2.2.2.2 bx (Nat.le_refl _) (by omega);rw[ui]at ef;have wj:=h.bc.dot oi;rw[dh]at wj;have Bm:=P5 N.toa5 wj (h.bd.mul bx) (by omega) (by omega);(repeat' ((first|(apply AH<;>intro hc<;>try omega)|(refine BH (by assumption) ?_ rfl ?_;omega)|(refine C8 (λ_=>rfl) rfl ?_ ?_;(first|rfl|simp))|apply EW|apply AD|refine AG (hP _ _) ?_|refine AG (ef) ?_|refine AG (Bm) ?_)<;>conv=>whnf))
  refine ER (enc:=eQ) (S.out nw x) rfl rfl rfl (by omega) (by omega) ?_;(conv=>whnf)
  skip
  refine DQ (enc:=eO) none nw.length rfl rfl (by omega) ?_;(conv=>whnf)
  (repeat' (apply AQ<;>conv=>whnf))
  have Dk:=h.az nw x;generalize Bo:S.next nw x=nx at *
  refine GF (λ j=>SW.a.length-j) (λ(j:Nat)=>j<=SW.a.length) (λ j=>[(73,.int .i64 j)]) (λ j=>[(133069,133069,.rw 3 ((EH (nx.take j) nw.length).map eO))]) [] [] 0 (by first|exact (by (conv=>whnf);exact ⟨rfl,rfl,rfl⟩)|(rw[List.take_zero,<-L5];exact (by (conv=>whnf);exact ⟨rfl,rfl,rfl⟩))) (by omega) ?_;intro j r1 jh;by_cases hj:j<SW.a.length
  ·obtain ⟨jc,yv⟩ : ∃ r,SW.a[j]? = some r:=⟨_,zE hj⟩
   obtain ⟨bw,xi⟩ : ∃ b,SW.b[j]? = some b:=⟨_,zE (by omega)⟩;have Ea:SW.a[(j:Int).toNat]? = some jc:=yv;have j4:SW.b[(j:Int).toNat]? = some bw:=xi;obtain ⟨hr,nb⟩:=zh j jc yv;obtain ⟨kv,ow⟩:=zi j bw xi;have dj:=h.lr _ (zM hr);have bb:=h.bb.at kv;have nc:jc.length=dm:=by have:=dj;rwa [List.length_map]at this
   have wz:=λ q q'=>RW N jc (wR nw) q q' kz kk (by rw[wR,List.length_map];omega) nb (Fs.of oi (by omega)) (by rw[nc];omega) (by omega)
   simp only[ON,PJ]at wz;have me:=eM N.toa5 ow.2 bx (Nat.le_refl _) (by omega);have wk:=(h.ba _ (zM hr)).dot oi;rw[dj]at wk;have qh:=P5 N.toa5 wk (bb.mul bx) (by omega) (by omega);have Dj:nx[j]? = some (B0 (jc.map A3.v) nw+bw.v*x):=by rw[<-Bo];exact UT nw x S.a S.b j _ _ hr kv
   have hl:=JC (l:=nx.take j) (m:=nw.length) (by rw[List.length_take];omega);have hs:=L6 (l:=nx.take j) (m:=nw.length) (x:=B0 (jc.map A3.v) nw+bw.v*x) (by rw[List.length_take];omega);rw[List.length_take,Nat.min_eq_left (by omega),<-I1 Dj]at hs;generalize B0 (jc.map A3.v) nw+bw.v*x=y at *;(repeat' ((first|(apply AH<;>intro hc<;>try omega)|(apply BA;omega)|(refine BH (by assumption) ?_ rfl ?_;omega)|(refine C8 (λ_=>rfl) rfl ?_ ?_;(first|rfl|simp))|apply AD|refine AG (wz _ _) ?_|refine AG (me) ?_|refine AG (qh) ?_)<;>conv=>whnf))
   refine GI (enc:=eO) (some y) rfl (λ e=>by cases e<;>rfl) (by omega) ?_;(conv=>whnf)
   (repeat' ((first|(apply A2;omega)|fail)<;>conv=>whnf))
   rw[hs];exact B2 [] (jh (j+1) (by omega) (by omega))
  ·obtain rfl:j=SW.a.length:=by omega
   clear jh;rw[zT (by omega),L4 (by omega)];rw[show nw.length=nx.length by omega];(repeat' ((first|(apply AH<;>intro hc<;>try omega)|(apply A2;omega)|apply AD)<;>conv=>whnf))
   refine B2 [(133032,133069),(133048,133066)] (ih (i+1) nx (os++[S.out nw x]) 133069 (by omega) ⟨by omega,by rw[ue],by rw[tz]⟩)
 ·obtain rfl:i=xs.length:=by omega
  clear ih;rw[zT (Nat.le_refl _)]at p2 p3;rw[<-p2,<-p3];(repeat' ((first|(apply AH<;>intro hc<;>try omega)|(refine C8 (λ_=>rfl) rfl ?_ ?_;(first|rfl|simp))|apply AD)<;>conv=>whnf))
  exact AU rfl (PZ _ _ _)
theorem uR (N:e5 L) (SW:CP) (S:C1) (n k c:Nat) (h:S.Ok n k) (gv:SW.a.length=n) (af:DW SW=true) (hn:n<=64) (ct:c<=4096) (Mr : ∀ q1 q2,Ev L 133 [.agg (E6 SW),.sl q1 ((List.replicate n (0:Rat)).map eQ),.sl q2 ((D4 c).map eQ)] (.e7 [.sl false ((S.outs (List.replicate n 0) (D4 c)).map eQ),.sl false ((S.state (List.replicate n 0) (D4 c)).map eQ),.int .i64 0])) :
  Ev L 134 [.agg (E6 SW),.int .i64 (c:Int)] (.e7 [.sl false ((S.outs (List.replicate n 0) (D4 c)).map eQ),.int .i64 0]):=by
 have jk:=OQ N SW (by obtain ⟨d1,d2,d3,d4⟩:=PH.1 af;omega);rw[af]at jk;have hO:=OU N.toa5 0 (by omega);have hI:=OU N.toa5 1 (by omega);have hZ:=wO N n (by omega);rw[<-gv]at hZ;have hR:=Mr;rw[<-gv]at hR ⊢;refine Ev.x N.G1 rfl rfl ?_;(repeat' ((first|(apply AH<;>intro hc<;>try omega)|apply AD|refine AG (jk) ?_)<;>conv=>whnf))
 refine FA 1000 N.G4 rfl rfl ?_;(repeat' (apply AD<;>conv=>whnf))
 refine DQ (enc:=eO) none c rfl rfl (by omega) ?_;(conv=>whnf)
 skip
 refine GF (λ i=>c-i) (λ(i:Nat)=>i<=c) (λ i=>[(9,.int .i64 i)]) (λ i=>[(131006,131006,.rw 3 ((EH (List.replicate i 0) c).map eO))]) [] [] 0 (by first|exact (by (conv=>whnf);exact ⟨rfl,rfl,rfl⟩)|(rw[<-L5];exact (by (conv=>whnf);exact ⟨rfl,rfl,rfl⟩))) (by omega) ?_;intro i p1 ih;by_cases hi:i<c
 ·have hl:=JC (l:=List.replicate i (0:Rat)) (m:=c) (by simp;omega)
  have hs:=L6 (l:=List.replicate i (0:Rat)) (m:=c) (x:=0) (by simp;omega);rw[List.length_replicate]at hs;(repeat' ((first|(apply AH<;>intro hc<;>try omega)|(apply BA;omega)|apply AD|refine AG (hO) ?_)<;>conv=>whnf))
  refine GI (enc:=eO) (some 0) rfl (λ e=>by cases e<;>rfl) (by omega) ?_;(conv=>whnf)
  (repeat' ((first|(apply A2;omega)|fail)<;>conv=>whnf))
  rw[hs];rw[show List.replicate i (0:Rat)++[0]=List.replicate (i+1) 0 by rw[List.replicate_succ']];exact B2 [] (ih (i+1) (by omega) (by omega))
 obtain rfl:i=c:=by omega
 clear ih;rw[L4 (by simp)];by_cases xj:i=0
 ·subst xj
  (repeat' ((first|(apply AH<;>intro hc<;>try omega)|apply AD)<;>conv=>whnf))
  refine ⟨rfl,_,rfl,?_⟩;(conv=>whnf)
  (repeat' ((first|(apply AH<;>intro hc<;>try omega)|apply AQ|(refine C8 (λ_=>rfl) rfl ?_ ?_;(first|rfl|simp))|refine AG (hZ) ?_|refine AG (hR _ _) ?_)<;>conv=>whnf))
  exact AU rfl (OG _ _)
 ·have himp:(List.replicate i (0:Rat)).set 0 1=D4 i:=by
   rcases i with _|i
   ·exact absurd rfl xj
   ·simp [D4,List.replicate_succ]
  (repeat' ((first|(apply AH<;>intro hc<;>try omega)|apply AD)<;>conv=>whnf))
  refine ⟨rfl,_,rfl,?_⟩;(conv=>whnf)
  (repeat' ((first|(apply AH<;>intro hc<;>try omega)|(apply BA;omega)|refine AG (hI) ?_)<;>conv=>whnf))
  refine WA (enc:=eQ) 0 1 rfl rfl (λ_=>rfl) (by simp;omega) ?_;(conv=>whnf)
  rw[himp];(repeat' ((first|apply AQ|refine AG (hZ) ?_)<;>conv=>whnf))
  refine C8 (enc:=eQ) (λ_=>rfl) rfl (gQ i).symm ?_;(conv=>whnf)
  (repeat' (refine AG (hR _ _) ?_<;>conv=>whnf))
  exact AU rfl (OG _ _)
theorem RS (N:e5 L) (S:CP) (ha:S.a.length<=9223372036854775807/\S.b.length<=9223372036854775807/\S.c.length<=9223372036854775807):Ev L 136 [.agg (E6 S)] (.bool (DW S)):=by
 obtain ⟨a1,a2,a3⟩:=ha;by_cases h1:S.a.length<=64
 ·by_cases h2:S.b.length=S.a.length
  ·by_cases h3:S.c.length=S.a.length
   ·rw[DW,decide_eq_true h1,decide_eq_true h2,decide_eq_true h3,Bool.true_and,Bool.true_and,Bool.true_and]
    refine Ev.x N.GC rfl rfl ?_;(repeat' ((first|(apply AH<;>intro hc<;>try omega)|apply AQ|apply AD)<;>conv=>whnf))
    refine DL (λ i=>S.a.length-i) (λ(i:Nat)=>i<=S.a.length /\ ∀ (j:Nat) (r:List A3),j<i->S.a[j]? = some r->decide (r.length=S.a.length)=true) (λ i=>[(4,.int .i64 i)]) (λ_=>[]) 0 ⟨by omega,λ j x h _=>absurd h (by omega)⟩ ?_;intro i ⟨p1,p2⟩ ih;by_cases hi:i<S.a.length
    ·obtain ⟨r,hr⟩ : ∃ r,S.a[i]? = some r:=⟨_,zE hi⟩
     have Ea:S.a[(i:Int).toNat]? = some r:=hr;by_cases dj:r.length=S.a.length
     ·(repeat' ((first|(apply AH<;>intro hc<;>try omega)|(apply A2;omega)|apply AQ|(refine BH (by assumption) ?_ rfl ?_;omega)|apply AD)<;>conv=>whnf))
      exact B2 [] (ih (i+1) (by omega) ⟨by omega,λ j y hj hy=>by
       by_cases e:j=i
       ·subst e;rw[hr]at hy;obtain rfl:=Option.some.inj hy;exact decide_eq_true dj
       ·exact p2 j y (by omega) hy⟩)
     ·rw[bO hr (decide_eq_false dj)]
      clear ih p2;(repeat' ((first|(apply AH<;>intro hc<;>try omega)|apply AQ|(refine BH (by assumption) ?_ rfl ?_;omega)|apply AD)<;>conv=>whnf))
      exact E4 rfl
    ·obtain rfl:i=S.a.length:=by omega
     clear ih;rw[bN λ j x hx=>p2 j x (zS hx).1 hx];(repeat' ((first|(apply AH<;>intro hc<;>try omega)|apply AD)<;>conv=>whnf))
     exact E4 rfl
   ·rw[DW,decide_eq_false h3,Bool.and_false,Bool.false_and]
    refine Ev.x N.GC rfl rfl ?_;(repeat' ((first|(apply AH<;>intro hc<;>try omega)|apply AQ|apply AD)<;>conv=>whnf))
    exact E4 rfl
  ·rw[DW,decide_eq_false h2,Bool.and_false,Bool.false_and,Bool.false_and]
   refine Ev.x N.GC rfl rfl ?_;(repeat' ((first|(apply AH<;>intro hc<;>try omega)|apply AQ|apply AD)<;>conv=>whnf))
   exact E4 rfl
 ·rw[DW,decide_eq_false h1,Bool.false_and,Bool.false_and,Bool.false_and]
  refine Ev.x N.GC rfl rfl ?_;(repeat' ((first|(apply AH<;>intro hc<;>try omega)|apply AQ|apply AD)<;>conv=>whnf))
  exact E4 rfl
theorem eB (N:e5 L) (aw bw:List A3) (q1 q2:Bool) (k s:Nat) (hl:aw.length=bw.length) (xe:Fs k aw) (ow:Fs s bw) (hK:aw.length*(k+s+1)+k+s<2199023255552) (xf:aw.length<=1099511627776):Ev L 137 [.sl q1 (aw.map eW),.sl q2 (bw.map eW)] (.agg (eQ (B0 (aw.map A3.v) (bw.map A3.v)))):=by
 have hO:=XP N.toa8 0 (by omega);have ha:=xe.bs;have hb:=ow.bs;have gv:(aw.map A3.v).length=aw.length:=List.length_map ..;have xy:(bw.map A3.v).length=bw.length:=List.length_map ..;have Ce : ∀ (i:Nat) (w:A3),aw[i]? = some w->(aw.map A3.v)[i]? = some w.v:=λ i w h=>by rw[List.getElem?_map,h];rfl
 have Ch : ∀ (i:Nat) (w:A3),bw[i]? = some w->(bw.map A3.v)[i]? = some w.v:=λ i w h=>by rw[List.getElem?_map,h];rfl
 generalize aw.map A3.v=a at *;generalize bw.map A3.v=b at *;refine Ev.x N.LL rfl rfl ?_;(repeat' ((first|apply AD|refine AG (hO) ?_)<;>conv=>whnf))
 refine IH (λ i _=>aw.length-i) (λ(i:Nat) (acc:Rat)=>i<=aw.length/\acc=B0 (a.take i) (b.take i)) (λ i acc=>[(6,.int .i64 i)]) (λ i acc=>[(5,5,.bx (eQ acc))]) 0 ((0:Int):Rat) ⟨by omega,by simp [B0]⟩ ?_;intro i acc ⟨p1,p2⟩ ih;by_cases hi:i<aw.length
 ·obtain ⟨xw,iy⟩ : ∃ x,aw[i]? = some x:=⟨_,zE hi⟩
  obtain ⟨yw,uj⟩ : ∃ y,bw[i]? = some y:=⟨_,zE (by omega)⟩;have js:aw[(i:Int).toNat]? = some xw:=iy;have rk:bw[(i:Int).toNat]? = some yw:=uj;obtain ⟨bx,fx⟩:=xe xw (zM iy);obtain ⟨Bg,fy⟩:=ow yw (zM uj);have hx:=Ce i xw iy;have hy:=Ch i yw uj;have hM:=vJ N.toa8 fx fy (Nat.le_refl _) (Nat.le_refl _);generalize xw.v=x at *;generalize yw.v=y at *;have sj:Bt (aw.length*(k+s+1)) acc:=by
   rw[p2];have:=(ha.take i).dot (hb.take i)
   refine this.le (zR _ ?_);rw[List.length_take];omega
  have hA:=XC N.toa8 sj (bx.mul Bg) (by omega) (by omega);have g8:=dM hx hy;(repeat' ((first|(apply AH<;>intro hc<;>try omega)|(apply A2;omega)|apply AQ|(refine BH (by assumption) ?_ rfl ?_;omega)|apply AD|refine AG (hM) ?_|refine AG (hA) ?_)<;>conv=>whnf))
  refine BJ [] (by (conv=>whnf);exact ⟨rfl,rfl,rfl⟩) (ih (i+1) (acc+x*y) (by omega) ⟨by omega,?_⟩);rw[g8,<-p2]
 ·obtain rfl:i=aw.length:=by omega
  clear ih;rw[dK gv]at p2;rw[<-p2];(repeat' ((first|(apply AH<;>intro hc<;>try omega)|apply AQ|apply AD)<;>conv=>whnf))
  exact AU rfl (EM _)
theorem eD (N:e5 L) (SW:CP) (S:C1) (eg:SW.v=S) (n k:Nat) (KK:Nat->Nat) (h:S.Ok n k) (hF:SW.Fit k) (af:DW SW=true) (hn:n<=64) (st xs:List Rat) (q1 q2:Bool) (g8:st.length=n) (ur:Bs k xs) (zl:xs.length<=4096)
  (ku : ∀ i,i<=xs.length->Bs (KK i) (S.state st (xs.take i))) (hK : ∀ i,i<xs.length->n*(k+KK i+1)+(k+k)+1<1099511627776) (wv : ∀ i,i<=xs.length->KK i<1099511627776) (Nz:k<1099511627776) :
  Ev L 139 [.agg (E6 SW),.sl q1 (st.map eQ),.sl q2 (xs.map eQ)] (.e7 [.sl false ((S.outs st xs).map eQ),.sl false ((S.state st xs).map eQ),.int .i64 0]):=by
 obtain ⟨d1,d2,d3,d4⟩:=PH.1 af;have jk:=RS N SW (by omega);rw[af]at jk;have zj:SW.c.map A3.v=S.c:=by rw[<-eg];rfl
 have ui:SW.d.v=S.d:=by rw[<-eg];rfl
 have zh : ∀ (j:Nat) (r:List A3),SW.a[j]? = some r->S.a[j]? = some (r.map A3.v)/\Fs k r:=λ j r hr=>⟨by rw[<-eg];exact aB hr,hF.1 r (zM hr)⟩
 have zi : ∀ (j:Nat) (r:A3),SW.b[j]? = some r->S.b[j]? = some r.v/\r.Fit k:=λ j r hr=>⟨by rw[<-eg];exact lU hr,hF.2.1 r (zM hr)⟩
 have gv:=h.la;have xy:=h.lb;have dh:=h.lc;have Db:SW.a.length=n:=by rw[<-gv,<-eg];exact (VS rfl).symm
 have mq:SW.c.length=n:=by omega
 have Be:Bs (KK 0) st:=ku 0 (by omega);have pg:=wv 0 (by omega);clear eg;refine Ev.x N.HE rfl rfl ?_;(repeat' ((first|(apply AH<;>intro hc<;>try omega)|apply AQ|apply AD|refine AG (jk) ?_)<;>conv=>whnf))
 refine DL (λ i=>st.length-i) (λ(i:Nat)=>i<=st.length) (λ i=>[(11,.int .i64 i),(10,.row 10 0 3 0 i)]) (λ i=>[(10,10,.rw 3 ((st.take i).map eQ))]) 0 (by omega) ?_;intro i p1 ih;by_cases hi:i<st.length
 ·obtain ⟨x,hx⟩ : ∃ x,st[i]? = some x:=⟨_,zE hi⟩
  have js:st[(i:Int).toNat]? = some x:=hx;have hT:=wN N.toa8 (Be.at hx) (by omega);have hlen:(st.take i).length=i:=by rw[List.length_take];omega
  (repeat' ((first|(apply AH<;>intro hc<;>try omega)|apply AQ|(refine BH (by assumption) ?_ rfl ?_;omega)|apply EW|apply AD|refine AG (hT) ?_)<;>conv=>whnf))
  refine ER (enc:=eQ) x rfl hlen.symm rfl (by omega) (by omega) ?_;(conv=>whnf)
  (repeat' ((first|(apply A2;omega)|fail)<;>conv=>whnf))
  rw[<-I1 hx,show (st.take (i+1)).length=i+1 by rw[List.length_take];omega];exact B2 [(10,43)] (ih (i+1) (by omega) (by omega))
 obtain rfl:i=st.length:=by omega
 clear ih;rw[zT (Nat.le_refl _)];(repeat' ((first|(apply AH<;>intro hc<;>try omega)|apply AQ|apply AD)<;>conv=>whnf))
 refine S3 (λ i _ _ _=>xs.length-i) (λ(i:Nat) (nw os:List Rat) (_:Nat)=>i<=xs.length/\nw=S.state st (xs.take i)/\os=S.outs st (xs.take i)) (λ i nw os _=>[(12,.int .i64 i),(9,.row 9 0 3 0 os.length),(10,.row 10 0 3 0 nw.length)]) (λ i nw os t=>[(9,9,.rw 3 (os.map eQ)),(10,t,.rw 3 (nw.map eQ))]) [] [] 0 st [] 10 (by (conv=>whnf);exact ⟨rfl,rfl,rfl⟩) ⟨by omega,rfl,rfl⟩ ?_;intro i nw os t ⟨p1,p2,p3⟩ ih;have qu:nw.length=n:=by rw[p2];exact h.bp _ _ g8
 have vi:os.length=i:=by rw[p3,U1,List.length_take];omega
 by_cases hi:i<xs.length
 ·obtain ⟨x,hx⟩ : ∃ x,xs[i]? = some x:=⟨_,zE hi⟩
  have js:xs[(i:Int).toNat]? = some x:=hx;have bx:=ur.at hx;have oi:Bs (KK i) nw:=by rw[p2];exact ku i (by omega)
  have Cx:=hK i (by omega);have Oa:=wv i (by omega);have ue:S.state st (xs.take (i+1))=S.next nw x:=by rw[I1 hx,Z0,<-p2]
  have tz:S.outs st (xs.take (i+1))=os++[S.out nw x]:=by rw[I1 hx,U2,<-p2,<-p3]
  generalize KK i=kk at *;have hP:=λ q q'=>eB N SW.c (wR nw) q q' k kk (by rw[wR,List.length_map];omega) hF.2.2.1 (Fs.of oi (by omega)) (by rw[mq];omega) (by omega)
  simp only[ON,PJ,zj]at hP;have ef:=eN N.toa8 hF.2.2.2.2 bx (Nat.le_refl _) (by omega);rw[ui]at ef;have wj:=h.bc.dot oi;rw[dh]at wj;have Bm:=XC N.toa8 wj (h.bd.mul bx) (by omega) (by omega);(repeat' ((first|(apply AH<;>intro hc<;>try omega)|apply AQ|(refine BH (by assumption) ?_ rfl ?_;omega)|(refine C8 (λ_=>rfl) rfl ?_ ?_;(first|rfl|simp))|apply EW|apply AD|refine AG (hP _ _) ?_|refine AG (ef) ?_|refine AG (Bm) ?_)<;>conv=>whnf))
  refine ER (enc:=eQ) (S.out nw x) rfl rfl rfl (by omega) (by omega) ?_;(conv=>whnf)
  skip
  refine FA 1000 N.LM rfl rfl ?_;(repeat' (apply AD<;>conv=>whnf))
  refine DL (λ j=>SW.a.length-j) (λ(j:Nat)=>j<=SW.a.length) (λ j=>[(6,.int .i64 j),(5,.row 138005 0 3 0 j)]) (λ j=>[(138005,138005,.rw 3 (((S.a.take j).map λ r=>B0 r nw).map eQ))]) 0 (by omega) ?_;intro j r1 jh;by_cases hj:j<SW.a.length
  ·obtain ⟨jc,yv⟩ : ∃ r,SW.a[j]? = some r:=⟨_,zE hj⟩
   have Ea:SW.a[(j:Int).toNat]? = some jc:=yv;obtain ⟨hr,nb⟩:=zh j jc yv;have dj:=h.lr _ (zM hr);have nc:jc.length=n:=by have:=dj;rwa [List.length_map]at this
   have wz:=λ q q'=>eB N jc (wR nw) q q' k kk (by rw[wR,List.length_map];omega) nb (Fs.of oi (by omega)) (by rw[nc];omega) (by omega)
   simp only[ON,PJ]at wz;generalize jc.map A3.v=r at *;have hlen:((S.a.take j).map λ r=>B0 r nw).length=j:=by simp;omega
   have Pf:(S.a.take (j+1)).map (λ r=>B0 r nw)=((S.a.take j).map λ r=>B0 r nw)++[B0 r nw]:=by rw[List.take_add_one,hr];simp
   (repeat' ((first|(apply AH<;>intro hc<;>try omega)|apply AQ|(refine BH (by assumption) ?_ rfl ?_;omega)|(refine C8 (λ_=>rfl) rfl ?_ ?_;(first|rfl|simp))|apply EW|apply AD|refine AG (wz _ _) ?_)<;>conv=>whnf))
   refine ER (enc:=eQ) (B0 r nw) rfl hlen.symm rfl (by omega) (by omega) ?_;(conv=>whnf)
   (repeat' ((first|(apply A2;omega)|fail)<;>conv=>whnf))
   rw[<-Pf,show ((S.a.take (j+1)).map λ r=>B0 r nw).length=j+1 by simp;omega];exact B2 [(138005,138021)] (jh (j+1) (by omega) (by omega))
  obtain rfl:j=SW.a.length:=by omega
  clear jh;rw[zT (show S.a.length<=SW.a.length by omega)];(repeat' ((first|(apply AH<;>intro hc<;>try omega)|apply AQ|apply AD)<;>conv=>whnf))
  refine ⟨rfl,_,rfl,?_⟩;(conv=>whnf)
  skip
  have Dk:=h.az nw x;generalize Bo:S.next nw x=nx at *
  generalize hT:(S.a.map λ r=>B0 r nw)=T at *;have Qx:T.length=S.a.length:=by rw[<-hT];simp
  rw[show SW.a.length=T.length by omega];refine DL (λ j=>T.length-j) (λ(j:Nat)=>j<=T.length) (λ j=>[(14,.int .i64 j)]) (λ j=>[(138005,138005,.rw 3 ((nx.take j++T.drop j).map eQ))]) 0 (by omega) ?_;intro j r2 jh;by_cases hj:j<T.length
  ·obtain ⟨r,hr⟩ : ∃ r,S.a[j]? = some r:=⟨_,zE (by omega)⟩
   obtain ⟨bw,xi⟩ : ∃ b,SW.b[j]? = some b:=⟨_,zE (by omega)⟩;have j4:SW.b[(j:Int).toNat]? = some bw:=xi;obtain ⟨kv,ow⟩:=zi j bw xi;have dj:=h.lr r (zM hr);have bb:=h.bb.at kv;have me:=eN N.toa8 ow.2 bx (Nat.le_refl _) (by omega);generalize bw.v=b at *;have wk:=(h.ba r (zM hr)).dot oi;rw[dj]at wk;have qh:=XC N.toa8 wk (bb.mul bx) (by omega) (by omega);have Dj:nx[j]? = some (B0 r nw+b*x):=by rw[<-Bo];exact UT nw x S.a S.b j r b hr kv
   have Ft:T[j]? = some (B0 r nw):=by rw[<-hT];simp [hr]
   have eu:(nx.take j).length=j:=by rw[List.length_take];omega
   have Ov:(nx.take j++T.drop j).length=T.length:=by simp;omega
   have vh:(nx.take j++T.drop j)[j]? = some (B0 r nw):=by
    rw[List.getElem?_append_right (by omega),eu,Nat.sub_self,List.getElem?_drop];exact Ft
   have ki:(nx.take j++T.drop j).set j (B0 r nw+b*x)=nx.take (j+1)++T.drop (j+1):=by
    obtain ⟨lf,Af⟩:=zS Ft;rw[List.set_append_right _ _ (by omega),eu,Nat.sub_self,List.drop_eq_getElem_cons lf,List.set_cons_zero,I1 Dj];simp
   (repeat' ((first|(apply AH<;>intro hc<;>try omega)|(apply BA;omega)|(refine BH (by assumption) ?_ rfl ?_;omega)|(refine Q6 ?_ (λ_=>rfl) (λ v hv => ?_);omega)|apply AD)<;>conv=>whnf))
   obtain rfl:v=B0 r nw:=by
    rw[vh]at hv;exact (Option.some.inj hv).symm
   (repeat' ((first|(apply BA;omega)|refine AG (me) ?_|refine AG (qh) ?_)<;>conv=>whnf))
   refine GI (enc:=eQ) (B0 r nw+b*x) rfl (λ_=>rfl) (by omega) ?_;(conv=>whnf)
   (repeat' ((first|(apply A2;omega)|fail)<;>conv=>whnf))
   rw[ki];exact B2 [] (jh (j+1) (by omega) (by omega))
  ·obtain rfl:j=T.length:=by omega
   clear jh;rw[zT (by omega),List.drop_of_length_le (Nat.le_refl _),List.append_nil];rw[show T.length=nx.length by omega];(repeat' ((first|(apply AH<;>intro hc<;>try omega)|(apply A2;omega)|apply AD)<;>conv=>whnf))
   refine B2 [(10,138005),(9,64)] (ih (i+1) nx (os++[S.out nw x]) 138005 (by omega) ⟨by omega,by rw[ue],by rw[tz]⟩)
 ·obtain rfl:i=xs.length:=by omega
  clear ih;rw[zT (Nat.le_refl _)]at p2 p3;rw[<-p2,<-p3];(repeat' ((first|(apply AH<;>intro hc<;>try omega)|apply AQ|(refine C8 (λ_=>rfl) rfl ?_ ?_;(first|rfl|simp))|apply AD)<;>conv=>whnf))
  exact AU rfl (PZ _ _ _)
theorem uQ (N:e5 L) (SW:CP) (S:C1) (n c:Nat) (gv:SW.a.length=n) (af:DW SW=true) (hn:n<=64) (ct:c<=4096) (hR : ∀ q1 q2,Ev L 139 [.agg (E6 SW),.sl q1 ((List.replicate n (0:Rat)).map eQ),.sl q2 ((D4 c).map eQ)] (.e7 [.sl false ((S.outs (List.replicate n 0) (D4 c)).map eQ),.sl false ((S.state (List.replicate n 0) (D4 c)).map eQ),.int .i64 0])) :
  Ev L 140 [.agg (E6 SW),.int .i64 (c:Int)] (.e7 [.sl false ((S.outs (List.replicate n 0) (D4 c)).map eQ),.int .i64 0]):=by
 have jk:=RS N SW (by obtain ⟨d1,d2,d3,d4⟩:=PH.1 af;omega);rw[af]at jk;have hZ:=fO N n (-1) (by omega);have hI:=fO N c 0 (by omega);rw[Ki,<-gv]at hZ;rw[Kk]at hI;rw[<-gv]at hR ⊢;refine Ev.x N.HD rfl rfl ?_;(repeat' ((first|(apply AH<;>intro hc<;>try omega)|apply AQ|apply AD|refine AG (jk) ?_|refine AG (hZ) ?_|refine AG (hI) ?_|refine AG (hR _ _) ?_)<;>conv=>whnf))
 exact AU rfl (OG _ _)
theorem vX (N:u4 L) (q:Bool) (l:List Rat) (dw:A3) (d:Rat) (Ae:dw.v=d) (k j:Nat) (hl:Bs k l) (Fw:dw.Fit j) (hk:k+j<2199023255552) (hn:l.length<=1000000):Ev L 190 [.sl q (l.map eQ),.agg (eW dw)] (.sl false ((FI (l.map (· * d))).map eQ)):=by
 have hd:Bt j d:=Ae ▸ Fw.1;refine Ev.x N.KN rfl rfl ?_;(repeat' ((first|apply AQ|apply AD)<;>conv=>whnf))
 refine DQ (enc:=eO) none l.length rfl rfl (by omega) ?_;(conv=>whnf)
 skip
 refine GF (λ i=>l.length-i) (λ(i:Nat)=>i<=l.length) (λ i=>[(12,.int .i64 i)]) (λ i=>[(9,9,.rw 3 ((EH ((l.map (· * d)).take i) l.length).map eO))]) [] [] 0 (by first|exact (by (conv=>whnf);exact ⟨rfl,rfl,rfl⟩)|(rw[List.take_zero,<-L5];exact (by (conv=>whnf);exact ⟨rfl,rfl,rfl⟩))) (by omega) ?_;intro i g1 ih;by_cases hi:i<l.length
 ·obtain ⟨x,hx⟩ : ∃ x,l[i]? = some x:=⟨_,zE hi⟩
  have js:l[(i:Int).toNat]? = some x:=hx;have hM:=vH N.toa5 (hl.at hx) Fw.2 (by omega) (Nat.le_refl _);rw[Ae]at hM;have hy:(l.map (· * d))[i]? = some (x*d):=by rw[List.getElem?_map,hx];rfl
  have jr:((l.map (· * d)).take i).length=i:=by rw[List.length_take,List.length_map];omega
  have Am:=JC (l:=(l.map (· * d)).take i) (m:=l.length) (by omega);have g8:=L6 (l:=(l.map (· * d)).take i) (m:=l.length) (x:=x*d) (by omega);rw[jr,<-Z3 hy]at g8;(repeat' ((first|(apply AH<;>intro hc<;>try omega)|(apply BA;omega)|(refine BH (by assumption) ?_ rfl ?_;omega)|apply AD|refine AG (hM) ?_)<;>conv=>whnf))
  refine GI (enc:=eO) (some (x*d)) rfl (λ e=>by cases e<;>rfl) (by omega) ?_;(conv=>whnf)
  (repeat' ((first|(apply A2;omega)|fail)<;>conv=>whnf))
  rw[g8];exact B2 [] (ih (i+1) (by omega) (by omega))
 ·obtain rfl:i=l.length:=by omega
  clear ih;have yc:Bs (k+j) (l.map (· * d)):=by
   intro y hy;obtain ⟨x,hx,rfl⟩:=List.mem_map.1 hy;exact (hl x hx).mul hd
  have lg:(l.map (· * d)).length=l.length:=List.length_map ..;rw[zT (Nat.le_of_eq lg),L4 lg,<-lg];generalize l.map (· * d)=p at *;(repeat' ((first|(apply AH<;>intro hc<;>try omega)|apply AD)<;>conv=>whnf))
  refine FA 1000 N.G6 rfl rfl ?_;(repeat' (apply AD<;>conv=>whnf))
  refine DL (λ n=>n) (λ(n:Nat)=>n<=p.length/\EN p p.length=EN p n) (λ n=>[(3,.int .i64 n)]) (λ_=>[(9,9,.rw 3 (p.map eQ))]) p.length ⟨Nat.le_refl _,rfl⟩ ?_;intro n ⟨p1,p2⟩ ih;have done : ∀ {n:Nat},EN p p.length=n->FI p=p.take n:=λ h=>by rw[FI,h]
  by_cases hz:n=0\/(∃ m x,n=m+1/\p[m]? = some x/\x≠0)
  ·have ga:EN p p.length=n:=by
    rw[p2];rcases hz with rfl|⟨m,x,rfl,h1,h2⟩
    ·rfl
    ·rw[EN,if_neg]
     rw[List.getD_eq_getElem?_getD,h1];exact h2
   have vm:=done ga;have eu:(p.take n).length=n:=by rw[List.length_take];omega
   clear ih ga p2 done;rcases hz with h0|⟨m,x,Gl,h1,h2⟩
   case' inl=>(repeat' ((first|(apply AH<;>intro hc<;>try omega)|apply AD)<;>conv=>whnf))
   case' inr =>
    have mc:p[((n:Int)-1).toNat]? = some x:=by rw[show ((n:Int)-1).toNat=m by omega];exact h1
    have jz:=P7 N.toa5 (yc.at h1) (by omega);have hs:=NV (x:=x);generalize v5 x.num=s at *;have hS : ∀ v,p[((n:Int)-1).toNat]? = some v->Ev L 97 [.agg (eQ v)] (.int .i64 s):=λ v h=>by
     obtain rfl:=Option.some.inj (mc.symm.trans h);exact jz
    have pg:s≠0:=λ h=>h2 (hs.1 h)
    (repeat' ((first|(apply AH<;>intro hc<;>try omega)|(apply BA;omega)|(apply BN;omega)|(refine PS ?_ (λ_=>rfl) (λ v hv => ?_);omega)|apply AD|refine AG (hS _ hv) ?_)<;>conv=>whnf))
   all_goals
    refine FL n (by omega) (by omega) ?_;(conv=>whnf)
    skip
    refine ⟨rfl,_,rfl,?_⟩;(conv=>whnf)
    (refine FV (enc:=eQ) (λ_=>rfl) (by omega) ?_;rw[List.drop_zero,Nat.sub_zero,<-vm];exact AU rfl (by simp only[AZ,true_and];exact I4 _))
  ·obtain ⟨m,rfl⟩ : ∃ m,n=m+1:=⟨n-1,by omega⟩
   obtain ⟨x,hx⟩ : ∃ x,p[m]? = some x:=⟨_,zE (by omega)⟩;have fj:x=0:=by
    rcases Classical.em (x=0) with h|h
    ·exact h
    ·exact (hz (Or.inr ⟨m,x,rfl,hx,h⟩)).elim
   have js:p[((m+1:Nat)-1:Int).toNat]? = some x:=by rw[show ((m+1:Nat)-1:Int).toNat=m by omega];exact hx
   have jz:=P7 N.toa5 (yc.at hx) (by omega);have hs:=NV (x:=x);generalize v5 x.num=s at *;have hS : ∀ v,p[((m+1:Nat)-1:Int).toNat]? = some v->Ev L 97 [.agg (eQ v)] (.int .i64 s):=λ v h=>by
    obtain rfl:=Option.some.inj (js.symm.trans h);exact jz
   have pg:=hs.2 fj;(repeat' ((first|(apply AH<;>intro hc<;>try omega)|(apply BA;omega)|(apply BN;omega)|(refine PS ?_ (λ_=>rfl) (λ v hv => ?_);omega)|apply AD|refine AG (hS _ hv) ?_)<;>conv=>whnf))
   rw[show ((m+1:Nat):Int)-1=(m:Int) by omega];exact B2 [] (ih m (by omega) ⟨by omega,by rw[p2,EN,if_pos (by rw[List.getD_eq_getElem?_getD,hx];exact fj)]⟩)
theorem uU (N:u4 L) (SW:CP) (S:C1) (eg:SW.v=S) (n kz B:Nat) (h:S.Ok n kz) (hF:SW.Fit kz) (af:DW SW=true) (hn:n<=5) (hB:B<=10000000000) (Rg:kz<=1000000000)
  (oz : ∀ k,k<=n->Ms B (EY S.a n k)) (Bq : ∀ k,k<n->Ms B (FO S.a (EY S.a n k) n)) (xm : ∀ k,k<n->Bt B (OI S.a n k)) (ug : ∀ k,k<n -> ∀ e,e<=n->Bt B (I2 (FO S.a (EY S.a n k) n) e)) :
  Ev L 189 [.agg (E6 SW)] (.e7 [.agg [.sl false ((Z6 S n).map eQ),.sl false ((Z5 S n).map eQ)],.int .i64 0]):=by
 obtain ⟨d1,d2,d3,d4⟩:=PH.1 af;have jk:=OQ N.toe5 SW (by omega);rw[af]at jk;have zj:SW.c.map A3.v=S.c:=by rw[<-eg];rfl
 have zi:SW.b.map A3.v=S.b:=by rw[<-eg];rfl
 have ui:SW.d.v=S.d:=by rw[<-eg];rfl
 have zh : ∀ (j:Nat) (r:List A3),SW.a[j]? = some r->S.a[j]? = some (r.map A3.v)/\Fs kz r:=λ j r hr=>⟨by rw[<-eg];exact aB hr,hF.1 r (zM hr)⟩
 have gv:=h.la;have xy:=h.lb;have dh:=h.lc;have Da:SW.a.length=n:=by rw[<-gv,<-eg];exact (VS rfl).symm
 have mq:SW.c.length=n:=by omega
 have Og:SW.b.length=n:=by omega
 clear eg d1 d2 d3 d4 xy dh;have hO:=OU N.toa5 0 (by omega);have hI:=OU N.toa5 1 (by omega);refine Ev.x N.G3 rfl rfl ?_;(repeat' ((first|(apply AH<;>intro hc<;>try omega)|apply AQ|apply AD|refine AG (jk) ?_|refine AG (hO) ?_|refine AG (hI) ?_)<;>conv=>whnf))
 refine ES 1000 N.KI rfl rfl ?_;(repeat' (apply AD<;>conv=>whnf))
 unfold DP;refine ⟨⟨by omega,by omega,by simp only[FF];omega,by omega⟩,?_⟩;rw[Int.toNat_natCast];(conv=>whnf)
 have hZ:=wP N.toe5 SW.a.length (by omega);refine V0 (enc:=eQ) SW.a.length hZ (by simp) ?_;(conv=>whnf)
 refine V0 (enc:=eQ) SW.a.length hZ (by simp) ?_;(conv=>whnf)
 (repeat' (refine AG (hO) ?_<;>conv=>whnf))
 subst Da;have hm:S.a.length=SW.a.length:=gv;generalize vg:SW.a.length=m at *;refine DL (λ t=>m-t) (λ(t:Nat)=>t<=m) (λ t=>[(16,.int .i64 t)]) (λ t=>[(145006,145006,.mx (List.replicate t (some (3,(List.replicate m (0:Rat)).map eQ))++List.replicate (m-t) none))]) 0 (by omega) ?_;intro t p4 th;by_cases ht:t<m
 ·(repeat' ((first|(apply AH<;>intro hc<;>try omega)|apply AD)<;>conv=>whnf))
  refine V0 (enc:=eQ) m hZ (by simp) ?_;(conv=>whnf)
  (repeat' ((first|(apply BA;omega)|fail)<;>conv=>whnf))
  unfold AX DM;refine ⟨by simp,by simp;omega,?_⟩;(conv=>whnf)
  rw[show 0+((t:Int)).toNat=t by omega,fX _ _ p4 ht];(repeat' ((first|(apply A2;omega)|fail)<;>conv=>whnf))
  exact B2 [] (th (t+1) (by omega) (by omega))
 obtain rfl:t=m:=by omega
 clear th;rw[show List.replicate t (some (3,List.map eQ (List.replicate t 0)))++List.replicate (t-t) none=FZ 3 eQ (H4 t 0) by rw[xX];simp [FZ]];(repeat' ((first|(apply AH<;>intro hc<;>try omega)|apply AD)<;>conv=>whnf))
 refine ⟨rfl,?_⟩;(conv=>whnf)
 skip
 refine DL (λ i=>t-i) (λ(i:Nat)=>i<=t) (λ i=>[(34,.int .i64 i)]) (λ i=>[(145006,145006,.mx (FZ 3 eQ (H4 t i)))]) 0 (by omega) ?_;intro i p1 ih;by_cases hi:i<t
 ·have qj:=xU hi
  have g8:=xW hi;have z8:=gP t i;generalize H4 t i=I0 at *;(repeat' ((first|(apply AH<;>intro hc<;>try omega)|(apply BA;omega)|(refine PR ?_ (λ r hr => ?_);omega)|apply AD|refine AG (hI) ?_)<;>conv=>whnf))
  cases qj.symm.trans hr;refine BA (by rw[List.length_map,List.length_replicate];omega) ?_;(conv=>whnf)
  (repeat' ((first|refine N4 (by assumption) ?_|fail)<;>conv=>whnf))
  refine GI (enc:=eQ) 1 rfl (λ_=>rfl) (by rw[List.length_replicate];omega) ?_;(conv=>whnf)
  refine V9 (by rw[List.length_set]) ?_;rw[g8];(conv=>whnf)
  (repeat' ((first|(apply A2;omega)|fail)<;>conv=>whnf))
  exact B2 [] (ih (i+1) (by omega) (by omega))
 obtain rfl:i=t:=by omega
 clear ih;rw[xV];rw[show ([[AV.bool (decide (((1:Int):Rat).num<0)),AV.sl false ((dg ((1:Int):Rat).num.natAbs).map AJ),AV.sl false ((dg ((1:Int):Rat).den).map AJ)]]:List (List AV))=(EK S.a i 0).map eQ from rfl,
  show ([[AV.bool (decide (((0:Int):Rat).num<0)),AV.sl false ((dg ((0:Int):Rat).num.natAbs).map AJ),AV.sl false ((dg ((0:Int):Rat).den).map AJ)]]:List (List AV))=(HZ S i 0).map eQ from rfl]
 (repeat' ((first|(apply AH<;>intro hc<;>try omega)|apply AD)<;>conv=>whnf))
 have Ej:Sq i S.a:=⟨hm,h.lr⟩;refine aG [145002,145003] ?_;refine IH (λ k _=>i-k) (λ(k _:Nat)=>k<=i) (λ k _=>[(9,.int .i64 ((k+1:Nat):Int)),(5,.row 27 0 3 0 (k+1)),(6,.row 29 0 3 0 (k+1)),(7,.row 145006 0 1 0 i)]) (λ k t=>[(27,27,.rw 3 ((EK S.a i k).map eQ)),(29,29,.rw 3 ((HZ S i k).map eQ)),(145006,t,.mx (FZ 3 eQ (EY S.a i k)))]) 0 145006 (by omega) ?_;intro k t p2 kh;by_cases hk:k<i
 ·have b1:=oz k (by omega)
  have b2:=Bq k hk;have b3:=xm k hk;have b4:=ug k hk;have zu:=Sq.fl (a:=S.a) hm k;have Qv:=zu.l;have dt:EY S.a i (k+1)=w4 (FO S.a (EY S.a i k) i) (OI S.a i k) i:=rfl;have Nh:OI S.a i k=I2 (FO S.a (EY S.a i k) i) i*Rat.divInt (-1) ((k+1:Nat):Int):=rfl;have xd:=pR S i k;have Nf:=qH S.a i k;have xf:=WC S i k;have jm:=WH S.a i k;have zw:=Sq.mul hm (EY S.a i k);generalize EY S.a i k=Mk at *;generalize OI S.a i k=ck at *;generalize HZ S i k=ab at *;generalize EK S.a i k=be at *;(repeat' ((first|(apply AH<;>intro hc<;>try omega)|apply AD)<;>conv=>whnf))
  refine DQ (enc:=eO) none i rfl rfl (by omega) ?_;(conv=>whnf)
  skip
  have Nu:=Jo Mk S.b;have Cv : ∀ (j:Nat) row,Mk[j]? = some row->(H6 Mk S.b)[j]? = some (B0 row S.b):=λ j row hr=>by rw[H6,List.getElem?_map,hr];rfl
  have tk:Bs (5*(B+kz+1)) (H6 Mk S.b):=by
   intro x hx;obtain ⟨r,hr,rfl⟩:=List.mem_map.1 hx;refine ((b1 r hr).dot h.bb).le ?_;rw[zu.r r hr];exact Nat.mul_le_mul hn (by omega)
  refine GF (λ j=>i-j) (λ(j:Nat)=>j<=i) (λ j=>[(53,.int .i64 j)]) (λ j=>[(51,51,.rw 3 ((EH ((H6 Mk S.b).take j) i).map eO))]) [] [] 0 (by first|exact (by (conv=>whnf);exact ⟨rfl,rfl,rfl⟩)|(rw[List.take_zero,<-L5];exact (by (conv=>whnf);exact ⟨rfl,rfl,rfl⟩))) (by omega) ?_;intro j q1 jh;by_cases hj:j<i
  ·obtain ⟨row,q6⟩ : ∃ row,Mk[j]? = some row:=⟨_,zE (by omega)⟩
   have dj:=zu.at q6;have hy:=Cv j row q6;have hP:=λ q q'=>RW N.toe5 (wR row) SW.b q q' B kz (by rw[wR,List.length_map,dj];omega) (Fs.of (b1.at q6) (by omega)) hF.2.1 (by rw[wR,List.length_map,dj];have:=zR (B+kz+1) hn;omega) (by rw[wR,List.length_map];omega)
   simp only[ON,PJ,zi]at hP;have Am:=JC (l:=(H6 Mk S.b).take j) (m:=i) (by rw[List.length_take];omega);have g8:=L6 (l:=(H6 Mk S.b).take j) (m:=i) (x:=B0 row S.b) (by rw[List.length_take];omega);rw[List.length_take,Nat.min_eq_left (by omega),<-I1 hy]at g8;(repeat' ((first|(apply AH<;>intro hc<;>try omega)|(apply BA;omega)|(refine C8 (λ_=>rfl) rfl ?_ ?_;(first|rfl|simp))|(refine PR ?_ (λ r hr => ?_);omega)|refine N4 (by assumption) ?_|apply AD)<;>conv=>whnf))
   cases q6.symm.trans hr;(repeat' ((first|(apply BA;omega)|refine AG (hP _ _) ?_)<;>conv=>whnf))
   refine GI (enc:=eO) (some (B0 row S.b)) rfl (λ e=>by cases e<;>rfl) (by omega) ?_;(conv=>whnf)
   (repeat' ((first|(apply A2;omega)|fail)<;>conv=>whnf))
   rw[g8];exact B2 [] (jh (j+1) (by omega) (by omega))
  obtain rfl:j=i:=by omega
  clear jh;rw[zT (by omega),L4 (by omega)];have hP:=λ q q'=>RW N.toe5 SW.c (wR (H6 Mk S.b)) q q' kz (5*(B+kz+1)) (by rw[wR,List.length_map];omega) hF.2.2.1 (Fs.of tk (by omega)) (by rw[mq];have:=zR (kz+5*(B+kz+1)+1) hn;omega) (by omega)
  simp only[ON,PJ,zj]at hP;generalize H6 Mk S.b=Qf at *;generalize B0 S.c Qf=av at *;(repeat' ((first|(apply AH<;>intro hc<;>try omega)|apply AD)<;>conv=>whnf))
  refine C8 (enc:=eQ) (λ_=>rfl) rfl (by omega) ?_;(conv=>whnf)
  (repeat' ((first|apply EW|refine AG (hP _ _) ?_)<;>conv=>whnf))
  refine ER (enc:=eQ) av rfl xf.symm rfl (by omega) (by omega) ?_;rw[<-xd,WC];(conv=>whnf)
  skip
  refine FA 1000 N.KG rfl rfl ?_;(repeat' ((first|apply AQ|apply AD)<;>conv=>whnf))
  unfold DP;refine ⟨⟨by omega,by omega,by simp only[FF];omega,by omega⟩,?_⟩;rw[Int.toNat_natCast];(conv=>whnf)
  (repeat' (apply AQ<;>conv=>whnf))
  rw[vg];refine DQ (enc:=eO) none j rfl rfl (by omega) ?_;(conv=>whnf)
  (repeat' (apply AQ<;>conv=>whnf))
  rw[vg];refine DL (λ u=>j-u) (λ(u:Nat)=>u<=j) (λ u=>[(19,.int .i64 u)]) (λ u=>[(188013,188013,.mx (List.replicate u (some (3,(EH [] j).map eO))++List.replicate (j-u) none))]) 0 (by omega) ?_;intro u r1 uh;by_cases hu:u<j
  ·(repeat' ((first|(apply AH<;>intro hc<;>try omega)|apply AQ|apply AD)<;>conv=>whnf))
   rw[vg];refine DQ (enc:=eO) none j rfl rfl (by omega) ?_;(conv=>whnf)
   (repeat' ((first|(apply BA;omega)|fail)<;>conv=>whnf))
   unfold AX DM;refine ⟨by simp,by simp;omega,?_⟩;(conv=>whnf)
   rw[show 0+((u:Int)).toNat=u by omega,<-L5,fX _ _ r1 hu];(repeat' ((first|(apply A2;omega)|fail)<;>conv=>whnf))
   exact B2 [] (uh (u+1) (by omega) (by omega))
  obtain rfl:u=j:=by omega
  clear uh;have Bp : ∀ (e:Nat) row,S.a[e]? = some row->(FO S.a Mk u)[e]? = some (MV row Mk u):=λ e row hr=>by rw[FO,List.getElem?_map,hr];rfl
  have Fl:=zw.l;rw[show List.replicate u (some (3,List.map eO (EH [] u)))++List.replicate (u-u) none=FZ 3 eO (ot (FO S.a Mk u) u 0 0) by rw[Kf,Fl];simp [FZ]];generalize Qw:FO S.a Mk u=P at *;(repeat' ((first|(apply AH<;>intro hc<;>try omega)|apply AQ|apply AD)<;>conv=>whnf))
  rw[vg];refine IH (λ c _=>u-c) (λ(c:Nat) (pv:List (Option Rat))=>c<=u/\pv.length=u) (λ c _=>[(31,.int .i64 c)]) (λ c pv=>[(188013,188013,.mx (FZ 3 eO (ot P u c 0))),(188016,188016,.rw 3 (pv.map eO))]) 0 (List.replicate u none) ⟨by omega,by simp⟩ ?_;intro c pv ⟨r2,r3⟩ ch;by_cases jo:c<u
  ·have Fv:=rF Mk c
   (repeat' ((first|(apply AH<;>intro hc<;>try omega)|apply AQ|apply AD)<;>conv=>whnf))
   rw[vg];refine GF (λ e=>u-e) (λ(e:Nat)=>e<=u) (λ e=>[(36,.int .i64 e)]) (λ e=>[(188016,188016,.rw 3 ((cf (GJ Mk c) pv e).map eO))]) [] [] 0 (by first|exact (by (conv=>whnf);exact ⟨rfl,rfl,rfl⟩)|(rw[qU];exact (by (conv=>whnf);exact ⟨rfl,rfl,rfl⟩))) (by omega) ?_;intro e r4 eh;by_cases Af:e<u
   ·obtain ⟨row,q6⟩ : ∃ row,Mk[e]? = some row:=⟨_,zE (by omega)⟩
    have dj:=zu.at q6;obtain ⟨x,hx⟩ : ∃ x,row[c]? = some x:=⟨_,zE (by omega)⟩;have Nk:(GJ Mk c)[e]? = some x:=by rw[GJ,List.getElem?_map,q6,Option.map_some,OX hx]
    have n0:=qS (l:=GJ Mk c) (by omega) r3 r4;have g8:=qT r3 Nk Af;(repeat' ((first|(apply AH<;>intro hc<;>try omega)|(apply BA;omega)|(refine PR ?_ (λ r hr => ?_);omega)|apply AD)<;>conv=>whnf))
    cases q6.symm.trans hr;refine BA (by rw[List.length_map];omega) ?_;(conv=>whnf)
    (repeat' ((first|(apply BA;omega)|(refine Q6 ?_ (λ_=>rfl) (λ v hv => ?_);omega)|refine N4 (by assumption) ?_)<;>conv=>whnf))
    cases hx.symm.trans hv;refine GI (enc:=eO) (some x) rfl (λ e=>by cases e<;>rfl) (by omega) ?_;(conv=>whnf)
    (repeat' ((first|(apply A2;omega)|fail)<;>conv=>whnf))
    rw[g8];exact B2 [] (eh (e+1) (by omega) (by omega))
   obtain rfl:e=u:=by omega
   clear eh;rw[qR (by omega) r3,iO];(repeat' ((first|(apply AH<;>intro hc<;>try omega)|apply AQ|apply AD)<;>conv=>whnf))
   rw[vg];refine DL (λ f=>e-f) (λ(f:Nat)=>f<=e) (λ f=>[(52,.int .i64 f)]) (λ f=>[(188013,188013,.mx (FZ 3 eO (ot P e c f)))]) 0 (by omega) ?_;intro f r5 fh;by_cases Np:f<e
   ·obtain ⟨np,qy⟩ : ∃ row,SW.a[f]? = some row:=⟨_,zE (by omega)⟩
    have Gq:SW.a[(f:Int).toNat]? = some np:=qy;obtain ⟨q6,yu⟩:=zh f np qy;have dj:=Ej.at q6;have nc:np.length=e:=by have:=dj;rwa [List.length_map]at this
    have Fk:=λ q q'=>RW N.toe5 np (wR (GJ Mk c)) q q' kz B (by rw[wR,List.length_map];omega) yu (Fs.of (b1.Bi c) (by omega)) (by rw[nc];have:=zR (kz+B+1) hn;omega) (by omega)
    simp only[ON,PJ]at Fk;generalize np.map A3.v=row at *;have Fm:=Bp f row q6;have Gm:=U0 (n:=e) (j:=c) (i:=f) Fm;rw[if_neg (by omega)]at Gm;have Ox:=Ke (n:=e) (j:=c) Fm;have vi:=SE P e c f;have On:(MV row Mk e)[c]? = some (B0 row (GJ Mk c)):=by rw[MV,List.getElem?_map,List.getElem?_range jo];rfl
    have lg:=jA row Mk e;have Am:=JC (l:=(MV row Mk e).take c) (m:=e) (by rw[List.length_take];omega);have g8:=L6 (l:=(MV row Mk e).take c) (m:=e) (x:=B0 row (GJ Mk c)) (by rw[List.length_take];omega);rw[List.length_take,Nat.min_eq_left (by omega),<-I1 On]at g8;generalize ot P e c f=O at *;(repeat' ((first|(apply AH<;>intro hc<;>try omega)|(apply BA;omega)|(refine BH (by assumption) ?_ rfl ?_;omega)|(refine PR ?_ (λ r hr => ?_);omega)|apply AD)<;>conv=>whnf))
    cases Gm.symm.trans hr;refine C8 (enc:=eQ) (λ_=>rfl) rfl (by omega) ?_;(conv=>whnf)
    (repeat' (refine AG (Fk _ _) ?_<;>conv=>whnf))
    have Oj:=JC (l:=(MV row Mk e).take (c+1)) (m:=e) (by rw[List.length_take];omega);refine BA (by rw[List.length_map];omega) ?_;(conv=>whnf)
    (repeat' ((first|refine N4 (by assumption) ?_|fail)<;>conv=>whnf))
    refine GI (enc:=eO) (some (B0 row (GJ Mk c))) rfl (λ e=>by cases e<;>rfl) (by omega) ?_;(conv=>whnf)
    rw[g8];refine V9 (by omega) ?_;rw[Ox];(conv=>whnf)
    (repeat' ((first|(apply A2;omega)|fail)<;>conv=>whnf))
    exact B2 [] (fh (f+1) (by omega) (by omega))
   obtain rfl:f=e:=by omega
   clear fh;have yi:=Kd P f c;rw[Fl]at yi;rw[yi,<-iO (GJ Mk c)];(repeat' ((first|(apply AH<;>intro hc<;>try omega)|(apply A2;omega)|apply AD)<;>conv=>whnf))
   exact B2 [] (ch (c+1) ((GJ Mk c).map some) (by omega) ⟨by omega,by rw[List.length_map];omega⟩)
  obtain rfl:c=u:=by omega
  clear ch;rw[Kc zw.r];(repeat' ((first|(apply AH<;>intro hc<;>try omega)|apply AD)<;>conv=>whnf))
  refine ⟨rfl,_,rfl,?_⟩;(conv=>whnf)
  (repeat' (refine AG (hO) ?_<;>conv=>whnf))
  have ug:((0:Int):Rat)=I2 P 0:=rfl;rw[ug];refine DL (λ e=>c-e) (λ(e:Nat)=>e<=c) (λ e=>[(80,.int .i64 e)]) (λ e=>[(12,12,.bx (eQ (I2 P e)))]) 0 (by omega) ?_;intro e r4 eh;by_cases Af:e<c
  ·obtain ⟨row,q6⟩ : ∃ row,P[e]? = some row:=⟨_,zE (by omega)⟩
   have dj:=zw.at q6;obtain ⟨x,hx⟩ : ∃ x,row[e]? = some x:=⟨_,zE (by omega)⟩;have Aq:I2 P (e+1)=I2 P e+x:=by rw[I2,gG q6,OX hx]
   have Bf:=b4 e (by omega);have hA:=P5 N.toa5 Bf ((b2.at q6).at hx) (by omega) (by omega);rw[<-Aq]at hA;(repeat' ((first|(apply AH<;>intro hc<;>try omega)|(apply BA;omega)|(refine PR ?_ (λ r hr => ?_);omega)|apply AD)<;>conv=>whnf))
   cases q6.symm.trans hr;refine BA (by rw[List.length_map];omega) ?_;(conv=>whnf)
   (repeat' ((first|(refine Q6 ?_ (λ_=>rfl) (λ v hv => ?_);omega)|refine N4 (by assumption) ?_)<;>conv=>whnf))
   cases hx.symm.trans hv;(repeat' ((first|(apply A2;omega)|refine AG (hA) ?_)<;>conv=>whnf))
   exact B2 [] (eh (e+1) (by omega) (by omega))
  obtain rfl:e=c:=by omega
  clear eh;have Bf:=b4 e (by omega);have hF:=uP N.tocg (-1) ((k+1:Nat):Int) (by omega) (by omega) (by omega);have hM:=vG N.toa5 Bf (qN (k:=k+1) (by omega)) (by omega) (by omega);rw[<-Nh]at hM;(repeat' ((first|(apply AH<;>intro hc<;>try omega)|apply AD|refine AG (hF) ?_|refine AG (hM) ?_)<;>conv=>whnf))
  have ag:=pU P ck;refine GF (λ f=>e-f) (λ(f:Nat)=>f<=e) (λ f=>[(98,.int .i64 f)]) (λ f=>[(188013,188013,.mx (FZ 3 eQ (w4 P ck f)))]) [] [] 0 (by first|exact (by (conv=>whnf);exact ⟨rfl,rfl,rfl⟩)|(rw[ag];exact (by (conv=>whnf);exact ⟨rfl,rfl,rfl⟩))) (by omega) ?_;intro f r5 fh;by_cases Np:f<e
  ·obtain ⟨row,q6⟩ : ∃ row,P[f]? = some row:=⟨_,zE (by omega)⟩
   have dj:=zw.at q6;obtain ⟨x,hx⟩ : ∃ x,row[f]? = some x:=⟨_,zE (by omega)⟩;have hA:=P5 N.toa5 ((b2.at q6).at hx) b3 (by omega) (by omega);have yi:=pS (c:=ck) q6;have Gv:=pT (c:=ck) q6;rw[OX hx]at Gv;have Ra:=OA P ck f;generalize w4 P ck f=D0 at *;(repeat' ((first|(apply AH<;>intro hc<;>try omega)|(apply BA;omega)|(refine PR ?_ (λ r hr => ?_);omega)|apply AD)<;>conv=>whnf))
   cases yi.symm.trans hr;cases yi.symm.trans ‹D0[f]? = some r›;refine BA (by rw[List.length_map];omega) ?_;(conv=>whnf)
   (repeat' ((first|(refine Q6 ?_ (λ_=>rfl) (λ v hv => ?_);omega)|refine N4 (by assumption) ?_)<;>conv=>whnf))
   cases hx.symm.trans hv;(repeat' (refine AG (hA) ?_<;>conv=>whnf))
   refine BA (by rw[List.length_map];omega) ?_;(conv=>whnf)
   (repeat' ((first|refine N4 (by assumption) ?_|fail)<;>conv=>whnf))
   refine GI (enc:=eQ) (x+ck) rfl (λ_=>rfl) (by omega) ?_;(conv=>whnf)
   refine V9 (by rw[List.length_set]) ?_;rw[<-Gv];(conv=>whnf)
   (repeat' ((first|(apply A2;omega)|fail)<;>conv=>whnf))
   exact B2 [] (fh (f+1) (by omega) (by omega))
  obtain rfl:f=e:=by omega
  clear fh;rw[<-dt];(repeat' ((first|(apply AH<;>intro hc<;>try omega)|apply EW|apply AD)<;>conv=>whnf))
  refine ER (enc:=eQ) ck rfl jm.symm rfl (by omega) (by omega) ?_;rw[<-Nf,WH];(conv=>whnf)
  (repeat' ((first|(apply A2;omega)|fail)<;>conv=>whnf))
  exact B2 [(145006,188013),(27,120),(29,73)] (kh (k+1) 188013 (by omega) (by omega))
 obtain rfl:k=i:=by omega
 clear kh;have sw:Bs B (EK S.a k k):=by
  intro x hx;simp only[EK,List.mem_cons,List.mem_map,List.mem_range]at hx;rcases hx with rfl|⟨j,hj,rfl⟩
  ·exact Bt.one _
  ·exact xm j hj
 have Ca:Bs (5*(kz+5*(B+kz+1)+1)) (HZ S k k):=by
  intro x hx;simp only[HZ,List.mem_cons,List.mem_map,List.mem_range]at hx;rcases hx with rfl|⟨j,hj,rfl⟩
  ·exact Bt.zero _
  ·have tk:Bs (5*(B+kz+1)) (H6 (EY S.a k j) S.b):=by
    intro x hx;obtain ⟨r,hr,rfl⟩:=List.mem_map.1 hx;refine (((oz j (by omega)) r hr).dot h.bb).le ?_;rw[(Sq.fl hm j).r r hr];exact Nat.mul_le_mul hn (by omega)
   refine (h.bc.dot tk).le ?_;rw[h.lc];exact zR _ hn
 have jm:=WH S.a k k;have xf:=WC S k k;have Om:Bs (B+kz) ((EK S.a k k).map (· * S.d)):=by
  intro y hy;obtain ⟨x,hx,rfl⟩:=List.mem_map.1 hy;exact ((sw x hx).mul h.bd).le (by omega)
 have lg:((EK S.a k k).map (· * S.d)).length=k+1:=by rw[List.length_map];exact jm
 have eu:=Me ((EK S.a k k).map (· * S.d));have w8:=WQ ((EK S.a k k).map (· * S.d)) ((EK S.a k k).map (· * S.d)).length;have Mt:=λ q=>vX N q (EK S.a k k) SW.d S.d ui B kz sw hF.2.2.2 (by omega) (by omega)
 have Ml:=λ q q'=>vW N q q' (HZ S k k) (FI ((EK S.a k k).map (· * S.d))) (5*(kz+5*(B+kz+1)+1)) (B+kz) Ca Om.trim (by omega) (by omega) (by omega)
 have Mv:=λ q=>vY N.toak q (EK S.a k k) B sw (by omega) (by omega)
 have Cq:AZ (.e7 [.agg [.sl false ((Z6 S k).map eQ),.sl false ((Z5 S k).map eQ)],.int .i64 0]):=by
  simp only[AZ,CG,true_and,and_true];exact ⟨I4 _,I4 _⟩
 unfold Z6 Z5 at *;generalize FI (H0 (HZ S k k) (FI ((EK S.a k k).map (· * S.d))))=rB at *;generalize FI ((EK S.a k k).map (· * S.d))=sc at *;generalize FI (EK S.a k k)=rA at *;(repeat' ((first|(apply AH<;>intro hc<;>try omega)|apply AD)<;>conv=>whnf))
 refine C8 (enc:=eQ) (λ_=>rfl) rfl jm.symm ?_;(conv=>whnf)
 (repeat' (refine AG (Mt _) ?_<;>conv=>whnf))
 refine C8 (enc:=eQ) (λ_=>rfl) rfl xf.symm ?_;(conv=>whnf)
 (repeat' (refine AG (Ml _ _) ?_<;>conv=>whnf))
 refine C8 (enc:=eQ) (λ_=>rfl) rfl jm.symm ?_;(conv=>whnf)
 (repeat' (refine AG (Mv _) ?_<;>conv=>whnf))
 exact AU rfl Cq
end Go.c8
namespace Go.c8
theorem xQ {cs:List AV} (h:EV false tI cs) : ∃ n,cs=GK n/\IL n:=by obtain ⟨n,rfl,hw⟩:=h;exact ⟨n,rfl,Ku hw⟩
theorem xS {cs:List AV} (h:EV false (.int .u32) cs) : ∃ n:Nat,cs=AJ n/\n<4294967296:=by
 obtain ⟨n,rfl,hw⟩:=h;simp only[Lit.wf,Bool.and_eq_true,decide_eq_true_eq]at hw;have h1:IntKind.u32.min=0:=rfl;have h2:IntKind.u32.max=4294967295:=rfl;rw[h1,h2]at hw;obtain ⟨k,rfl⟩ : ∃ k:Nat,n=k:=⟨n.toNat,by omega⟩;exact ⟨k,rfl,by omega⟩
abbrev QV:Ty := .sl (.int .u32)
abbrev IC:Ty := .cons (.cons .bool (.cons QV .nil)) (.cons QV .nil)
def A3.Raw (w:A3):Prop:=(AR w.m/\w.m.length<9223372036854775808)/\AR w.d/\w.d.length<9223372036854775808
def A3.sz (w:A3):Nat:=w.m.length+w.d.length
theorem X5 {α:Type} {enc:α->List AV} {p:α->Prop} {e:Ty} {cs:List AV} (g:α->Nat) (he : ∀ x,EV false e x -> ∃ y,x=enc y/\p y/\g y<=C9 e x) (h:EV false (.sl e) cs) : ∃ l:List α,cs=[.sl false (l.map enc)]/\(l.length<9223372036854775808 /\ ∀ y∈l,p y)/\(l.map g).sum<=C9 (.sl e) cs:=by
 obtain ⟨es,rfl,hl,hx⟩:=h;obtain ⟨l,rfl,hp⟩:=iK (enc:=enc) (p:=λ y=>p y/\g y<=C9 e (enc y)) λ x hm=>by
  obtain ⟨y,h1,h2,h3⟩:=he x (hx x hm);exact ⟨y,h1,h2,h1 ▸ h3⟩
 refine ⟨l,rfl,⟨?_,λ y hy=>(hp y hy).1⟩,?_⟩
 ·have:maxLen=9223372036854775807:=rfl
  simp at hl;omega
 ·simp only[C9,List.map_map]
  have : ∀ l:List α,(∀ y∈l,g y<=C9 e (enc y))->(l.map g).sum<=(l.map (C9 e ∘ enc)).sum:=λ l=>by
   induction l with
   | nil=>intro _;exact Nat.le_refl _
   | cons y l ih =>
    intro h;simp only[List.map_cons,List.sum_cons];exact Nat.add_le_add (h y List.mem_cons_self) (ih λ z hz=>h z (List.mem_cons_of_mem _ hz))
  exact Nat.le_trans (this l λ y hy=>(hp y hy).2) (Nat.le_succ _)
theorem Ly {α:Type} (l:List α):(l.map λ_=>1).sum=l.length:=by
 induction l with
 | nil=>rfl
 | cons a l ih=>rw[List.map_cons,List.sum_cons,ih,List.length_cons,Nat.add_comm]
theorem gM {cs:List AV} (h:EV false QV cs) : ∃ l:List Nat,cs=[.sl false (l.map AJ)]/\(l.length<9223372036854775808 /\ ∀ d∈l,d<4294967296)/\l.length<=C9 QV cs:=by
 obtain ⟨l,h1,h2,h3⟩:=X5 (enc:=AJ) (p:=λ n=>n<4294967296) (λ_=>1) (λ x hx=>by
  obtain ⟨n,h1,h2⟩:=xS hx;exact ⟨n,h1,h2,Nat.le_refl _⟩) h
 rw[Ly]at h3;exact ⟨l,h1,h2,h3⟩
theorem gN {cs:List AV} (h:EV false IC cs) : ∃ w:A3,cs=eW w/\w.Raw/\w.sz<=C9 IC cs:=by
 obtain ⟨_,_,rfl,⟨_,_,rfl,⟨b,rfl⟩,_,_,rfl,h1,rfl⟩,_,_,rfl,h2,rfl⟩:=h;obtain ⟨m,rfl,⟨l1,d1⟩,z1⟩:=gM h1;obtain ⟨d,rfl,⟨l2,d2⟩,z2⟩:=gM h2;refine ⟨⟨b,m,d⟩,rfl,⟨⟨d1,l1⟩,d2,l2⟩,?_⟩;have e:C9 IC ([AV.bool b]++([AV.sl false (m.map AJ)]++[])++([AV.sl false (d.map AJ)]++[]))=(1+(C9 QV [AV.sl false (m.map AJ)]+0))+(C9 QV [AV.sl false (d.map AJ)]+0):=rfl;rw[e];show m.length+d.length<=_;omega
abbrev Z2:Ty := .cons (.sl (.sl IC)) (.cons (.sl IC) (.cons (.sl IC) (.cons IC .nil)))
def ED (r:List A3):Nat:=(r.map A3.sz).sum
def CP.sz (S:CP):Nat:=(S.a.map ED).sum+(ED S.b+(ED S.c+S.d.sz))
def RA (r:List A3):Prop:=r.length<9223372036854775808 /\ ∀ w∈r,w.Raw
def CP.Raw (S:CP):Prop:=(S.a.length<9223372036854775808 /\ ∀ r∈S.a,RA r)/\RA S.b/\RA S.c/\S.d.Raw
theorem X4 {cs:List AV} (h:EV false (.sl IC) cs) : ∃ r:List A3,cs=[.sl false (r.map eW)]/\RA r/\ED r<=C9 (.sl IC) cs:=X5 A3.sz (λ_=>gN) h
theorem xR {cs:List AV} (h:EV false Z2 cs) : ∃ S:CP,cs=E6 S/\S.Raw/\S.sz<=C9 Z2 cs:=by
 obtain ⟨_,_,rfl,ha,_,_,rfl,hb,_,_,rfl,hc,_,_,rfl,hd,rfl⟩:=h;obtain ⟨a,rfl,ra,za⟩:=X5 (enc:=λ r:List A3=>[AV.sl false (r.map eW)]) (p:=RA) ED (λ_=>X4) ha;obtain ⟨b,rfl,rb,zb⟩:=X4 hb;obtain ⟨c,rfl,rc,zc⟩:=X4 hc;obtain ⟨d,rfl,rd,zd⟩:=gN hd;refine ⟨⟨a,b,c,d⟩,by rw[List.append_nil];rfl,⟨ra,rb,rc,rd⟩,?_⟩;have e:C9 Z2 ([AV.sl false (a.map λ r:List A3=>[AV.sl false (r.map eW)])]++([AV.sl false (b.map eW)]++([AV.sl false (c.map eW)]++(eW d++[]))))=C9 (.sl (.sl IC)) [AV.sl false (a.map λ r:List A3=>[AV.sl false (r.map eW)])]+(C9 (.sl IC) [AV.sl false (b.map eW)]+(C9 (.sl IC) [AV.sl false (c.map eW)]+(C9 IC (eW d)+0))):=rfl;rw[e];show (a.map ED).sum+(ED b+(ED c+d.sz))<=_;omega
theorem Z1 {r:List A3} {w:A3} (h:w∈r):w.sz<=ED r:=by
 induction r with
 | nil=>cases h
 | cons a r ih =>
  show _<=a.sz+(r.map A3.sz).sum;rcases List.mem_cons.1 h with rfl|h
  ·omega
  ·have:=ih h
   rw[ED]at this;omega
theorem Lx {α:Type} {g:α->Nat} {l:List α} {x:α} (h:x∈l):g x<=(l.map g).sum:=by
 induction l with
 | nil=>cases h
 | cons a l ih =>
  rw[List.map_cons,List.sum_cons];rcases List.mem_cons.1 h with rfl|h
  ·omega
  ·have:=ih h;omega
theorem U6 {w:A3} {T:Nat} (h:w.Raw) (hz:w.sz<=T) (hT:T<=68719476736):w.Fit (32*T):=by
 have:w.m.length+w.d.length<=T:=hz
 exact A3.Sz.fit (k:=T) ⟨⟨h.1.1,by omega⟩,h.2.1,by omega⟩ hT
theorem Ir {w:A3} (h:w.Raw):Bt (32*w.sz) w.v:=A3.bt (k:=w.sz) ⟨⟨h.1.1,by show _<=w.m.length+w.d.length;omega⟩,h.2.1,by show _<=w.m.length+w.d.length;omega⟩
theorem WW : ∀ a b:List Rat,EX (a++b)=EX a*EX b
 | [],b=>by rw[List.nil_append,EX,Nat.one_mul]
 | x::a,b=>by rw[List.cons_append,EX,EX,WW a b,Nat.mul_assoc]
theorem WY : ∀ r:List A3,(∀ w∈r,w.Raw)->EX (r.map A3.v)<=2^(32*ED r)
 | [],_=>Nat.one_le_two_pow
 | w::r,h=>by
  have e:32*ED (w::r)=32*w.sz+32*ED r:=by show 32*(w.sz+ED r)=_;omega
  rw[List.map_cons,EX,e,Nat.pow_add];exact Nat.mul_le_mul (Ir (h w List.mem_cons_self)).2 (WY r λ x hx=>h x (List.mem_cons_of_mem _ hx))
theorem cX : ∀ a:List (List A3),(∀ r∈a,∀ w∈r,w.Raw)->EX (vM a).flatten<=2^(32*(a.map ED).sum)
 | [],_=>Nat.one_le_two_pow
 | r::a,h=>by
  have e:32*((r::a).map ED).sum=32*ED r+32*(a.map ED).sum:=by rw[List.map_cons,List.sum_cons];omega
  rw[show (vM (r::a)).flatten=r.map A3.v++(vM a).flatten from rfl,WW,e,Nat.pow_add];exact Nat.mul_le_mul (WY r (h r List.mem_cons_self)) (cX a λ x hx=>h x (List.mem_cons_of_mem _ hx))
theorem CP.fit {S:CP} {T:Nat} (h:S.Raw) (hz:S.sz<=T) (hT:T<=68719476736):S.Fit (32*T):=by
 obtain ⟨ra,rb,rc,rd⟩:=h;have oc:(S.a.map ED).sum+(ED S.b+(ED S.c+S.d.sz))<=T:=hz;refine ⟨λ r hr x hx => ?_,λ x hx => ?_,λ x hx => ?_,U6 rd (by omega) hT⟩
 ·have h1:=Z1 hx
  have h2:=Lx (g:=ED) hr;exact U6 ((ra.2 r hr).2 x hx) (by omega) hT
 ·have h1:=Z1 hx
  exact U6 (rb.2 x hx) (by omega) hT
 ·have h1:=Z1 hx
  exact U6 (rc.2 x hx) (by omega) hT
theorem CP.den {S:CP} {T:Nat} (h:S.Raw) (hz:S.sz<=T):EX (S.v.a.flatten++S.v.b)<=2^(32*T)/\EX S.v.a.flatten<=2^(32*T):=by
 obtain ⟨ra,rb,rc,rd⟩:=h;have oc:(S.a.map ED).sum+(ED S.b+(ED S.c+S.d.sz))<=T:=hz;have h1:=cX S.a λ r hr w hw=>(ra.2 r hr).2 w hw
 have h2:=WY S.b rb.2;constructor
 ·rw[show S.v.a.flatten++S.v.b=(vM S.a).flatten++S.b.map A3.v from rfl,WW]
  refine Nat.le_trans (Nat.mul_le_mul h1 h2) ?_;rw[<-Nat.pow_add];exact Nat.pow_le_pow_right (by omega) (by omega)
 ·exact Nat.le_trans h1 (Nat.pow_le_pow_right (by omega) (by omega))
end Go.c8

namespace Go.c8
open F
attribute [local irreducible] AA AF AX AB CQ AY BB A9 BS BR CX D9 BT A1 BP CK AC A5 AL pw C7 CE DM DF DP DU DY BQ DE
set_option maxHeartbeats 8000000
variable {L:Lib}
theorem jS {S:C1} {n kz K:Nat} {KK:Nat->Nat} (h:S.Ok n kz) {st xs:List Rat} (ur:Bs kz xs) (ku : ∀ i,i<=xs.length->Bs (KK i) (S.state st (xs.take i))) (hK : ∀ i,i<xs.length->n*(kz+KK i+1)+(kz+kz)+1<=K) : ∀ i,i<=xs.length->Bs K (S.outs st (xs.take i))
 | 0,_=>by rw[List.take_zero];exact λ x hx=>by cases hx
 | i+1,hi=>by
  have ih:=jS h ur ku hK i (by omega);obtain ⟨x,hx⟩ : ∃ x,xs[i]? = some x:=⟨_,zE (by omega)⟩;rw[I1 hx,U2];intro y hy;rcases List.mem_append.1 hy with hy|hy
  ·exact ih y hy
  ·obtain rfl:=List.mem_singleton.1 hy
   have h1:=h.bc.dot (ku i (by omega));rw[h.lc]at h1;exact (h1.add (h.bd.mul (ur.at hx))).le (by have:=hK i (by omega);omega)
theorem xZ (c:Nat) : ∀ x∈D4 c,x=0\/x=1:=λ x hx=>by
 cases c with
 | zero=>cases hx
 | succ c =>
  rcases List.mem_cons.1 hx with rfl|hx
  ·exact Or.inr rfl
  ·exact Or.inl (List.eq_of_mem_replicate hx)
theorem yA {S:CP} {n T:Nat} (hR:S.Raw) (hz:S.sz<=T) (hT:T<=1048576) (af:DW S=true) (hn:S.a.length=n) (c:Nat):S.Fit (32*T)/\S.v.Ok n (32*T) /\ ∀ i,i<=(D4 c).length->Bs (i*(2*(32*T)+n+1)) (S.v.state (List.replicate n 0) ((D4 c).take i)):=by
 have hF:S.Fit (32*T):=CP.fit hR hz (by omega);have e8:S.v.Ok n (32*T):=hn ▸ CP.ok af hF;refine ⟨hF,e8,λ i hi => ?_⟩;have:=Lo e8 (CP.den hR hz).1 (xs:=(D4 c).take i) (λ x hx=>xZ c x (List.mem_of_mem_take hx))
 rwa [List.length_take,Nat.min_eq_left hi]at this
section
variable (N:u4 L)
include N
theorem bM {S:CP} (hR:S.Raw) {T:Nat} (hz:S.sz<=T) (hT:T<=1048576) (c:Int) (hc : -30<c/\c<30) :
  ∃ (l:List Rat) (e:Int),Ev L 134 [.agg (E6 S),.int .i64 c] (.e7 [.sl false (l.map eQ),.int .i64 e])/\Ev L 140 [.agg (E6 S),.int .i64 c] (.e7 [.sl false (l.map eQ),.int .i64 e]) /\ ∀ q1 q2,Ev L 129 [.sl q1 (l.map eQ),.sl q2 (l.map eQ)] (.bool true):=by
 have hlen:S.a.length<=9223372036854775807/\S.b.length<=9223372036854775807/\S.c.length<=9223372036854775807:=by
  obtain ⟨ra,rb,rc,_⟩:=hR;have:=ra.1;have:=rb.1;have:=rc.1
  omega
 have s1:=OQ N.toe5 S hlen;have s2:=RS N.toe5 S hlen;have hE : ∀ q1 q2,Ev L 129 [.sl q1 (([]:List Rat).map eQ),.sl q2 (([]:List Rat).map eQ)] (.bool true):=λ q1 q2=>by
  have:=eF N.toa8 [] [] q1 q2 0 (λ x hx=>by cases hx) (λ x hx=>by cases hx) (by omega) (by simp)
  rwa [decide_eq_true rfl]at this
 cases hs:DW S
 ·rw[hs]at s1 s2
  refine ⟨[],2,?_,?_,hE⟩
  ·refine Ev.x N.G1 rfl rfl ?_
   (repeat' ((first|apply AD|refine AG (s1) ?_)<;>conv=>whnf))
   exact AU rfl (OG [] 2)
  ·refine Ev.x N.HD rfl rfl ?_
   (repeat' ((first|apply AD|refine AG (s2) ?_)<;>conv=>whnf))
   exact AU rfl (OG [] 2)
 ·have af:=hs
  rw[hs]at s1 s2;by_cases ct:c<0
  ·refine ⟨[],1,?_,?_,hE⟩
   ·refine Ev.x N.G1 rfl rfl ?_
    (repeat' ((first|(apply AH<;>intro hc<;>try omega)|apply AD|refine AG (s1) ?_)<;>conv=>whnf))
    exact AU rfl (OG [] 1)
   ·refine Ev.x N.HD rfl rfl ?_
    (repeat' ((first|(apply AH<;>intro hc<;>try omega)|apply AD|refine AG (s2) ?_)<;>conv=>whnf))
    exact AU rfl (OG [] 1)
  ·obtain ⟨k,rfl⟩ : ∃ k:Nat,c=k:=⟨c.toNat,by omega⟩
   have hk:k<=29:=by omega
   obtain ⟨n,hn⟩ : ∃ n,S.a.length=n:=⟨_,rfl⟩;have my:n<=64:=by have:=(PH.1 af).1;omega
   obtain ⟨hF,e8,ku⟩:=yA hR hz hT af hn k;have z8:=gQ k;have Dg : ∀ i,i<=29->i*(2*(32*T)+n+1)<=1946158941:=λ i hi=>by
    have:=Nat.mul_le_mul hi (show 2*(32*T)+n+1<=67108929 by omega)
    omega
   have Bn : ∀ i,i<(D4 k).length->n*(32*T+i*(2*(32*T)+n+1)+1)+(32*T+32*T)+1<=200000000000:=λ i hi=>by
    have h1:=Dg i (by omega);have:=Nat.mul_le_mul my (show 32*T+i*(2*(32*T)+n+1)+1<=1979713374 by omega)
    omega
   have Mp:=λ q1 q2=>eE N.toe5 S S.v rfl n (32*T) (λ i=>i*(2*(32*T)+n+1)) e8 hF af my (List.replicate n 0) (D4 k) q1 q2 (by simp) (X6 _ k) (by omega) ku (λ i hi=>by have:=Bn i hi;show n*(32*T+i*(2*(32*T)+n+1)+1)+_+1<_;omega) (λ i hi=>by have:=Dg i (by omega);show i*(2*(32*T)+n+1)<_;omega) (by omega)
   have Fo:=λ q1 q2=>eD N.toe5 S S.v rfl n (32*T) (λ i=>i*(2*(32*T)+n+1)) e8 hF af my (List.replicate n 0) (D4 k) q1 q2 (by simp) (X6 _ k) (by omega) ku (λ i hi=>by have:=Bn i hi;show n*(32*T+i*(2*(32*T)+n+1)+1)+_+1<_;omega) (λ i hi=>by have:=Dg i (by omega);show i*(2*(32*T)+n+1)<_;omega) (by omega)
   have Dn:=jS e8 (X6 (32*T) k) ku Bn (D4 k).length (Nat.le_refl _);rw[List.take_length]at Dn;refine ⟨_,0,uR N.toe5 S S.v n (32*T) k e8 hn af my (by omega) Mp,uQ N.toe5 S S.v n k hn af my (by omega) Fo,λ q1 q2 => ?_⟩;have:=eF N.toa8 _ _ q1 q2 200000000000 Dn Dn (by omega) (by rw[U1];omega)
   rwa [decide_eq_true rfl]at this
theorem pZ {S:CP} (hR:S.Raw) {T:Nat} (hz:S.sz<=T) (hT:T<=1048576) (q1 q2:Bool) :
  ∃ e:Int,Ev L 133 [.agg (E6 S),.sl q1 [],.sl q2 []] (.e7 [.sl false [],.sl false [],.int .i64 e])/\Ev L 139 [.agg (E6 S),.sl q1 [],.sl q2 []] (.e7 [.sl false [],.sl false [],.int .i64 e]):=by
 have hlen:S.a.length<=9223372036854775807/\S.b.length<=9223372036854775807/\S.c.length<=9223372036854775807:=by
  obtain ⟨ra,rb,rc,_⟩:=hR;have:=ra.1;have:=rb.1;have:=rc.1
  omega
 have s1:=OQ N.toe5 S hlen;have s2:=RS N.toe5 S hlen;cases hs:DW S
 ·rw[hs]at s1 s2
  refine ⟨2,?_,?_⟩
  ·refine Ev.x N.G2 rfl rfl ?_
   (repeat' ((first|apply AD|refine AG (s1) ?_)<;>conv=>whnf))
   exact AU rfl (PZ [] [] 2)
  ·refine Ev.x N.HE rfl rfl ?_
   (repeat' ((first|apply AD|refine AG (s2) ?_)<;>conv=>whnf))
   exact AU rfl (PZ [] [] 2)
 ·have af:=hs
  rw[hs]at s1 s2;by_cases tu:S.a.length=0
  ·have hF:S.Fit (32*T):=CP.fit hR hz (by omega)
   have e8:S.v.Ok 0 (32*T):=tu ▸ CP.ok af hF;exact ⟨0,eE N.toe5 S S.v rfl 0 (32*T) (λ_=>0) e8 hF af (by omega) [] [] q1 q2 rfl (λ x hx=>by cases hx) (by simp) (λ i hi=>by rw[List.take_nil];exact λ x hx=>by cases hx) (λ i hi=>by simp at hi) (λ i hi=>by show 0<_;omega) (by omega),
    eD N.toe5 S S.v rfl 0 (32*T) (λ_=>0) e8 hF af (by omega) [] [] q1 q2 rfl (λ x hx=>by cases hx) (by simp) (λ i hi=>by rw[List.take_nil];exact λ x hx=>by cases hx) (λ i hi=>by simp at hi) (λ i hi=>by show 0<_;omega) (by omega)⟩
  ·refine ⟨1,?_,?_⟩
   ·refine Ev.x N.G2 rfl rfl ?_
    (repeat' ((first|apply AD|refine AG (s1) ?_)<;>conv=>whnf))
    refine AQ (l:=([]:List Rat)) (enc:=eQ) ?_;rw[show ([]:List Rat).length=0 from rfl];(conv=>whnf)
    (repeat' ((first|(apply AH<;>intro hc<;>try omega)|apply AQ)<;>conv=>whnf))
    exact AU rfl (PZ [] [] 1)
   ·refine Ev.x N.HE rfl rfl ?_
    (repeat' ((first|apply AD|refine AG (s2) ?_)<;>conv=>whnf))
    refine AQ (l:=([]:List Rat)) (enc:=eQ) ?_;rw[show ([]:List Rat).length=0 from rfl];(conv=>whnf)
    (repeat' ((first|(apply AH<;>intro hc<;>try omega)|apply AQ)<;>conv=>whnf))
    exact AU rfl (PZ [] [] 1)
theorem uT {S:CP} (hR:S.Raw) {T:Nat} (hz:S.sz<=T) (hT:T<=1048576) (h5:S.a.length<=5\/16<S.a.length) :
  ∃ a b:List (List AV),Ev L 189 [.agg (E6 S)] (.e7 [.agg [.sl false a,.sl false b],.int .i64 (if DW S=true then (if S.a.length<=16 then 0 else 12) else 2)]):=by
 have hlen:S.a.length<=9223372036854775807/\S.b.length<=9223372036854775807/\S.c.length<=9223372036854775807:=by
  obtain ⟨ra,rb,rc,_⟩:=hR;have:=ra.1;have:=rb.1;have:=rc.1
  omega
 have s1:=OQ N.toe5 S hlen;cases hs:DW S
 ·rw[hs]at s1
  refine ⟨[],[],?_⟩;rw[if_neg (by decide)];refine Ev.x N.G3 rfl rfl ?_;(repeat' ((first|apply AD|refine AG (s1) ?_)<;>conv=>whnf))
  exact AU rfl (by simp [AZ,CG,FB])
 ·have af:=hs
  rw[hs]at s1;rw[if_pos rfl];by_cases hn:S.a.length<=16
  ·rw[if_pos hn]
   obtain ⟨n,hn⟩ : ∃ n,S.a.length=n:=⟨_,rfl⟩;have hF:S.Fit (32*T):=CP.fit hR hz (by omega);have e8:S.v.Ok n (32*T):=hn ▸ CP.ok af hF;have hD:=(CP.den hR hz).2;have hw:MW (EX S.v.a.flatten) (2^(32*T+32*T)) S.v.a:=λ r hr x hx=>lY (List.mem_flatten.2 ⟨r,hr,hx⟩) (e8.ba r hr x hx) hD
   obtain ⟨f1,f2,f3,f4⟩:=wV hw e8.lr (n:=n) (by omega) (Nat.pos_iff_ne_zero.1 (WX _)) hD (by omega);exact ⟨_,_,uU N S S.v rfl n (32*T) (5*(32*T+32*T)+50) e8 hF af (by omega) (by omega) (by omega) f1 f2 f3 f4⟩
  ·rw[if_neg hn]
   refine ⟨[],[],?_⟩;refine Ev.x N.G3 rfl rfl ?_;(repeat' ((first|(apply AH<;>intro hc<;>try omega)|apply AQ|apply AD|refine AG (s1) ?_)<;>conv=>whnf))
   exact AU rfl (by simp [AZ,CG,FB])
end
end Go.c8

namespace Go.c8
open F
attribute [local irreducible] AA AF AX AB CQ AY BB A9 BS BR CX D9 BT A1 BP CK AC A5 AL pw C7 CE DM DF DP DU DY BQ DE
variable {L:Lib}
set_option maxHeartbeats 8000000
theorem vF (N:ft L) (S:CP) (c:Int) (hR:S.Raw) {T:Nat} (hz:S.sz<=T) (hT:T<=1048576) (hc:IL c) :
  Ev L 418 [.agg (E6 S),.int .i64 c] (.bool true):=by
 have hK:=uW N.toj8 N.tov8;have fo:=hR.1.1;have da:=hR.2.1.1;have Cz:=hR.2.2.1.1;obtain ⟨c1,c2⟩:=hc;by_cases Dd:(S.a.length<=5\/62<=S.a.length)/\S.a.length<=70/\S.b.length<=70/\S.c.length<=70
 ·obtain ⟨h1,h2,h3,h4⟩:=Dd
  have s1:=OQ N.toe5 S (by omega);have s2:=RS N.toe5 S (by omega);obtain ⟨e2,b1,b2⟩:=pZ N.tou4 hR hz hT false false;obtain ⟨va,vb,t1⟩:=uT N.tou4 hR hz hT (by omega);have hI : ∃ (w:Int) (l:List Rat) (e1:Int),(0<=c\/c%30=0->w=c%30)/\(¬ (0<=c\/c%30=0)->w=c%30-30)/\Ev L 134 [.agg (E6 S),.int .i64 w] (.e7 [.sl false (l.map eQ),.int .i64 e1])/\Ev L 140 [.agg (E6 S),.int .i64 w] (.e7 [.sl false (l.map eQ),.int .i64 e1]) /\ ∀ q1 q2,Ev L 129 [.sl q1 (l.map eQ),.sl q2 (l.map eQ)] (.bool true):=by
   by_cases h0:0<=c\/c%30=0
   ·obtain ⟨l,e1,a1,a2,a3⟩:=bM N.tou4 hR hz hT (c%30) (by omega)
    exact ⟨_,l,e1,λ_=>rfl,λ h=>absurd h0 h,a1,a2,a3⟩
   ·obtain ⟨l,e1,a1,a2,a3⟩:=bM N.tou4 hR hz hT (c%30-30) (by omega)
    exact ⟨_,l,e1,λ h=>absurd h h0,λ_=>rfl,a1,a2,a3⟩
  obtain ⟨w,l,e1,w1,w2,a1,a2,a3⟩:=hI;have zy:(DW S=false /\ ∃ a b:List (List AV),Ev L 189 [.agg (E6 S)] (.e7 [.agg [.sl false a,.sl false b],.int .i64 2]))\/(DW S=true/\S.a.length<=16 /\ ∃ a b:List (List AV),Ev L 189 [.agg (E6 S)] (.e7 [.agg [.sl false a,.sl false b],.int .i64 0]))\/(DW S=true/\16<S.a.length /\ ∃ a b:List (List AV),Ev L 189 [.agg (E6 S)] (.e7 [.agg [.sl false a,.sl false b],.int .i64 12])):=by
   cases hs:DW S
   ·rw[hs,if_neg (by decide)]at t1
    exact Or.inl ⟨rfl,va,vb,t1⟩
   ·rw[hs,if_pos rfl]at t1
    by_cases hn:S.a.length<=16
    ·rw[if_pos hn]at t1
     exact Or.inr (Or.inl ⟨rfl,hn,va,vb,t1⟩)
    ·rw[if_neg hn]at t1
     exact Or.inr (Or.inr ⟨rfl,by omega,va,vb,t1⟩)
  clear t1;rcases Classical.em (0<=c\/c%30=0) with h0|h0
  case' inl=>obtain rfl:=w1 h0
  case' inr=>obtain rfl:=w2 h0
  all_goals
   clear w1 w2;rcases zy with ⟨hs,v,v',t1⟩|⟨hs,hn,v,v',t1⟩|⟨hs,hn,v,v',t1⟩
   all_goals
    rw[hs]at s1 s2;refine Ev.x N.H5 rfl rfl ?_;(repeat' ((first|(apply AH<;>intro hc<;>try omega)|(refine Q8 ?_ (λ_ _ _ => ?_) (λ_ _ _ _ => ?_);omega;all_goals try omega)|apply AQ|apply AD|refine AG (s1) ?_|refine AG (s2) ?_|refine AG (b1) ?_|refine AG (b2) ?_|refine AG (t1) ?_|refine AG (a1) ?_|refine AG (a2) ?_|refine AG (a3 _ _) ?_|refine AG (hK) ?_)<;>conv=>whnf))
    all_goals exact E4 rfl
 ·refine Ev.x N.H5 rfl rfl ?_
  (repeat' ((first|(apply AH<;>intro hc<;>try omega)|apply AQ|apply AD|refine AG (hK) ?_)<;>conv=>whnf))
  all_goals exact E4 rfl
end Go.c8
