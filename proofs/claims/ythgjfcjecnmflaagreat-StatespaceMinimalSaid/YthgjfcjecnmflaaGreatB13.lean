/-
  The controller's form in another basis (the reference of layer 27).
-/
import Derived.Test.YthgjfcjecnmflaaGreatB12
import Derived.Test.YthgjfcjecnmflaaGreatB11
import Derived.Test.YthgjfcjecnmflaaGreatB10
import Derived.Test.YthgjfcjecnmflaaGreatB7
import Derived.Test.YthgjfcjecnmflaaGreatB2
set_option linter.unusedSimpArgs false
set_option linter.unusedVariables false
set_option linter.unnecessarySimpa false
namespace Go.e8
open F
attribute [local irreducible] AA AF AM AE C8 AX BF BD B9 B2 CX E9 B0 A5 B5 CQ AB A7 AJ pw BR BO C4 D0 DZ DU DN BZ DW
variable {L:Lib}
set_option maxHeartbeats 16000000
set_option maxRecDepth 8000
theorem DP.Mc {T:List (List Rat)} {n:Nat} {m:List (List Rat)} (h:DP T (FV n) n n m n n) (hT:Sq n T) {v:List Rat} (hv:v.length=n):A6 T (A6 (m.map (·.drop n)) v)=v:=by
 have fu:(A6 (m.map (·.drop n)) v).length=n:=by rw[GX,List.length_map];exact h.len
 have hu : ∀ (j:Nat) (r:List Rat),m[j]? = some r->(A6 (m.map (·.drop n)) v).getD j 0=A2 (r.drop n) v:=λ j r hj=>by
  rw[List.getD_eq_getElem?_getD,A6,List.getElem?_map,List.getElem?_map,hj];rfl
 generalize A6 (m.map (·.drop n)) v=u at *;have Bc : ∀ r:List Rat,A2 r (v.map λ x => -1*x) = -1*A2 r v:=λ r=>by
  rw[F4,F4 r v];clear hv hu h;induction v generalizing r with
  | nil=>cases r<;>simp [A2]
  | cons x v ih =>
   cases r with
   | nil=>simp [A2]
   | cons y r=>simp only[List.map_cons,A2,ih];grind
 have hK:ED m (u++v.map λ x => -1*x):=by
  intro r hr;obtain ⟨j,hj⟩:=List.getElem?_of_mem hr;have dv:=(zS hj).1;rw[h.len]at dv;have bk:=h.wid r hr;rw[<-List.take_append_drop n r,OM _ _ _ _ (by rw[List.length_take,fu];omega),h.row hj,WG fu dv,hu j r hj,Bc];grind
 refine List.ext_getElem? λ i => ?_
 rw[A6,List.getElem?_map];cases hi:T[i]? with
 | none =>
  have h1:=List.getElem?_eq_none_iff.1 hi;rw[List.getElem?_eq_none (l:=v) (by rw[hv,<-hT.l];exact h1)];rfl
 | some t =>
  have h1:=(zS hi).1;rw[hT.l]at h1;obtain ⟨x,hx⟩ : ∃ x,v[i]? = some x:=⟨_,zE (by omega)⟩;have h2:=h.kr _ hK (t++DE n i) (zM (i:=i) (by
   rw[E1,List.getElem?_zipWith,hi,FV,List.getElem?_map,List.getElem?_range h1];rfl))
  rw[OM _ _ _ _ (by rw[hT.at hi,fu]),Bc,WG hv h1,List.getD_eq_getElem?_getD,hx]at h2;rw[hx];show some (A2 t u)=some x;have h3:A2 t u + -1*x=0:=h2;congr 1;grind
theorem Ys (N:w7 L) (q1 q2:Bool) (a:List (List Rat)) (n k:Nat) (hT:Sq n a) (hn:1<=n/\n<=10) (au:Ms k a) (hk:k<=1000) (hB:10*FE k n<=100000000000) :
  ∃ v,Ev L 279 [.sl q1 (CE q2 a)] v/\(v = .l6 [.sl false [],.int .i64 11] \/ ∃ U:List (List Rat),v = .l6 [.sl false (eM U),.int .i64 0]/\Sq n U/\(∀ v:List Rat,v.length=n->A6 U (A6 a v)=v)/\(∀ v:List Rat,v.length=n->A6 a (A6 U v)=v)):=by
 have hV:=iH N.toak q1 q2 a n n hT.l hT.r (by omega) (by omega);have hI:Ev L 240 [.int .i64 (a.length:Nat)] (.l6 [.sl false (eM (FV n)),.int .i64 0]):=by
  rw[hT.l];exact AeD N.toak n (by omega)
 obtain ⟨v,h1,h2'⟩:=Xt N q1 q2 false false a (FV n) n n k hT (Sq.id n).l (Sq.id n).r (Ms.id n k) hn hn au hk hB;have h2:v = .l6 [.sl false [],.int .i64 11] \/ ∃ U:List (List Rat),v = .l6 [.sl false (eM U),.int .i64 0]/\Sq n U/\(∀ v:List Rat,v.length=n->A6 U (A6 a v)=v)/\(∀ v:List Rat,v.length=n->A6 a (A6 U v)=v):=by
  rcases h2' with h|⟨jz,m,rfl,hR,_⟩
  ·exact Or.inl h.2
  ·refine Or.inr ⟨m.map (·.drop n),rfl,⟨by rw[List.length_map];exact hR.len,λ r hr => ?_⟩,λ v hv=>hR.inv hv hT,λ v hv=>hR.Mc hT hv⟩
   obtain ⟨s,hs,rfl⟩:=List.mem_map.1 hr;rw[List.length_drop,hR.wid s hs];omega
 have x7:=hT.l;obtain ⟨r0,s8⟩ : ∃ r,a[0]? = some r:=⟨_,zE (by omega)⟩;have rk:a[(0:Int).toNat]? = some r0:=s8;have jv:=hT.r r0 (zM s8);refine ⟨v,?_,h2⟩;rcases h2 with rfl|⟨U,rfl,_⟩
 ·refine Ev.x N.I8 rfl rfl ?_
  (repeat' ((first|(apply AG<;>intro hc<;>try omega)|apply AQ|(refine A8 (by assumption) ?_ rfl ?_;omega)|apply AD|refine AC (hV) ?_|refine AC (hI) ?_|refine AC (h1) ?_)<;>conv=>whnf))
  exact AW rfl (by simp only[A1,CD,FL,true_and,and_true])
 ·refine Ev.x N.I8 rfl rfl ?_
  (repeat' ((first|(apply AG<;>intro hc<;>try omega)|apply AQ|(refine A8 (by assumption) ?_ rfl ?_;omega)|apply AD|refine AC (hV) ?_|refine AC (hI) ?_|refine AC (h1) ?_)<;>conv=>whnf))
  exact AW rfl (V7 U 0)
theorem Xb {B A:List Rat} {n:Nat} (hB:Bs 4 B) (hA:Bs 4 A):(B4 B A n).Ok n 13:=by
 have hs : ∀ i,Bt 13 (B.getD i 0-B.getD 0 0*A.getD i 0):=λ i=>by
  rw[Rat.sub_eq_add_neg];exact ((GH hB i).add ((GH hB 0).mul (GH hA i)).ng).le (by omega)
 have hu : ∀ j,Bs 13 (DE n j):=λ j x hx=>by
  simp only[DE,List.mem_map]at hx;obtain ⟨i,_,rfl⟩:=hx;split
  ·exact Bt.one _
  ·exact Bt.zero _
 refine ⟨fU B A n,pM,O9 _ _,fW B A n,?_,hu 0,?_,(GH hB 0).le (by omega)⟩
 ·intro r hr
  simp only[B4,List.mem_map]at hr;obtain ⟨i,_,rfl⟩:=hr;split
  ·intro x hx
   obtain ⟨j,_,rfl⟩:=List.mem_map.1 hx;exact (GH hA _).ng.le (by omega)
  ·exact hu _
 ·intro x hx
  simp only[B4,List.mem_map]at hx;obtain ⟨i,_,rfl⟩:=hx;exact hs _
theorem Ah4 {T U:List (List Rat)} {S:DQ} {n:Nat} (hS:S.Ok n 13) (hT:Sq n T) (hU:Sq n U) (hb:Ms 4 T) (Cj:Ms 82 U) (hn:n<=3):(GA T U S n).Ok n 500/\Ms 54 (EJ T S.a n):=by
 have h1:Ms 54 (EJ T S.a n):=(Ms.mul hb hT hS.ba).le (Nat.le_trans (zR _ hn) (by omega));have s1:Sq n (EJ T S.a n):=Sq.mul hT.l _;have s2:Sq n (GA T U S n).a:=Sq.mul s1.l _;refine ⟨⟨s2.l,s2.r,by show (A6 T S.b).length=n;rw[GX,hT.l],by show (A6 (EP U) S.c).length=n;rw[GX,XJ,hU.l],?_,?_,?_,hS.bd.le (by omega)⟩,h1⟩
 ·exact (Ms.mul h1 s1 Cj).le (show n*(54+82+1)<=500 by omega)
 ·exact (cG hT hb hS.bb hn).le (by omega)
 ·exact (cG (mG hU) (mF Cj) hS.bc hn).le (by omega)
theorem Yx (N:bp L) (S:DQ) (T:List (List Rat)) (n:Nat) (hS:S.Ok n 13) (hT:Sq n T) (Dz:Ms 4 T) (hn:n<=3) :
  ∃ v,Ev L 285 [.agg (eS S),.sl false (eM T)] v/\(v = .l6 [.agg [.sl false [],.sl false [],.sl false [],.bool false,.sl false [],.sl false []],.int .i64 11]\/(∃ U:List (List Rat),Sq n U/\(∀ v:List Rat,v.length=n->A6 U (A6 T v)=v)/\(∀ v:List Rat,v.length=n->A6 T (A6 U v)=v)/\(GA T U S n).Ok n 500/\v = .l6 [.agg (eS (GA T U S n)),.int .i64 0])):=by
 have yv:=AeL N S n 13 hS (by omega);have Ba:=hS.la;have ck:=hT.l;have rf:=WL N.toa7 hS.bd (by omega);have yw : ∀ i,i<n -> ∃ r,T[i]? = some r/\r.length=n:=λ i hi=>by
  obtain ⟨r,hr⟩ : ∃ r,T[i]? = some r:=⟨_,zE (by omega)⟩;exact ⟨r,hr,hT.r r (zM hr)⟩
 refine Ev.xE N.NA rfl rfl ?_;(repeat' ((first|(apply AG<;>intro hc<;>try omega)|apply AQ|apply AD|refine AC (yv) ?_)<;>conv=>whnf))
 refine DF (λ i=>n-i) (λ(i:Nat)=>i<=n) (λ i=>[(6,.int .i64 i)]) (λ_=>[]) 0 (by omega) ?_;intro i i1 ih;by_cases hi:i<n
 ·obtain ⟨r,hr,bk⟩:=yw i hi
  have ml:T[(i:Int).toNat]? = some r:=hr;(repeat' ((first|(apply AG<;>intro hc<;>try omega)|(apply A0;omega)|apply AQ|(refine A8 (by assumption) ?_ rfl ?_;omega)|apply AD)<;>conv=>whnf))
  exact BQ [] (ih (i+1) (by omega) (by omega))
 have ei:i=n:=by omega
 clear ih i1 hi;by_cases h0:n=0
 ·(repeat' ((first|(apply AG<;>intro hc<;>try omega)|apply AQ|apply AD|refine AC (rf) ?_)<;>conv=>whnf))
  have eS0:eS S=[.sl false [],.sl false [],.sl false []]++eQ S.d:=by
   have e1:S.a=[]:=List.length_eq_zero_iff.1 (by omega);have e2:S.b=[]:=List.length_eq_zero_iff.1 (by rw[hS.lb];omega);have e3:S.c=[]:=List.length_eq_zero_iff.1 (by rw[hS.lc];omega);rw[eS,e1,e2,e3];rfl
  have q6:=fJ S 0;have yw:T=[]:=List.length_eq_zero_iff.1 (by omega);have Ft:GA T [] S n=S:=by
   have e1:S.a=[]:=List.length_eq_zero_iff.1 (by omega);have e2:S.b=[]:=List.length_eq_zero_iff.1 (by rw[hS.lb];omega);have e3:S.c=[]:=List.length_eq_zero_iff.1 (by rw[hS.lc];omega);rw[GA,yw];show (⟨[],[],[],S.d⟩:DQ)=S;cases S;simp only at e1 e2 e3;rw[e1,e2,e3]
  refine ⟨.l6 [.agg (eS S),.int .i64 0],?_,Or.inr ⟨[],⟨by rw[h0];rfl,λ r hr=>by cases hr⟩,λ v hv=>by rw[List.length_eq_zero_iff.1 (hv.trans h0)];rfl,λ v hv=>by rw[List.length_eq_zero_iff.1 (hv.trans h0),yw];rfl,by rw[Ft];exact hS.le (by omega),by rw[Ft]⟩⟩;rw[eS0]at q6 ⊢;exact AW rfl q6
 ·obtain ⟨v,hI,hv0⟩:=Ys N.tow7 false false T n 4 hT (by omega) Dz (by omega) (Aho hn)
  rcases hv0 with rfl|⟨U,rfl,Ck,ef,Cg⟩
  ·(repeat' ((first|(apply AG<;>intro hc<;>try omega)|apply AQ|apply AD|refine AC (hI) ?_)<;>conv=>whnf))
   exact ⟨.l6 [.agg [.sl false [],.sl false [],.sl false [],.bool false,.sl false [],.sl false []],.int .i64 11],AW rfl (by simp [A1,CD,FL]),Or.inl rfl⟩
  ·have tv:=Ck.l
   have Ng:=Ck.r;have Cj:=AfL hn hT Ck Dz ef;obtain ⟨hOk,aq⟩:=Ah4 hS hT Ck Dz Cj hn;have yx:=λ q1 q2 q3 q4=>sD N.toak q1 q2 q3 q4 T S.a n n n 4 13 hT.l hT.r hS.la hS.lr (by omega) (by omega) (by omega) Dz hS.ba (by omega)
   have re:=λ q1 q2 q3 q4=>sD N.toak q1 q2 q3 q4 (EJ T S.a n) U n n n 54 82 (Sq.mul hT.l S.a).l (Sq.mul hT.l S.a).r tv Ng (by omega) (by omega) (by omega) aq Cj (by omega)
   have hB1:=rF N.toz8 T S.b false false false n 4 13 hT hS.lb Dz hS.bb (by omega) (by omega);have hTn:=AeN N.too5 false U n tv Ng (by omega);have Bz:=rF N.toz8 (EP U) S.c false false false n 82 13 (mG Ck) hS.lc (mF Cj) hS.bc (by omega) (by omega);(repeat' ((first|(apply AG<;>intro hc<;>try omega)|apply AQ|apply AD|refine AC (hI) ?_|refine AC (yx _ _ _ _) ?_|refine AC (re _ _ _ _) ?_|refine AC (hB1) ?_|refine AC (hTn) ?_|refine AC (Bz) ?_|refine AC (rf) ?_)<;>conv=>whnf))
   refine ⟨.l6 [.agg (eS (GA T U S n)),.int .i64 0],?_,Or.inr ⟨U,Ck,ef,Cg,hOk,rfl⟩⟩;exact AW rfl (fJ (GA T U S n) 0)
theorem Age (l:List Int) (n:Nat):Sq n (PU l n)/\Ms 4 (PU l n):=by
 have hX:=Q2 l (n*n);have hb:=ZD l (n*n);have hr : ∀ r∈PU l n,∃ j,j<n/\r=VD (E3 l (n*n)) n j:=λ r hr=>by
  simp only[PU,J6,List.mem_map,List.mem_range]at hr;obtain ⟨j,h1,rfl⟩:=hr;exact ⟨j,h1,rfl⟩
 refine ⟨⟨Agd l n,?_⟩,?_⟩
 ·intro r h
  obtain ⟨j,h1,rfl⟩:=hr r h;refine Ahv ?_;have:=zR n (show j+1<=n by omega)
  rw[Nat.succ_mul]at this;omega
 ·intro r h x hx
  obtain ⟨j,h1,rfl⟩:=hr r h;exact hb x (List.mem_of_mem_take (List.mem_of_mem_drop hx))
end Go.e8
namespace Go.e8
end Go.e8

namespace Go.e8
open F
attribute [local irreducible] AA AF AM AE C8 AX BF BD B9 B2 CX E9 B0 A5 B5 CQ AB A7 AJ pw BR BO C4 D0 DZ DU DN BZ DW
variable {L:Lib}
set_option maxHeartbeats 16000000
set_option maxRecDepth 8000
theorem AeJ (N:aj L) (n1:L.num 95=WR) (n2:L.num 370=bU) (q q':Bool) (a:List (List Rat)) (n k:Nat) (x7:a.length=n) (au:Ms k a) (ua : ∀ r∈a,r.length<=100) (hk:k<2199023255552) (hn:n<=100):Ev L 397 [.sl q (CE q' a)] (.sl false (eM a)):=by
 refine Ev.x N.NR rfl rfl ?_;(repeat' (apply AD<;>conv=>whnf))
 refine EM 1000 N.NN rfl rfl ?_;(repeat' ((first|apply AQ|apply AD)<;>conv=>whnf))
 unfold DZ;refine ⟨⟨by omega,by omega,by simp only[EC];omega,by omega⟩,?_⟩;rw[Int.toNat_natCast,x7];(conv=>whnf)
 (repeat' (apply AQ<;>conv=>whnf))
 refine Rw 396010 396010 n rfl ?_;refine DL (λ i=>n-i) (λ(i:Nat)=>i<=n) (λ i=>[(13,.int .i64 i)]) (λ i=>[(396010,396010,.rw 1 ((fz none ((a.take i).map some) n).map gQ))]) [] [] 0 (by first|exact (by (conv=>whnf);exact ⟨rfl,rfl,rfl⟩)|(rw[List.take_zero,List.map_nil,show fz (none:Option (List Rat)) [] n=List.replicate n none by simp [fz],List.map_replicate];exact (by (conv=>whnf);exact ⟨rfl,rfl,rfl⟩))) (by omega) ?_;intro i p1 ih;by_cases hi:i<n
 ·obtain ⟨r,s8⟩ : ∃ r,a[i]? = some r:=⟨_,zE (by omega)⟩
  have ml:a[(i:Int).toNat]? = some r:=s8;have hV:=λ q=>(sL N.tofl n1 q r k (au.at s8) hk (ua r (zM s8))).2
  have jf:((a.take i).map some).length=i:=by rw[List.length_map,List.length_take];omega
  have kj:=bL (z:=(none:Option (List Rat))) (l:=(a.take i).map some) (m:=n) (by omega);have lh:=bM (z:=(none:Option (List Rat))) (x:=some r) (l:=(a.take i).map some) (m:=n) (by omega);have hta:a.take (i+1)=a.take i++[r]:=by rw[List.take_add_one,s8];rfl
  rw[jf,show (a.take i).map some++[some r]=(a.take (i+1)).map some by rw[hta,List.map_append];rfl]at lh;generalize fz (none:Option (List Rat)) ((a.take i).map some) n=J at *;(repeat' ((first|(apply AG<;>intro hc<;>try omega)|(apply AU;omega)|(refine A8 (by assumption) ?_ rfl ?_;omega)|apply AD|refine AC (hV _) ?_)<;>conv=>whnf))
  refine F3 (enc:=gQ) (some r) rfl (λ e=>by cases e<;>rfl) (by omega) ?_;(conv=>whnf)
  rw[lh];(repeat' ((first|(apply A0;omega)|fail)<;>conv=>whnf))
  exact BQ [] (ih (i+1) (by omega) (by omega))
 have ei:i=n:=by omega
 clear ih;rw[ei,zT (by omega),AeR x7];(repeat' ((first|(apply AG<;>intro hc<;>try omega)|apply AD)<;>conv=>whnf))
 refine ⟨rfl,_,rfl,?_⟩;(conv=>whnf)
 skip
 refine C7 (enc:=λ r:List Rat=>[AV.sl false (r.map eQ)]) (λ_=>rfl) rfl x7.symm ?_;(conv=>whnf)
 exact AW rfl (fK _)
theorem Xy (N:aj L) (q:Bool) (x:Rat):Ev L 398 [.sl q [eQ x]] (.agg (eQ x)):=by
 have mq:[x][(0:Int).toNat]? = some x:=rfl;suffices h:Ev L 398 [.sl q ([x].map eQ)] (.agg (eQ x)) from h
 refine Ev.x N.NM rfl rfl ?_;(repeat' ((first|(refine A8 (by assumption) ?_ rfl ?_;omega)|apply AD)<;>conv=>whnf))
 exact AW rfl (D9 _)
def HT (a:List (List Rat)) (v:List Rat):Nat->List Rat
 | 0=>v
 | j+1=>A6 a (HT a v j)
def IZ (a:List (List Rat)) (v:List Rat) (n:Nat):List (List Rat):=(List.range n).map (HT a v)
theorem wP (S:DQ) : ∀ j,wQ S j=HT S.a S.b j
 | 0=>rfl
 | j+1=>by rw[wQ,HT,wP S j]
theorem wN (S:DQ) : ∀ j,oQ S j=HT (EP S.a) S.c j
 | 0=>rfl
 | j+1=>by rw[oQ,HT,wN S j]
theorem AfX (S:DQ) (n:Nat):J4 S n=IZ S.a S.b n:=List.map_congr_left λ j _=>wP S j
theorem AfZ (S:DQ) (n:Nat):H4 S n=IZ (EP S.a) S.c n:=List.map_congr_left λ j _=>wN S j
theorem AeF (N:y9 L) (q q':Bool) (a:List (List Rat)) (n:Nat) (x7:a.length=n) (du : ∀ r∈a,r.length=n) (hn:1<=n/\n<=3) (au:Ms 20000 a) : ∃ r:Nat,Ev L 249 [.sl q (CE q' a)] (.l6 [.int .i64 r,.int .i64 0])/\(r=n↔NS n a)/\r<=n:=by
 have hB:6^n*(3^n*20000)<=1000000000000:=by
  obtain rfl|rfl|rfl:n=1\/n=2\/n=3:=by omega
  all_goals decide
 obtain ⟨r,h1,h2,h3,_⟩:=Yv N q q' a n n 20000 x7 du (by omega) (by omega) (by omega) au hB;exact ⟨r,h1,Ahh h2 h3,h3⟩
theorem AfW {a:List (List Rat)} {v:List Rat} {n:Nat} (ha:Sq n a) (hv:v.length=n) (au:Ms 500 a) (Bl:Bs 500 v) (hn:n<=3) : ∀ j,j<3->(HT a v j).length=n/\Bs 20000 (HT a v j):=by
 have h0:Bs 500 (HT a v 0):=Bl;have h1:Bs 3003 (HT a v 1):=(cG ha au h0 hn).le (by omega);have h2:Bs 20000 (HT a v 2):=(cG ha au h1 hn).le (by omega);intro j hj;obtain rfl|rfl|rfl:j=0\/j=1\/j=2:=by omega
 ·exact ⟨hv,h0.le (by omega)⟩
 ·exact ⟨by rw[HT,GX,ha.l],h1.le (by omega)⟩
 ·exact ⟨by rw[HT,GX,ha.l],h2⟩
theorem AfV (a:List (List Rat)) (v:List Rat) (n:Nat):(IZ a v n).length=n:=by simp [IZ]
theorem AfY {a:List (List Rat)} {v:List Rat} {n:Nat} (h : ∀ j,j<3->(HT a v j).length=n/\Bs 20000 (HT a v j)) (hn:n<=3):(∀ r∈IZ a v n,r.length=n)/\Ms 20000 (IZ a v n):=by
 have key : ∀ r∈IZ a v n,r.length=n/\Bs 20000 r:=λ r hr=>by
  obtain ⟨j,hj,rfl⟩:=List.mem_map.1 hr;exact h j (by have:=List.mem_range.1 hj;omega)
 exact ⟨λ r hr=>(key r hr).1,λ r hr=>(key r hr).2⟩
theorem WK (N:aj L) (n1:L.num 289=WQ) (q q' q3:Bool) (a:List (List Rat)) (v:List Rat) (n:Nat) (ha:Sq n a) (hv:v.length=n) (au:Ms 20000 a) (Bl:Bs 20000 v) (hn:1<=n/\n<=3) :
  Ev L 291 [.sl q3 (v.map eQ)] (.sl false (eM (v.map λ x=>[x])))/\Ev L 248 [.sl q (CE q' a),.sl false (eM (v.map λ x=>[x]))] (.l6 [.sl false (eM ((A6 a v).map λ x=>[x])),.int .i64 0]):=by
 refine ⟨Xv N.toij n1 q3 v n 20000 hv Bl (by omega) (by omega),?_⟩;have hbm:Ms 20000 (v.map λ x=>[x]):=λ r hr=>by
  obtain ⟨x,hx,rfl⟩:=List.mem_map.1 hr;intro z hz;obtain rfl:=List.mem_singleton.1 hz;exact Bl z hx
 have hT:=Aef N.toy9 q q' false false a (v.map λ x=>[x]) n n 1 20000 20000 ha.l ha.r (by rw[List.length_map];exact hv) (λ r hr=>by obtain ⟨x,_,rfl⟩:=List.mem_map.1 hr;rfl) (by omega) (by omega) (by omega) (by omega) (by omega) au hbm (by
  obtain rfl|rfl|rfl:n=1\/n=2\/n=3:=by omega
  all_goals omega)
 rw[Agt a v n ha.r hv]at hT;exact hT
theorem rK (N:aj L) (n1:L.num 289=WQ) (n2:L.num 95=WR) (n3:L.num 398=bV) (q q' q3:Bool) (a:List (List Rat)) (v:List Rat) (n:Nat) (ha:Sq n a) (hv:v.length=n) (au:Ms 500 a) (Bl:Bs 500 v) (hn:1<=n/\n<=3) :
  ∃ b:Bool,Ev L 399 [.sl q (CE q' a),.sl q3 (v.map eQ)] (.bool b)/\(b=true↔NS n (IZ a v n)):=by
 have hP:=AfW ha hv au Bl hn.2;obtain ⟨Od,Ob⟩:=AfY hP hn.2;obtain ⟨r,hR,bz,dc⟩:=AeF N.toy9 true true (IZ a v n) n (AfV a v n) Od hn Ob;have Ea:=λ q=>(sL N.tofl n2 q v 500 Bl (by omega) (by omega)).1
 have x7:=ha.l;have hb:decide (r=n)=true↔NS n (IZ a v n):=by rw[decide_eq_true_eq];exact bz
 refine ⟨decide (r=n),?_,hb⟩;have hF:=λ q x=>Xy N q x
 obtain rfl|rfl|rfl:n=1\/n=2\/n=3:=by omega
 ·have hk:IZ a v 1=[v]:=rfl
  rw[hk]at hR;refine Ev.x N.H5 rfl rfl ?_;(repeat' (apply AD<;>conv=>whnf))
  refine VU (enc:=eQ) 1 (Ea _) hv.symm ?_;(conv=>whnf)
  skip
  refine JI ?_;(repeat' ((first|(apply AG<;>intro hc<;>try omega)|apply AQ|apply AD)<;>conv=>whnf))
  refine AU rfl ?_;(conv=>whnf)
  refine C7 (enc:=eQ) (λ_=>rfl) rfl hv.symm ?_;(conv=>whnf)
  (repeat' ((first|(apply AG<;>intro hc<;>try omega)|apply AQ|refine AC (hR) ?_)<;>conv=>whnf))
  ·exact XT (by omega)
  ·exact RN (by omega)
 ·have hk:IZ a v 2=[v,A6 a v]:=rfl
  rw[hk]at hR;have Cd:=hP 0 (by omega);have yq:=hP 1 (by omega);obtain ⟨hC,hT⟩:=WK N n1 q q' false a v 2 ha hv (au.le (by omega)) Cd.2 hn;have hC:=λ q3=>(WK N n1 q q' q3 a v 2 ha hv (au.le (by omega)) Cd.2 hn).1
  have js:(A6 a v).length=2:=yq.1;generalize A6 a v=v1 at *;refine Ev.x N.H5 rfl rfl ?_;(repeat' (apply AD<;>conv=>whnf))
  refine VU (enc:=eQ) 2 (Ea _) hv.symm ?_;(conv=>whnf)
  skip
  refine JI ?_;(repeat' ((first|(apply AG<;>intro hc<;>try omega)|(apply AU;omega)|(apply BT;omega)|apply AQ|apply AD)<;>conv=>whnf))
  refine C7 (enc:=eQ) (λ_=>rfl) rfl hv.symm ?_;(conv=>whnf)
  (repeat' ((first|(apply AG<;>intro hc<;>try omega)|refine AC (hC _) ?_|refine AC (hT) ?_)<;>conv=>whnf))
  refine EM 1000 N.H6 rfl rfl ?_;(repeat' ((first|apply AQ|apply AD)<;>conv=>whnf))
  have yu:(v1.map λ x=>[x]).length=2:=by rw[List.length_map];exact js
  have Du : ∀ (e:Nat) (x:Rat),v1[e]? = some x->(v1.map λ x=>[x])[e]? = some [x]:=λ e x hx=>by rw[List.getElem?_map,hx];rfl
  generalize (v1.map λ x=>[x])=R at *;rw[yu];refine EH (enc:=eO) none 2 rfl rfl (by omega) ?_;(conv=>whnf)
  (repeat' (apply AQ<;>conv=>whnf))
  refine DL (λ e=>2-e) (λ(e:Nat)=>e<=2) (λ e=>[(13,.int .i64 e)]) (λ e=>[(288010,288010,.rw 3 ((D4 (v1.take e) 2).map eO))]) [] [] 0 (by first|exact (by (conv=>whnf);exact ⟨rfl,rfl,rfl⟩)|(rw[List.take_zero,<-JT];exact (by (conv=>whnf);exact ⟨rfl,rfl,rfl⟩))) (by omega) ?_;intro e p2 eh;have wc:=JS (l:=v1.take e) (m:=2) (by rw[List.length_take];omega);by_cases Cn:e<2
  ·obtain ⟨x,hx⟩ : ∃ x,v1[e]? = some x:=⟨_,zE (by omega)⟩
   have m5:=JU (l:=v1.take e) (m:=2) (x:=x) (by rw[List.length_take];omega);rw[List.length_take,Nat.min_eq_left (by omega),<-H7 hx]at m5;have Dv:=Du e x hx;have Dw:R[(e:Int).toNat]? = some [x]:=Dv;have Dm:=λ q=>hF q x
   generalize D4 (v1.take e) 2=F0 at *;(repeat' ((first|(apply AG<;>intro hc<;>try omega)|(apply AU;omega)|(refine A8 (by assumption) ?_ rfl ?_;omega)|apply AD|refine AC (Dm _) ?_)<;>conv=>whnf))
   refine F3 (enc:=eO) (some x) rfl (λ e=>by cases e<;>rfl) (by omega) ?_;(conv=>whnf)
   rw[m5];(repeat' ((first|(apply A0;omega)|fail)<;>conv=>whnf))
   exact BQ [] (eh (e+1) (by omega) (by omega))
  have ee:e=2:=by omega
  clear eh wc p2 Cn;subst ee;rw[zT (Nat.le_of_eq js),JR js];(repeat' ((first|(apply AG<;>intro hc<;>try omega)|apply AD)<;>conv=>whnf))
  refine ⟨rfl,_,rfl,?_⟩;(conv=>whnf)
  (repeat' ((first|(apply AU;omega)|fail)<;>conv=>whnf))
  refine JI ?_;(repeat' ((first|(apply AG<;>intro hc<;>try omega)|apply AQ|apply AD)<;>conv=>whnf))
  refine AU rfl ?_;(conv=>whnf)
  refine C7 (enc:=eQ) (λ_=>rfl) rfl hv.symm ?_;(conv=>whnf)
  refine C7 (enc:=eQ) (λ_=>rfl) rfl js.symm ?_;(conv=>whnf)
  (repeat' ((first|(apply AG<;>intro hc<;>try omega)|apply AQ|refine AC (hR) ?_)<;>conv=>whnf))
  ·exact XT (by omega)
  ·exact RN (by omega)
 ·have hk:IZ a v 3=[v,A6 a v,A6 a (A6 a v)]:=rfl
  rw[hk]at hR;have Cd:=hP 0 (by omega);have yq:=hP 1 (by omega);have Gq:=hP 2 (by omega);have hT:=(WK N n1 q q' false a v 3 ha hv (au.le (by omega)) Cd.2 hn).2;have hC:=λ q3=>(WK N n1 q q' q3 a v 3 ha hv (au.le (by omega)) Cd.2 hn).1
  have re:=(WK N n1 q q' false a (A6 a v) 3 ha yq.1 (au.le (by omega)) yq.2 hn).2;have hC2:=λ q3=>(WK N n1 q q' q3 a (A6 a v) 3 ha yq.1 (au.le (by omega)) yq.2 hn).1
  have js:(A6 a v).length=3:=yq.1;have wz:(A6 a (A6 a v)).length=3:=Gq.1;generalize A6 a (A6 a v)=v2 at *;generalize A6 a v=v1 at *;clear hP Od Ob Cd yq Gq hk;refine Ev.x N.H5 rfl rfl ?_;(repeat' (apply AD<;>conv=>whnf))
  refine VU (enc:=eQ) 3 (Ea _) hv.symm ?_;(conv=>whnf)
  skip
  refine JI ?_;(repeat' ((first|(apply AG<;>intro hc<;>try omega)|(apply AU;omega)|(apply BT;omega)|apply AQ|apply AD)<;>conv=>whnf))
  refine C7 (enc:=eQ) (λ_=>rfl) rfl hv.symm ?_;(conv=>whnf)
  (repeat' ((first|(apply AG<;>intro hc<;>try omega)|refine AC (hC _) ?_|refine AC (hT) ?_)<;>conv=>whnf))
  refine EM 1000 N.H6 rfl rfl ?_;(repeat' ((first|apply AQ|apply AD)<;>conv=>whnf))
  have yu:(v1.map λ x=>[x]).length=3:=by rw[List.length_map];exact js
  have Du : ∀ (e:Nat) (x:Rat),v1[e]? = some x->(v1.map λ x=>[x])[e]? = some [x]:=λ e x hx=>by rw[List.getElem?_map,hx];rfl
  generalize (v1.map λ x=>[x])=R at *;rw[yu];refine EH (enc:=eO) none 3 rfl rfl (by omega) ?_;(conv=>whnf)
  (repeat' (apply AQ<;>conv=>whnf))
  refine DL (λ e=>3-e) (λ(e:Nat)=>e<=3) (λ e=>[(13,.int .i64 e)]) (λ e=>[(288010,288010,.rw 3 ((D4 (v1.take e) 3).map eO))]) [] [] 0 (by first|exact (by (conv=>whnf);exact ⟨rfl,rfl,rfl⟩)|(rw[List.take_zero,<-JT];exact (by (conv=>whnf);exact ⟨rfl,rfl,rfl⟩))) (by omega) ?_;intro e p2 eh;have wc:=JS (l:=v1.take e) (m:=3) (by rw[List.length_take];omega);by_cases Cn:e<3
  ·obtain ⟨x,hx⟩ : ∃ x,v1[e]? = some x:=⟨_,zE (by omega)⟩
   have m5:=JU (l:=v1.take e) (m:=3) (x:=x) (by rw[List.length_take];omega);rw[List.length_take,Nat.min_eq_left (by omega),<-H7 hx]at m5;have Dv:=Du e x hx;have Dw:R[(e:Int).toNat]? = some [x]:=Dv;have Dm:=λ q=>hF q x
   generalize D4 (v1.take e) 3=F0 at *;(repeat' ((first|(apply AG<;>intro hc<;>try omega)|(apply AU;omega)|(refine A8 (by assumption) ?_ rfl ?_;omega)|apply AD|refine AC (Dm _) ?_)<;>conv=>whnf))
   refine F3 (enc:=eO) (some x) rfl (λ e=>by cases e<;>rfl) (by omega) ?_;(conv=>whnf)
   rw[m5];(repeat' ((first|(apply A0;omega)|fail)<;>conv=>whnf))
   exact BQ [] (eh (e+1) (by omega) (by omega))
  have ee:e=3:=by omega
  clear eh wc p2 Cn;subst ee;rw[zT (Nat.le_of_eq js),JR js];(repeat' ((first|(apply AG<;>intro hc<;>try omega)|apply AD)<;>conv=>whnf))
  refine ⟨rfl,_,rfl,?_⟩;(conv=>whnf)
  (repeat' ((first|(apply AU;omega)|fail)<;>conv=>whnf))
  refine JI ?_;(repeat' ((first|(apply AG<;>intro hc<;>try omega)|(apply AU;omega)|(apply BT;omega)|apply AQ|apply AD)<;>conv=>whnf))
  refine C7 (enc:=eQ) (λ_=>rfl) rfl js.symm ?_;(conv=>whnf)
  (repeat' ((first|(apply AG<;>intro hc<;>try omega)|refine AC (hC2 _) ?_|refine AC (re) ?_)<;>conv=>whnf))
  refine EM 1000 N.H6 rfl rfl ?_;(repeat' ((first|apply AQ|apply AD)<;>conv=>whnf))
  have yu:(v2.map λ x=>[x]).length=3:=by rw[List.length_map];exact wz
  have Du : ∀ (e:Nat) (x:Rat),v2[e]? = some x->(v2.map λ x=>[x])[e]? = some [x]:=λ e x hx=>by rw[List.getElem?_map,hx];rfl
  generalize (v2.map λ x=>[x])=R at *;rw[yu];refine EH (enc:=eO) none 3 rfl rfl (by omega) ?_;(conv=>whnf)
  (repeat' (apply AQ<;>conv=>whnf))
  refine DL (λ e=>3-e) (λ(e:Nat)=>e<=3) (λ e=>[(13,.int .i64 e)]) (λ e=>[(1288010,288010,.rw 3 ((D4 (v2.take e) 3).map eO))]) [] [] 0 (by first|exact (by (conv=>whnf);exact ⟨rfl,rfl,rfl⟩)|(rw[List.take_zero,<-JT];exact (by (conv=>whnf);exact ⟨rfl,rfl,rfl⟩))) (by omega) ?_;intro e p2 eh;have wc:=JS (l:=v2.take e) (m:=3) (by rw[List.length_take];omega);by_cases Cn:e<3
  ·obtain ⟨x,hx⟩ : ∃ x,v2[e]? = some x:=⟨_,zE (by omega)⟩
   have m5:=JU (l:=v2.take e) (m:=3) (x:=x) (by rw[List.length_take];omega);rw[List.length_take,Nat.min_eq_left (by omega),<-H7 hx]at m5;have Dv:=Du e x hx;have Dw:R[(e:Int).toNat]? = some [x]:=Dv;have Dm:=λ q=>hF q x
   generalize D4 (v2.take e) 3=F0 at *;(repeat' ((first|(apply AG<;>intro hc<;>try omega)|(apply AU;omega)|(refine A8 (by assumption) ?_ rfl ?_;omega)|apply AD|refine AC (Dm _) ?_)<;>conv=>whnf))
   refine F3 (enc:=eO) (some x) rfl (λ e=>by cases e<;>rfl) (by omega) ?_;(conv=>whnf)
   rw[m5];(repeat' ((first|(apply A0;omega)|fail)<;>conv=>whnf))
   exact BQ [] (eh (e+1) (by omega) (by omega))
  have ee:e=3:=by omega
  clear eh wc p2 Cn;subst ee;rw[zT (Nat.le_of_eq wz),JR wz];(repeat' ((first|(apply AG<;>intro hc<;>try omega)|apply AD)<;>conv=>whnf))
  refine ⟨rfl,_,rfl,?_⟩;(conv=>whnf)
  (repeat' ((first|(apply AU;omega)|fail)<;>conv=>whnf))
  refine JI ?_;(repeat' ((first|(apply AG<;>intro hc<;>try omega)|apply AQ|apply AD)<;>conv=>whnf))
  refine AU rfl ?_;(conv=>whnf)
  refine C7 (enc:=eQ) (λ_=>rfl) rfl hv.symm ?_;(conv=>whnf)
  refine C7 (enc:=eQ) (λ_=>rfl) rfl js.symm ?_;(conv=>whnf)
  refine C7 (enc:=eQ) (λ_=>rfl) rfl wz.symm ?_;(conv=>whnf)
  (repeat' ((first|(apply AG<;>intro hc<;>try omega)|apply AQ|refine AC (hR) ?_)<;>conv=>whnf))
  ·exact XT (by omega)
  ·exact RN (by omega)
theorem Aiu {a:List (List Rat)} {n:Nat} (h:a.length=n):G2 a n=EP a:=by rw[G2,EP,h]
theorem rE (N:aj L) (n1:L.num 289=WQ) (n2:L.num 95=WR) (n3:L.num 398=bV) (n4:L.num 370=bU) (S:DQ) (n:Nat) (hS:S.Ok n 500) (hn:n<=3) :
  ∃ b:Bool,Ev L 400 [.agg (eS S)] (.l6 [.bool b,.int .i64 0])/\(b=true↔(n=0\/NS n (J4 S n)/\NS n (H4 S n))):=by
 have yv:=AeM N.tobp S n 500 hS (by omega);have Ba:=hS.la;by_cases h0:n=0
 ·refine ⟨true,?_,by simp [h0]⟩
  refine Ev.x N.JD rfl rfl ?_;(repeat' ((first|(apply AG<;>intro hc<;>try omega)|apply AQ|apply AD|refine AC (yv) ?_)<;>conv=>whnf))
  exact AW rfl (by simp [A1,CD])
 ·have hA:Sq n S.a:=⟨hS.la,hS.lr⟩
  have hAt:Sq n (EP S.a):=mG hA;have yp:=λ q1 q2=>AeJ N n2 n4 q1 q2 S.a n 500 Ba hS.ba (λ r hr=>by rw[hS.lr r hr];omega) (by omega) (by omega)
  have rf:=Xq N.toy9 false false S.a n n 500 Ba hS.lr (by omega) (by omega) hS.ba (by omega);rw[Aiu Ba]at rf;obtain ⟨b1,hI1,i1⟩:=rK N n1 n2 n3 false false false S.a S.b n hA hS.lb hS.ba hS.bb (by omega);obtain ⟨b2,hI2,i2⟩:=rK N n1 n2 n3 false false false (EP S.a) S.c n hAt hS.lc (mF hS.ba) hS.bc (by omega);rw[<-AfX]at i1;rw[<-AfZ]at i2;refine ⟨b1&&b2,?_,by rw[Bool.and_eq_true,i1,i2];simp [h0]⟩;refine Ev.x N.JD rfl rfl ?_;(repeat' ((first|(apply AG<;>intro hc<;>try omega)|apply AQ|apply AD|refine AC (yv) ?_|refine AC (yp _ _) ?_|refine AC (rf) ?_|refine mU (hI1) (λ hf => ?_) (λ hf => ?_)|refine mU (hI2) (λ hf => ?_) (λ hf => ?_))<;>conv=>whnf))
  all_goals exact AW (by simp [*]) (by simp [A1,CD])
theorem Wv {P Q:List Rat} (h1:Q.length=1) (h0:Q.getD 0 0=1) : ¬ J9 P Q:=by
 rintro ⟨y,_,hQ,j,hj⟩
 exact hj (QB (n:=0) h1 (by rw[h0];decide) hQ (λ i hi=>by omega) j)
theorem Aeg (W:v8 L) (N:mu L) (n1:L.num 289=WQ) (n2:L.num 95=WR) (n3:L.num 398=bV) (n4:L.num 370=bU) (b a t:List Int) (q1 q2 q3:Bool) (hb : ∀ v∈b,G4 v) (ha : ∀ v∈a,G4 v) (ht : ∀ v∈t,G4 v) (lb:b.length<9223372036854775808) (la:a.length<9223372036854775808) :
  Ev L 401 [.sl q1 (b.map ON),.sl q2 (a.map ON),.sl q3 (t.map ON)] (.bool true):=by
 have Hv:bq L:=N.tobq;have A:o5 L:=Hv.too5;have Az:=Aee Hv;have hF:=λ q1 q2=>Xx W Hv b a q1 q2 hb ha lb la
 obtain ⟨g1,g2⟩:=dU (v:=(b.length:Int)) (m:=5) (by omega);obtain ⟨g3,g4⟩:=dU (v:=(a.length:Int)) (m:=4) (by omega);have tB:BW (QO b)=QO b:=VN _;have tA:BW (PP a)=PP a:=VN _;have bB:Bs 4 (QO b):=(ZD _ _).trim;have bA:Bs 4 (PP a):=(ZD _ _).yo.trim;have h0:(PP a)[0]? = some 1:=Aix _;have lB:(QO b).length<=4:=by
  have h1:=J8 (E3 b (EW b.length 5).toNat);have h2:=IW (E3 b (EW b.length 5).toNat) (E3 b (EW b.length 5).toNat).length;rw[Q2]at h1 h2;unfold QO;rw[h1];omega
 have lA:(PP a).length<=4:=by
  have h1:=J8 (1::E3 a (EW a.length 4).toNat);have h2:=IW (1::E3 a (EW a.length 4).toNat) (1::E3 a (EW a.length 4).toNat).length;rw[List.length_cons,Q2]at h1 h2;unfold PP;rw[h1];omega
 generalize QO b=P at *;generalize PP a=Q at *;obtain ⟨n,hn⟩ : ∃ n,max (P.length-1) (Q.length-1)=n:=⟨_,rfl⟩;have Hf:n<=3:=by omega
 have Nc:0<Q.length:=(zS h0).1;have Bz:=rC A false false P Q n 4 tB tA bB bA (by omega) (by omega) h0 hn (by omega);have k1:(B4 P Q n).Ok n 13:=Xb bB bA;obtain ⟨b1,aq,i1⟩:=rE N.toaj n1 n2 n3 n4 (B4 P Q n) n (k1.le (by omega)) Hf;obtain ⟨R,hG,tR,lR,Pf,bR,iR⟩:=Yq N.todp false false P Q bB bA (by rw[tA];intro e;rw[e]at Nc;cases Nc) lB lA;have ju:CP R R.length=R.length:=by rw[<-J8,tR]
 have Dj:=λ q=>AeA A q R 1000000000000 bR (by omega) (by omega)
 rw[ju]at Dj;have my:b1=true↔R.length=1:=by
  have hc:(n=0\/NS n (J4 (B4 P Q n) n)/\NS n (H4 (B4 P Q n) n)) ↔ ¬ J9 P Q:=by
   by_cases wg:n=0
   ·exact ⟨λ_=>Wv (by omega) (IG h0),λ_=>Or.inl wg⟩
   ·obtain ⟨m1,m2⟩:=Wz tB tA (IG h0) hn (by omega) Hf
    rw[m2];exact ⟨λ h=>(h.resolve_left wg).2,λ h=>Or.inr ⟨m1,h⟩⟩
  rw[i1,hc,iR];omega
 have yp:=λ q=>Yu N.tofm t q n ht (by omega)
 obtain ⟨sT,bT⟩:=Age t n;generalize PU t n=T at *;obtain ⟨v,hS,hv⟩:=Yx N.tobp (B4 P Q n) T n k1 sT bT Hf;have x7:(B4 P Q n).a.length=n:=k1.la;have Na:((B4 P Q n).a.length:Int)=(n:Int):=by rw[x7]
 have yv : ∀ T' U':List (List Rat),Sq n T'->Sq n U'->(∀ v:List Rat,v.length=n->A6 U' (A6 T' v)=v)->(∀ v:List Rat,v.length=n->A6 T' (A6 U' v)=v)->(NS n (J4 (GA T' U' (B4 P Q n) n) n)↔NS n (J4 (B4 P Q n) n))/\(NS n (H4 (GA T' U' (B4 P Q n) n) n)↔NS n (H4 (B4 P Q n) n)):=λ T' U'=>Ah3 k1
 rcases hv with rfl|⟨U,sU,ef,Cg,okU,rfl⟩
 ·clear yv
  generalize B4 P Q n=S1 at *;rw[<-Na]at yp;cases ix:b1
  ·rw[ix]at aq
   have Ds:R.length≠1:=λ e=>by rw[my.2 e]at ix;cases ix
   refine Ev.x N.GU rfl rfl ?_;(repeat' ((first|(apply AG<;>intro hc<;>try omega)|apply AQ|apply AD|refine AC (hF _ _) ?_|refine AC (Bz) ?_|refine AC (aq) ?_|refine AC (hG) ?_|refine AC (yp _) ?_|refine AC (hS) ?_|refine AC (Az) ?_|refine AC (Dj _) ?_)<;>conv=>whnf))
   exact HH rfl
  ·rw[ix]at aq
   have Ds:R.length=1:=my.1 ix;refine Ev.x N.GU rfl rfl ?_;(repeat' ((first|(apply AG<;>intro hc<;>try omega)|apply AQ|apply AD|refine AC (hF _ _) ?_|refine AC (Bz) ?_|refine AC (aq) ?_|refine AC (hG) ?_|refine AC (yp _) ?_|refine AC (hS) ?_|refine AC (Az) ?_|refine AC (Dj _) ?_)<;>conv=>whnf))
   exact HH rfl
 ·obtain ⟨e1,e2⟩:=yv T U sT sU ef Cg
  obtain ⟨b2,eb,i2⟩:=rE N.toaj n1 n2 n3 n4 (GA T U (B4 P Q n) n) n okU Hf;have hb:b2=b1:=by
   rw[Bool.eq_iff_iff,i1,i2,e1,e2]
  subst hb;clear yv;generalize GA T U (B4 P Q n) n=S2 at *;generalize B4 P Q n=S1 at *;rw[<-Na]at yp;cases ix:b2
  ·rw[ix]at aq eb
   have Ds:R.length≠1:=λ e=>by rw[my.2 e]at ix;cases ix
   refine Ev.x N.GU rfl rfl ?_;(repeat' ((first|(apply AG<;>intro hc<;>try omega)|apply AQ|apply AD|refine AC (hF _ _) ?_|refine AC (Bz) ?_|refine AC (aq) ?_|refine AC (hG) ?_|refine AC (yp _) ?_|refine AC (hS) ?_|refine AC (eb) ?_|refine AC (Az) ?_|refine AC (Dj _) ?_)<;>conv=>whnf))
   exact HH rfl
  ·rw[ix]at aq eb
   have Ds:R.length=1:=my.1 ix;refine Ev.x N.GU rfl rfl ?_;(repeat' ((first|(apply AG<;>intro hc<;>try omega)|apply AQ|apply AD|refine AC (hF _ _) ?_|refine AC (Bz) ?_|refine AC (aq) ?_|refine AC (hG) ?_|refine AC (yp _) ?_|refine AC (hS) ?_|refine AC (eb) ?_|refine AC (Az) ?_|refine AC (Dj _) ?_)<;>conv=>whnf))
   exact HH rfl
end Go.e8
