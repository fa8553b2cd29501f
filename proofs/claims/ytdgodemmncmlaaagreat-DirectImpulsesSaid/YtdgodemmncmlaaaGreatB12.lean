/-
  The impulse response of a system is that of its transfer function, plain.
-/
import Derived.Test.YtdgodemmncmlaaaGreatB10
import Derived.Test.YtdgodemmncmlaaaGreatB11
import Derived.Test.YtdgodemmncmlaaaGreatB4
import Derived.Test.YtdgodemmncmlaaaGreatB1
import Derived.Test.YtdgodemmncmlaaaGreatB3
import Derived.Test.YtdgodemmncmlaaaGreatB8
set_option linter.unusedSimpArgs false
set_option linter.unusedVariables false
set_option linter.unnecessarySimpa false
namespace Go.Eng
def rowP (S:SysQ) (n:Nat):Nat→List Rat
 | 0=>S.c
 | d+1=>mulRow (rowP S n d) S.a n
theorem rowP_len {S:SysQ} {n:Nat} (h:S.c.length=n) : ∀ d,(rowP S n d).length=n
 | 0=>h
 | _+1=>mulRow_len _ _ _
theorem rowP_dot {S:SysQ} {n:Nat} (h : ∀ r∈S.a,r.length=n) : ∀ d j,dotQ (rowP S n d) (wQ S j)=dotQ S.c (wQ S (j+d))
 | 0,_=>rfl
 | d+1,j=>by
  rw[rowP,dotQ_assoc S.a (rowP S n d) h]
  show dotQ (rowP S n d) (wQ S (j+1))=_
  rw[rowP_dot h d (j+1),show j+1+d=j+(d+1) by omega]
theorem tf_lawA {S:SysQ} {n k:Nat} (h:S.Ok n k) (hn:n≤4) (K:Nat) :
  conv (fun a=>(tfA S n).getD a 0) (hQ S) K (min (tfA S n).length (K+1))=(tfB S n).getD K 0:=by
 by_cases hK:K≤n+2
 ·exact tf_law h hn K hK
 have hs:Sq n S.a:=⟨h.la,h.lr⟩
 have hbl:=belowQ_len S.a n n
 have hal:=aboveQ_len S n n
 have hle:(trimQ ((belowQ S.a n n).map (· * S.d))).length≤(aboveQ S n n).length:=by
  rw[trimQ_len]
  have:=cutN_le ((belowQ S.a n n).map (· * S.d)) ((belowQ S.a n n).map (· * S.d)).length
  rw[List.length_map]at this ⊢
  omega
 have hR:(tfB S n).getD K 0=(aboveQ S n n).getD K 0+(belowQ S.a n n).getD K 0*S.d:=by
  rw[tfB,trimQ_getD,addP_getD _ _ hle,trimQ_getD,smap_getD]
 have hL:conv (fun a=>(tfA S n).getD a 0) (hQ S) K (min (tfA S n).length (K+1))=conv (fun a=>(belowQ S.a n n).getD a 0) (hQ S) K (K+1):=by
  have e:conv (fun a=>(tfA S n).getD a 0) (hQ S) K (min (tfA S n).length (K+1))=conv (fun a=>(tfA S n).getD a 0) (hQ S) K (K+1):=by
   by_cases h1:(tfA S n).length≤K+1
   ·rw[Nat.min_eq_left h1]
    have:=conv_more (A:=fun a=>(tfA S n).getD a 0) (h:=hQ S) (K:=K) (m:=(tfA S n).length) (fun a ha=>gD_ge ha) (K+1-(tfA S n).length)
    rw[show (tfA S n).length+(K+1-(tfA S n).length)=K+1 by omega]at this
    exact this.symm
   ·rw[Nat.min_eq_right (by omega)]
  rw[e]
  exact conv_congr (K+1) (fun a _=>trimQ_getD _ a) fun _ _=>rfl
 have hCH:mvQ (flM S.a n n) S.b=List.replicate n 0:=by
  rw[chz_all hs hn,mvQ,List.map_replicate,dotQ_zeros]
 have hbz : ∀ a,n+1≤a→(belowQ S.a n n).getD a 0=0:=fun a ha=>gD_ge (by omega)
 rw[hL,hR,hbz K (by omega),gD_ge (l:=aboveQ S n n) (by omega),Rat.zero_mul,Rat.zero_add]
 obtain ⟨d,rfl⟩ : ∃ d,K=n+1+d:=⟨K-(n+1),by omega⟩
 have e0:=conv_more (A:=fun a=>(belowQ S.a n n).getD a 0) (h:=hQ S) (K:=n+1+d) (m:=n+1) hbz (d+1)
 rw[show n+1+(d+1)=n+1+d+1 by omega]at e0
 rw[e0]
 have e1:conv (fun a=>(belowQ S.a n n).getD a 0) (hQ S) (n+1+d) (n+1)=conv (cfQ S.a n) (fun j=>dotQ (rowP S n d) (wQ S j)) n (n+1):=by
  refine conv_congr (n+1) (fun a ha=>below_getD _ _ _ (by omega)) fun a ha => ?_
  rw[rowP_dot h.lr,show n+1+d-a=(n-a+d)+1 by omega];rfl
 have e3:=fl_conv hs h.lb n (rowP S n d) (rowP_len h.lc d)
 rw[hCH,dotQ_zerosR]at e3
 rw[e1]
 exact e3.symm
def tailC (A:List Rat) (a:Nat):Rat:=if a=0 then 0 else A.getD a 0
theorem conv_tail {A:List Rat} {h:Nat→Rat} {K:Nat} : ∀ m,conv (fun a=>A.getD a 0) h K (m+1)=conv (tailC A) h K (m+1)+A.getD 0 0*h K
 | 0=>by simp only[conv,tailC,if_true,Nat.sub_zero];grind
 | m+1=>by
  have e1:conv (fun a=>A.getD a 0) h K (m+1+1)=conv (fun a=>A.getD a 0) h K (m+1)+A.getD (m+1) 0*h (K-(m+1)):=rfl
  have e2:conv (tailC A) h K (m+1+1)=conv (tailC A) h K (m+1)+tailC A (m+1)*h (K-(m+1)):=rfl
  have e3:tailC A (m+1)=A.getD (m+1) 0:=if_neg (by omega)
  rw[e1,e2,e3,conv_tail m]
  grind
theorem imp_rec {A B:List Rat} {h:Nat→Rat} {K:Nat} (h0:A[0]? = some 1) (hl:conv (fun a=>A.getD a 0) h K (min A.length (K+1))=B.getD K 0):B.getD K 0-conv (tailC A) h K (min A.length (K+1))=h K:=by
 have hA:0<A.length:=(List.getElem?_eq_some_iff.1 h0).1
 obtain ⟨m,hm⟩ : ∃ m,min A.length (K+1)=m+1:=⟨min A.length (K+1)-1,by omega⟩
 rw[hm]at hl ⊢
 rw[conv_tail,gD_of h0]at hl
 grind
end Go.Eng
namespace Go.Eng
open F
attribute [local irreducible] AKM CmpP Req OpP UnP ConvP RdP LdR StR MkR LenP AppR AppN CpyR RowP SnR Bds SlS CallP CalP FinP pw LdM GetM SetM PutM MkM AppM SnM FlP CallR
set_option maxHeartbeats 8000000
variable {L:Lib}
theorem conv_btT {A h:Nat→Rat} {K k j:Nat} (ha : ∀ i,Bt k (A i)) (hh : ∀ i,i≤K→Bt j (h i)) : ∀ m,Bt (m*(k+j+1)) (conv A h K m)
 | 0=>Bt.zero _
 | m+1=>by
  rw[conv,Nat.succ_mul]
  exact ((conv_btT ha hh m).add ((ha m).mul (hh (K-m) (by omega)))).le (by omega)
theorem Bt.negV {k:Nat} {x:Rat} (h:Bt k x):Bt k (-x):=⟨by simpa using h.1,by simpa using h.2⟩
theorem ev_rof (N:ImpGLib L) (q1 q2:Bool) (B A:List Rat) (k:Nat) (tB:trimQ B=B) (tA:trimQ A=A) (hB:Bs k B) (hA:Bs k A) (hk:k<2199023255552) (lB:B.length≤1000000) (lA:A.length≤1000000) :
  Ev L 219 [.agg [.sl q1 (B.map eQ),.sl q2 (A.map eQ)]] (.agg [.sl false (B.map eQ),.sl false (A.map eQ)]):=by
 have h1:=ev_pTrim N.toPolyGLib q1 B k hB hk lB
 have h2:=ev_pTrim N.toPolyGLib q2 A k hA hk lA
 rw[tB]at h1
 rw[tA]at h2
 refine Ev.x N.response_of rfl rfl ?_
 (repeat' (first|(refine AKM.x ?_;conv=>whnf)|(refine CallP.go (h1) ?_;conv=>whnf)|(refine CallP.go (h2) ?_;conv=>whnf)))
 exact FinP.go rfl (by
  simp only[Clean,CleanL,true_and,and_true]
  exact ⟨cl_eQs _,cl_eQs _⟩)
theorem imp_at0 {m j:Nat} (hj:j<m):(impL m)[j]? = some (if j=0 then 1 else 0):=by
 rcases m with _|m
 ·omega
 ·cases j with
  | zero=>rfl
  | succ j=>rw[impL,List.getElem?_cons_succ,List.getElem?_replicate,if_pos (by omega),if_neg (by omega)]
theorem ev_rRun (N:ImpGLib L) (q1 q2 q3:Bool) (B A H:List Rat) (h:Nat→Rat) (m:Nat) (tB:trimQ B=B) (tA:trimQ A=A) (hB:Bs 64 B) (hA:Bs 64 A) (lB:B.length≤5) (lA:A.length≤5) (h0:A[0]? = some 1) (hm:m≤200) (hl:H.length=m)
  (hat : ∀ j,j<m→H[j]? = some (h j)) (hbt : ∀ j,j<m→Bt 100000000 (h j)) (hlaw : ∀ K,K<m→B.getD K 0-conv (tailC A) h K (min A.length (K+1))=h K) :
  Ev L 220 [.agg [.sl q1 (B.map eQ),.sl q2 (A.map eQ)],.sl q3 ((impL m).map eQ)] (.tup [.sl false (H.map eQ),.int .i64 0]):=by
 have hV:=ev_rValid N.toStGLib q1 q2 B A 64 hB hA (by omega) (by omega) (by omega) h0
 have hOf:=ev_rof N q1 q2 B A 64 tB tA hB hA (by omega) (by omega) (by omega)
 have hO:=ev_rational_Of N.toRatGLib 0 (by omega)
 have hil:=impL_len m
 have himp : ∀ j,j<m→(impL m)[j]? = some (if j=0 then 1 else 0):=fun j hj=>imp_at0 hj
 have hfin:Clean (.tup [.sl false (H.map eQ),.int .i64 0]):=by
  simp only[Clean,CleanL,true_and,and_true]
  exact cl_eQs _
 generalize impL m=X at *
 refine Ev.x N.response_Run rfl rfl ?_
 (repeat' (first|(refine CmpP.go (fun hc => ?_) (fun hc => ?_)<;>first|(exfalso;omega)|(conv=>whnf))|(refine LenP.go ?_;conv=>whnf)|(refine AKM.x ?_;conv=>whnf)|(refine CallP.go (hV) ?_;conv=>whnf)|(refine CallP.go (hOf) ?_;conv=>whnf)))
 refine MkR.go (enc:=eO) none m rfl (by omega) (by omega) ?_
 (conv=>whnf)
 (repeat' (refine LenP.go ?_;conv=>whnf))
 refine AKM.loop1 (fun K=>m-K) (fun (K:Nat)=>K≤m) (fun K=>[(27,.int .i64 K)]) (fun K=>[(24,24,.rw 3 ((fillO (H.take K) m).map eO))]) [] [] 0 (by first|exact (by (conv=>whnf);exact ⟨rfl,rfl,rfl⟩)|(rw[List.take_zero,←fillO_nil];exact (by (conv=>whnf);exact ⟨rfl,rfl,rfl⟩))) (by omega) ?_
 intro K p1 Kh
 have hlf:=fillO_len (l:=H.take K) (m:=m) (by rw[List.length_take];omega)
 by_cases hK:K<m
 ·have hst:=fillO_set (l:=H.take K) (m:=m) (x:=h K) (by rw[List.length_take];omega)
  rw[List.length_take,Nat.min_eq_left (by omega),←take_snocX (hat K hK)]at hst
  have hlw:=hlaw K hK
  have hrd : ∀ i,i<K→(fillO (H.take K) m)[i]? = some (some (h i)):=fun i hi=>by
   have:(H.take K)[i]? = some (h i):=by rw[List.getElem?_take_of_lt hi];exact hat i (by omega)
   rw[fillO,List.getElem?_append_left (by rw[List.length_map,List.length_take];omega),List.getElem?_map,this];rfl
  generalize fillO (H.take K) m=W at *
  (repeat' (first|(refine CmpP.go (fun hc => ?_) (fun hc => ?_)<;>first|(exfalso;omega)|(conv=>whnf))|(refine LenP.go ?_;conv=>whnf)|(refine AKM.x ?_;conv=>whnf)|(refine CallP.go (hO) ?_;conv=>whnf)))
  refine AKM.loop1 (fun j=>B.length-j) (fun (j:Nat)=>j≤B.length) (fun j=>[(35,.int .i64 j)]) (fun j=>[(9,9,.bx (eQ (if K<j then B.getD K 0 else 0)))]) [] [] 0 (by (conv=>whnf);exact ⟨rfl,rfl,rfl⟩) (by omega) ?_
  intro j p2 jh
  by_cases hj:j<B.length
  ·obtain ⟨x,hx⟩ : ∃ x,B[j]? = some x:=⟨_,List.getElem?_eq_getElem hj⟩
   have hx':B[(j:Int).toNat]? = some x:=hx
   have bx:=hB.at hx
   by_cases hjK:j≤K
   ·rw[if_neg (by omega)]at *
    have hy:=himp (K-j) (by omega)
    have hy':X[((K:Int)-(j:Int)).toNat]? = some (if K-j=0 then 1 else 0):=by rw[show ((K:Int)-(j:Int)).toNat=K-j by omega];exact hy
    have by0:Bt 0 (if K-j=0 then (1:Rat) else 0):=by split;exact Bt.one 0;exact Bt.zero 0
    have hM:=ev_mulQ N.toRatGLib bx by0 (by omega) (by omega)
    have hA2:=ev_addQ N.toRatGLib (Bt.zero 0) (bx.mul by0) (by omega) (by omega)
    have hnx:(0:Rat)+x*(if K-j=0 then 1 else 0)=if K<j+1 then B.getD K 0 else 0:=by
     by_cases e:K=j
     ·subst e
      rw[if_pos (by omega),if_pos (by omega),gD_of hx];grind
     ·rw[if_neg (by omega),if_neg (by omega)];grind
    rw[hnx]at hA2
    have jh2:=jh (j+1) (by omega) (by omega)
    generalize (if K<j+1 then B.getD K 0 else 0)=s2 at *
    generalize (if K-j=0 then (1:Rat) else 0)=y at *
    (repeat' (first|(refine CmpP.go (fun hc => ?_) (fun hc => ?_)<;>first|(exfalso;omega)|(conv=>whnf))|(refine OpP.add ?_ ?_;omega;conv=>whnf)|(refine OpP.sub ?_ ?_;omega;conv=>whnf)|(refine RdP.at (by assumption) ?_ rfl ?_;omega;conv=>whnf)|(refine AKM.x ?_;conv=>whnf)|(refine CallP.go (hM) ?_;conv=>whnf)|(refine CallP.go (hA2) ?_;conv=>whnf)))
    exact AKM.back [] (by (conv=>whnf);exact ⟨rfl,rfl,rfl⟩) jh2
   ·have e1:(if K<j then B.getD K 0 else 0)=B.getD K 0:=if_pos (by omega)
    have e2:(if K<j+1 then B.getD K 0 else 0)=B.getD K 0:=if_pos (by omega)
    have jh2:=jh (j+1) (by omega) (by omega)
    rw[e2]at jh2
    rw[e1]
    (repeat' (first|(refine CmpP.go (fun hc => ?_) (fun hc => ?_)<;>first|(exfalso;omega)|(conv=>whnf))|(refine OpP.add ?_ ?_;omega;conv=>whnf)|(refine RdP.at (by assumption) ?_ rfl ?_;omega;conv=>whnf)|(refine AKM.x ?_;conv=>whnf)))
    exact AKM.back [] (by (conv=>whnf);exact ⟨rfl,rfl,rfl⟩) jh2
  obtain rfl:j=B.length:=by omega
  clear jh
  have e3:(if K<B.length then B.getD K 0 else 0)=B.getD K 0-conv (tailC A) h K (min 0 (K+1)):=by
   rw[Nat.zero_min,conv]
   split
   ·grind
   ·rw[gD_ge (by omega)];grind
  rw[e3]
  (repeat' (first|(refine CmpP.go (fun hc => ?_) (fun hc => ?_)<;>first|(exfalso;omega)|(conv=>whnf))|(refine LenP.go ?_;conv=>whnf)|(refine AKM.x ?_;conv=>whnf)))
  refine AKM.loop1 (fun j=>A.length-j) (fun (j:Nat)=>j≤A.length) (fun j=>[(58,.int .i64 j)]) (fun j=>[(9,9,.bx (eQ (B.getD K 0-conv (tailC A) h K (min j (K+1)))))]) [] [] 0 (by (conv=>whnf);exact ⟨rfl,rfl,rfl⟩) (by omega) ?_
  intro j p3 jh
  have bc:Bt ((min j (K+1))*(64+100000000+1)) (conv (tailC A) h K (min j (K+1))):=conv_btT (fun i=>by unfold tailC;split;exact Bt.zero _;exact getD_bt hA i) (fun i hi=>hbt i (by omega)) _
  have bc2:Bt 600000000 (conv (tailC A) h K (min j (K+1))):=bc.le (Nat.le_trans (Nat.mul_le_mul_right _ (show min j (K+1)≤5 by omega)) (by decide))
  have bs:Bt 700000000 (B.getD K 0-conv (tailC A) h K (min j (K+1))):=by
   rw[Rat.sub_eq_add_neg]
   exact ((getD_bt hB K).add bc2.negV).le (by omega)
  by_cases hj:j<A.length
  ·obtain ⟨x,hx⟩ : ∃ x,A[j]? = some x:=⟨_,List.getElem?_eq_getElem hj⟩
   have hx':A[(j:Int).toNat]? = some x:=hx
   have bx:=hA.at hx
   by_cases hjK:1≤j∧j≤K
   ·have hy:=hrd (K-j) (by omega)
    have hy':W[((K:Int)-(j:Int)).toNat]? = some (some (h (K-j))):=by rw[show ((K:Int)-(j:Int)).toNat=K-j by omega];exact hy
    have hM:=ev_mulQ N.toRatGLib bx (hbt (K-j) (by omega)) (by omega) (by omega)
    have hS:=ev_subQ N.toRatHLib bs (bx.mul (hbt (K-j) (by omega))) (by omega) (by omega)
    have hnx:B.getD K 0-conv (tailC A) h K (min j (K+1))-x*h (K-j)=B.getD K 0-conv (tailC A) h K (min (j+1) (K+1)):=by
     rw[Nat.min_eq_left (by omega),Nat.min_eq_left (by omega),conv,tailC,if_neg (by omega),gD_of hx]
     grind
    rw[hnx]at hS
    have jh2:=jh (j+1) (by omega) (by omega)
    generalize B.getD K 0-conv (tailC A) h K (min (j+1) (K+1))=s2 at *
    generalize B.getD K 0-conv (tailC A) h K (min j (K+1))=s1 at *
    generalize h (K-j)=y at *
    (repeat' (first|(refine CmpP.go (fun hc => ?_) (fun hc => ?_)<;>first|(exfalso;omega)|(conv=>whnf))|(refine Req.go ?_ ?_;omega;conv=>whnf)|(refine OpP.sub ?_ ?_;omega;conv=>whnf)|(refine RdP.at (by assumption) ?_ rfl ?_;omega;conv=>whnf)|(refine AKM.x ?_;conv=>whnf)))
    refine LdR.at (enc:=eO) (e:=some y) (by rw[Nat.zero_add];exact hy') rfl ?_
    (conv=>whnf)
    (repeat' (first|(refine OpP.add ?_ ?_;omega;conv=>whnf)|(refine CallP.go (hM) ?_;conv=>whnf)|(refine CallP.go (hS) ?_;conv=>whnf)))
    exact AKM.back [] (by (conv=>whnf);exact ⟨rfl,rfl,rfl⟩) jh2
   ·have hnx:conv (tailC A) h K (min (j+1) (K+1))=conv (tailC A) h K (min j (K+1)):=by
     by_cases e:j=0
     ·subst e
      have e2:conv (tailC A) h K (0+1)=conv (tailC A) h K 0+tailC A 0*h (K-0):=rfl
      have e3:tailC A 0=0:=rfl
      rw[Nat.zero_min,Nat.min_eq_left (by omega),e2,e3,Rat.zero_mul,Rat.add_zero]
     ·rw[Nat.min_eq_right (by omega),Nat.min_eq_right (by omega)]
    have jh2:=jh (j+1) (by omega) (by omega)
    rw[hnx]at jh2
    generalize B.getD K 0-conv (tailC A) h K (min j (K+1))=s1 at *
    (repeat' (first|(refine CmpP.go (fun hc => ?_) (fun hc => ?_)<;>first|(exfalso;omega)|(conv=>whnf))|(refine OpP.add ?_ ?_;omega;conv=>whnf)|(refine RdP.at (by assumption) ?_ rfl ?_;omega;conv=>whnf)|(refine AKM.x ?_;conv=>whnf)))
    all_goals exact AKM.back [] (by (conv=>whnf);exact ⟨rfl,rfl,rfl⟩) jh2
  obtain rfl:j=A.length:=by omega
  clear jh
  rw[hlw]
  (repeat' (first|(refine CmpP.go (fun hc => ?_) (fun hc => ?_)<;>first|(exfalso;omega)|(conv=>whnf))|(refine Req.go ?_ ?_;omega;conv=>whnf)|(refine AKM.x ?_;conv=>whnf)))
  refine StR.nat (enc:=eO) (some (h K)) rfl (fun e=>by cases e<;>rfl) (by omega) ?_
  (conv=>whnf)
  (repeat' (refine OpP.add ?_ ?_;omega;conv=>whnf))
  rw[hst]
  exact AKM.back [] (by (conv=>whnf);exact ⟨rfl,rfl,rfl⟩) (Kh (K+1) (by omega) (by omega))
 obtain rfl:K=m:=by omega
 clear Kh
 rw[List.take_of_length_le (by omega),fillO_full hl]
 (repeat' (first|(refine CmpP.go (fun hc => ?_) (fun hc => ?_)<;>first|(exfalso;omega)|(conv=>whnf))|(refine AKM.x ?_;conv=>whnf)))
 refine SnR.all (enc:=eQ) (fun _=>rfl) rfl (by omega) ?_
 (conv=>whnf)
 exact FinP.go rfl hfin
theorem ev_rImpulse (N:ImpGLib L) (q1 q2:Bool) (B A H:List Rat) (h:Nat→Rat) (m:Nat) (tB:trimQ B=B) (tA:trimQ A=A) (hB:Bs 64 B) (hA:Bs 64 A) (lB:B.length≤5) (lA:A.length≤5) (h0:A[0]? = some 1) (hm:1≤m∧m≤200) (hl:H.length=m)
  (hat : ∀ j,j<m→H[j]? = some (h j)) (hbt : ∀ j,j<m→Bt 100000000 (h j)) (hlaw : ∀ K,K<m→B.getD K 0-conv (tailC A) h K (min A.length (K+1))=h K) :
  Ev L 221 [.agg [.sl q1 (B.map eQ),.sl q2 (A.map eQ)],.int .i64 (m:Int)] (.tup [.sl false (H.map eQ),.int .i64 0]):=by
 have hV:=ev_rValid N.toStGLib q1 q2 B A 64 hB hA (by omega) (by omega) (by omega) h0
 have hR:=fun q3=>ev_rRun N q1 q2 q3 B A H h m tB tA hB hA lB lA h0 hm.2 hl hat hbt hlaw
 have hO:=ev_rational_Of N.toRatGLib 0 (by omega)
 have hI:=ev_rational_Of N.toRatGLib 1 (by omega)
 have himp:(List.replicate m (0:Rat)).set 0 1=impL m:=by
  rcases m with _|m
  ·omega
  ·simp [impL,List.replicate_succ]
 have hil:=impL_len m
 refine Ev.x N.response_Impulse rfl rfl ?_
 (repeat' (first|(refine CmpP.go (fun hc => ?_) (fun hc => ?_)<;>first|(exfalso;omega)|(conv=>whnf))|(refine AKM.x ?_;conv=>whnf)|(refine CallP.go (hV) ?_;conv=>whnf)))
 refine MkR.go (enc:=eO) none m rfl rfl (by omega) ?_
 (conv=>whnf)
 skip
 refine AKM.loop1 (fun i=>m-i) (fun (i:Nat)=>i≤m) (fun i=>[(21,.int .i64 i)]) (fun i=>[(18,18,.rw 3 ((fillO (List.replicate i 0) m).map eO))]) [] [] 0 (by first|exact (by (conv=>whnf);exact ⟨rfl,rfl,rfl⟩)|(rw[←fillO_nil];exact (by (conv=>whnf);exact ⟨rfl,rfl,rfl⟩))) (by omega) ?_
 intro i p1 ih
 by_cases hi:i<m
 ·have hl:=fillO_len (l:=List.replicate i (0:Rat)) (m:=m) (by simp;omega)
  have hs:=fillO_set (l:=List.replicate i (0:Rat)) (m:=m) (x:=0) (by simp;omega)
  rw[List.length_replicate]at hs
  (repeat' (first|(refine CmpP.go (fun hc => ?_) (fun hc => ?_)<;>first|(exfalso;omega)|(conv=>whnf))|(refine Req.go ?_ ?_;omega;conv=>whnf)|(refine AKM.x ?_;conv=>whnf)|(refine CallP.go (hO) ?_;conv=>whnf)))
  refine StR.nat (enc:=eO) (some 0) rfl (fun e=>by cases e<;>rfl) (by omega) ?_
  (conv=>whnf)
  (repeat' (refine OpP.add ?_ ?_;omega;conv=>whnf))
  rw[hs]
  rw[show List.replicate i (0:Rat)++[0]=List.replicate (i+1) 0 by rw[List.replicate_succ']]
  exact AKM.back [] (by (conv=>whnf);exact ⟨rfl,rfl,rfl⟩) (ih (i+1) (by omega) (by omega))
 obtain rfl:i=m:=by omega
 clear ih
 rw[fillO_full (by simp)]
 (repeat' (first|(refine CmpP.go (fun hc => ?_) (fun hc => ?_)<;>first|(exfalso;omega)|(conv=>whnf))|(refine Req.go ?_ ?_;omega;conv=>whnf)|(refine AKM.x ?_;conv=>whnf)|(refine CallP.go (hI) ?_;conv=>whnf)))
 refine StR.at (enc:=eQ) 0 1 rfl rfl (fun _=>rfl) (by simp;omega) ?_
 (conv=>whnf)
 rw[himp]
 skip
 refine SnR.all (enc:=eQ) (fun _=>rfl) rfl hil.symm ?_
 (conv=>whnf)
 (repeat' (refine CallP.go (hR _) ?_;conv=>whnf))
 exact FinP.go rfl (by
  simp only[Clean,CleanL,true_and,and_true]
  exact cl_eQs _)
end Go.Eng

namespace Go.Eng
open F
attribute [local irreducible] AKM CmpP Req OpP UnP ConvP RdP LdR StR MkR LenP AppR AppN CpyR RowP SnR Bds SlS CallP CalP FinP pw LdM GetM SetM PutM MkM AppM SnM FlP CallR
set_option maxHeartbeats 1000000
variable {L:Lib}
end Go.Eng



namespace Go.Eng
open F
attribute [local irreducible] AKM CmpP Req OpP UnP ConvP RdP LdR StR MkR LenP AppR AppN CpyR RowP SnR Bds SlS CallP CalP FinP pw LdM GetM SetM PutM MkM AppM SnM FlP CallR
set_option maxHeartbeats 4000000
variable {L:Lib}
end Go.Eng



namespace Go.Eng
open F
attribute [local irreducible] AKM CmpP Req OpP UnP ConvP RdP LdR StR MkR LenP AppR AppN CpyR RowP SnR Bds SlS CallP CalP FinP pw LdM GetM SetM PutM MkM AppM SnM FlP CallR
set_option maxHeartbeats 8000000
variable {L:Lib}
theorem SysQ.Ok.le {S:SysQ} {n k j:Nat} (h:S.Ok n k) (hj:k≤j):S.Ok n j:=⟨h.la,h.lr,h.lb,h.lc,fun r hr=>(h.ba r hr).le hj,h.bb.le hj,h.bc.le hj,h.bd.le hj⟩
theorem SysQ.Ok.outs_bs {S:SysQ} {n k K:Nat} (h:S.Ok n k) : ∀ (xs now:List Rat) (s:Nat),now.length=n→Bs s now→Bs k xs→(∀ i,i≤xs.length→respK n k s i≤K)→Bs K (S.outs now xs)∧Bs K (S.state now xs)
 | [],now,s,_,hs,_,hK=>⟨fun x hx=>by simp [SysQ.outs]at hx,hs.le (hK 0 (by simp))⟩
 | x::xs,now,s,hl,hs,hx,hK=>by
  obtain ⟨b1,b2⟩:=h.next_bs hl hs (hx x (by simp))
  obtain ⟨c1,c2⟩:=h.outs_bs xs (S.next now x) (stepK n k s) (h.next_len now x) b1 (fun z hz=>hx z (by simp [hz])) (fun i hi=>hK (i+1) (by simp;omega))
  refine ⟨?_,c2⟩
  intro z hz
  simp only[SysQ.outs,List.mem_cons]at hz
  rcases hz with rfl|hz
  ·exact b2.le (hK 1 (by simp))
  ·exact c1 z hz
end Go.Eng

namespace Go.Eng
open F
attribute [local irreducible] AKM CmpP Req OpP UnP ConvP RdP LdR StR MkR LenP AppR AppN CpyR RowP SnR Bds SlS CallP CalP FinP pw LdM GetM SetM PutM MkM AppM SnM FlP CallR
set_option maxHeartbeats 8000000
set_option maxRecDepth 8000
variable {L:Lib}
theorem respK_imp : ∀ n,n<5 → ∀ i,i<9→respK n 80 0 i≤100000000:=by decide +kernel
theorem trim_ones (l:List Rat):(trimQ (1::l))[0]? = some 1:=by
 have hp : ∀ n,0<n→0<cutN (1::l) n:=by
  intro n
  induction n with
  | zero=>intro h;omega
  | succ n ih =>
   intro _
   rw[cutN]
   split
   ·rename_i h0
    refine ih ?_
    rcases n with _|n
    ·exact absurd h0 (show (1:Rat)≠0 by decide)
    ·omega
   ·omega
 have:=hp (1::l).length (by simp)
 rw[trimQ,List.getElem?_take_of_lt this];rfl
theorem ev_law23_DirectImpulses (I:FixedLib L) (J:NetLib L) (W:WorldLib L) (R:RunGLib L) (N:LawWLib L) (kd dk ck:Int) (h0:InI kd) (h1:InI dk) (h2:InI ck) (b a:List Int) (q1 q2:Bool) (lb:b.length<9223372036854775808) (la:a.length<9223372036854775808) :
  Ev L 222 [.int .i64 kd,.int .i64 dk,.int .i64 ck,.sl q1 (b.map encInt),.sl q2 (a.map encInt)] (.bool true):=by
 have V:LawVLib L:=N.toLawVLib
 have hK:=ev_law23_known I J R V.toDirectGLib
 obtain ⟨n,m,c,P,Q,hF,hcw,hP,hQw,lP,lQ,hf⟩:=ev_form23 I W V kd dk ck h0 h1 h2 b a q1 q2 lb la
 have hL:=ev_Linear I V.toLinGLib n hF.net hF.sm hF.nl
 have m4:=hF.m4
 have hok:=hF.ok
 have hK0 : ∀ i,i≤8→respK m 80 0 i≤100000000:=fun i hi=>respK_imp m (by omega) i (by omega)
 have hIm:Ev L 134 [.agg (eS (linQ n)),.int .i64 8] _:=ev_Impulse V.toSysGLib (linQ n) m 80 8 hok (by omega) (by omega) (fun i hi=>by have:=hK0 i (by omega);omega) (by omega)
 obtain ⟨u5,_⟩:=hok.outs_bs (K:=100000000) (impL 8) (List.replicate m 0) 0 (by simp) (Bs.zeros _ _) (impL_bs _ _) (fun i hi=>hK0 i (by rw[impL_len]at hi;omega))
 have hHl:=outs_len (linQ n) (impL 8) (List.replicate m 0)
 rw[impL_len]at hHl
 have hHat : ∀ j,j<8→((linQ n).outs (List.replicate m 0) (impL 8))[j]? = some (hQ (linQ n) j):=fun j hj=>imp_at (by rw[hok.la,hok.lb]) hj
 have hhb : ∀ j,j<8→Bt 100000000 (hQ (linQ n) j):=fun j hj=>u5.at (hHat j hj)
 have hlaw:=fun K=>tf_lawA hok m4 K
 rw[hF.ta,hF.tb]at hlaw
 have bP:Bs 64 (numQ c P):=num_bs hcw fun v hv=>by have:=FT_le (hP v hv);omega
 have bQ:Bs 64 (1::numQ c Q):=Bs.cons0 (Bt.one 64) (num_bs hcw fun v hv=>by have:=FT_le (hQw v hv);omega)
 have t1:=trim_le (numQ c P)
 have t2:=trim_le (1::numQ c Q)
 have n1:=numQ_len c P
 have n2:=numQ_len c Q
 rw[List.length_cons]at t2
 have hA0:=trim_ones (numQ c Q)
 have tB:=trimQ_idem (numQ c P)
 have tA:=trimQ_idem (1::numQ c Q)
 have bB:=bP.trim
 have bA:=bQ.trim
 generalize trimQ (numQ c P)=B at *
 generalize trimQ (1::numQ c Q)=A at *
 have hR:=ev_rImpulse N.toImpGLib false false B A ((linQ n).outs (List.replicate m 0) (impL 8)) (hQ (linQ n)) 8 tB tA bB bA (by omega) (by omega) hA0 (by omega) hHl hHat hhb (fun K _=>imp_rec hA0 (hlaw K))
 have hSR:=ev_SameRats V.toRefGLib ((linQ n).outs (List.replicate m 0) (impL 8)) ((linQ n).outs (List.replicate m 0) (impL 8)) false false 100000000 u5 u5 (by omega) (by omega)
 rw[decide_eq_true rfl]at hSR
 generalize (linQ n).outs (List.replicate m 0) (impL 8)=H at *
 generalize linQ n=S at *
 have hR:Ev L 221 [.agg [.sl false (B.map eQ),.sl false (A.map eQ)],.int .i64 8] (.tup [.sl false (H.map eQ),.int .i64 0]):=hR
 refine Ev.x N.law23_DirectImpulses rfl rfl ?_
 (repeat' (first|(refine CmpP.go (fun hc => ?_) (fun hc => ?_)<;>first|(exfalso;omega)|(conv=>whnf))|(refine AKM.x ?_;conv=>whnf)|(refine CallP.go (hf) ?_;conv=>whnf)|(refine CallP.go (hL) ?_;conv=>whnf)|(refine CallP.go (hIm) ?_;conv=>whnf)|(refine CallP.go (hR) ?_;conv=>whnf)|(refine CallP.go (hK) ?_;conv=>whnf)|(refine CallP.go (hSR) ?_;conv=>whnf)))
 exact FinP.b rfl
end Go.Eng

namespace Go.Eng
theorem list_ofR {α:Type} {enc:α→List AV} {p:α→Prop} : ∀ {es:List (List AV)},(∀ x∈es,∃ y,x=enc y∧p y) → ∃ l:List α,es=l.map enc ∧ ∀ y∈l,p y
 | [],_=>⟨[],rfl,by simp⟩
 | e::es,h=>by
  obtain ⟨y,rfl,hy⟩:=h e List.mem_cons_self
  obtain ⟨l,rfl,hl⟩:=list_ofR (enc:=enc) (p:=p) fun x hx=>h x (List.mem_cons_of_mem _ hx)
  exact ⟨y::l,rfl,by simpa using ⟨hy,hl⟩⟩
theorem has_slR {α:Type} {enc:α→List AV} {p:α→Prop} {e:Ty} {cs:List AV} (he : ∀ x,HasL e x → ∃ y,x=enc y∧p y) (h:HasL (.sl e) cs) : ∃ l:List α,cs=[.sl true (l.map enc)]∧l.length<9223372036854775808 ∧ ∀ y∈l,p y:=by
 obtain ⟨es,rfl,hl,hx⟩:=h
 obtain ⟨l,rfl,hp⟩:=list_ofR (enc:=enc) (p:=p) fun x hm=>he x (hx x hm)
 refine ⟨l,rfl,?_,hp⟩
 have:maxLen=9223372036854775807:=rfl
 simp at hl
 omega
theorem wf_InR {n:Int} (h:(Lit.int .i64 n).wf=true):InI n:=by
 simp only[Lit.wf,Bool.and_eq_true,decide_eq_true_eq]at h
 have h1:IntKind.i64.min = -9223372036854775808:=rfl
 have h2:IntKind.i64.max=9223372036854775807:=rfl
 rw[h1,h2]at h
 unfold InI
 constructor<;>omega
theorem has_iR {cs:List AV} (h:HasL tI cs) : ∃ n,cs=encInt n∧InI n:=by obtain ⟨n,rfl,hw⟩:=h;exact ⟨n,rfl,wf_InR hw⟩
theorem has_intsR {cs:List AV} (h:HasL (.sl tI) cs) : ∃ l:List Int,cs=[.sl true (l.map encInt)]∧l.length<9223372036854775808 ∧ ∀ v∈l,InI v:=has_slR (fun _=>has_iR) h
end Go.Eng
