/-
  The law StatespaceEquals.
-/
import Derived.Test.YtpefogchdoedbaaGreatB12
set_option linter.unusedSimpArgs false
set_option linter.unusedVariables false
set_option linter.unnecessarySimpa false
namespace Go.Eng
open F
attribute [local irreducible] AA AF AR AD B0 AU AX A8 A6 BN AP BK BV CN BI AZ BG BQ AB A7 AJ pw BH BF B9 B8 CI B7 CB BM B3
set_option maxHeartbeats 8000000
set_option maxRecDepth 8000
variable {L:Lib}
theorem Adf (l:List Int) (n:Nat):Sq n (N2 l n)/\Ms 4 (N2 l n):=by
 have hX:=SL l (n*n)
 have hb:=pJ l (n*n)
 have hr : ∀ r∈N2 l n,∃ j,j<n/\r=NH (F4 l (n*n)) n j:=fun r hr=>by
  simp only[N2,FM,List.mem_map,List.mem_range]at hr
  obtain ⟨j,h1,rfl⟩:=hr
  exact ⟨j,h1,rfl⟩
 refine ⟨⟨Ade l n,?_⟩,?_⟩
 ·intro r h
  obtain ⟨j,h1,rfl⟩:=hr r h
  refine pU ?_
  have:=Nat.mul_le_mul_right n (show j+1<=n by omega)
  rw[Nat.succ_mul]at this
  omega
 ·intro r h x hx
  obtain ⟨j,h1,rfl⟩:=hr r h
  exact hb x (List.mem_of_mem_take (List.mem_of_mem_drop hx))
theorem pO : ∀ n,n<3 -> ∀ i,i<6->MU n 80 0 i<=1000000:=by decide +kernel
theorem kP (N:EquGLib L) (S U:B4) (n m:Nat) (hS:S.Ok n 80) (hU:U.Ok m 80) (hn:n<=2) (hm:m<=2) :
  ∃ b:Bool,Ev L 282 [.agg (eS S),.agg (eS U)] (.tup [.bool b,.int .i64 0])/\Ev L 283 [.agg [.sl false ((DM S n).map eQ),.sl false ((CJ S n).map eQ)],.agg [.sl false ((DM U m).map eQ),.sl false ((CJ U m).map eQ)]] (.tup [.bool b,.int .i64 0])/\((∀ K,hQ S K=hQ U K)->b=true):=by
 obtain ⟨b1,e1,i1⟩:=AaP N S U n m 80 hS hU (by omega) (by omega) (fun i hi=>pO n (by omega) i (by omega)) (fun i hi=>pO m (by omega) i (by omega)) (by omega)
 obtain ⟨bA,bB⟩:=rS hS hn
 obtain ⟨bC,bD⟩:=rS hU hm
 obtain ⟨lA,lB⟩:=VC S n
 obtain ⟨lC,lD⟩:=VC U m
 obtain ⟨b2,e2,i2⟩:=Aby N false false false false (DM S n) (CJ S n) (DM U m) (CJ U m) 100000 (rR S n) (rP S n) (rR U m) (rP U m) (by omega) (by omega) (by omega) (by omega) bB bA bD bC (by omega) (rO S n) (rO U m)
 have h12:b2=b1:=by
  rw[Bool.eq_iff_iff,i1,i2]
  exact (AgP hS hU hn hm).symm
 subst h12
 exact ⟨b2,e1,e2,fun h=>i1.2 fun K _=>h K⟩
theorem Aa6 (N:EquGLib L) (l m t:List Int) (size other:Int) (same:Bool) (q1 q2 q3:Bool) (hl : ∀ v∈l,G1 v) (hm : ∀ v∈m,G1 v) (ht : ∀ v∈t,G1 v) (hs:G1 size) (ho:G1 other) :
  Ev L 286 [.sl q1 (l.map NZ),.sl q2 (m.map NZ),.sl q3 (t.map NZ),.int .i64 size,.int .i64 other,.bool same] (.bool true):=by
 have W:WorldLib L:=N.toWorldLib
 have T:RatsGLib L:=N.toRatsGLib
 have A:TrGLib L:=N.toTrGLib
 have hkn:=Aa5 N.toLawFLib
 obtain ⟨g1,g2⟩:=sI (v:=size) (m:=3) (by omega)
 obtain ⟨g3,g4⟩:=sI (v:=other) (m:=3) (by omega)
 have hW1:=aB W size 3 hs (by omega)
 have hW2:=aB W other 3 ho (by omega)
 generalize F8 size 3=z1 at *
 generalize F8 other 3=z2 at *
 obtain ⟨n,rfl⟩:=Int.eq_ofNat_of_zero_le g1
 obtain ⟨k,rfl⟩:=Int.eq_ofNat_of_zero_le g3
 have hS1:=fun q=>kA T l q n hl (by omega)
 have hS2:=fun q=>kA T m q k hm (by omega)
 have hok1:=rM l n
 have hok2:=rM m k
 generalize PR l n=S at *
 generalize PR m k=U at *
 have hT1:=ZU A S n (hok1.le (by omega)) (by omega)
 cases same with
 | false =>
  have hT2:=ZU A U k (hok2.le (by omega)) (by omega)
  obtain ⟨b,hE,hR,_⟩:=kP N S U n k (hok1.le (by omega)) (hok2.le (by omega)) (by omega) (by omega)
  refine Ev.x N.G7 rfl rfl ?_
  cases b
  ·(repeat' (first|(refine AG (fun hc => ?_) (fun hc => ?_)<;>first|(exfalso;omega)|(conv=>whnf))|(refine AE ?_;conv=>whnf)|(refine AC (hW1) ?_;conv=>whnf)|(refine AC (hW2) ?_;conv=>whnf)|(refine AC (hS1 _) ?_;conv=>whnf)|(refine AC (hS2 _) ?_;conv=>whnf)|(refine AC (hE) ?_;conv=>whnf)|(refine AC (hT1) ?_;conv=>whnf)|(refine AC (hT2) ?_;conv=>whnf)|(refine AC (hR) ?_;conv=>whnf)|(refine AC (hkn) ?_;conv=>whnf)))
   exact IK rfl
  ·(repeat' (first|(refine AG (fun hc => ?_) (fun hc => ?_)<;>first|(exfalso;omega)|(conv=>whnf))|(refine AE ?_;conv=>whnf)|(refine AC (hW1) ?_;conv=>whnf)|(refine AC (hW2) ?_;conv=>whnf)|(refine AC (hS1 _) ?_;conv=>whnf)|(refine AC (hS2 _) ?_;conv=>whnf)|(refine AC (hE) ?_;conv=>whnf)|(refine AC (hT1) ?_;conv=>whnf)|(refine AC (hT2) ?_;conv=>whnf)|(refine AC (hR) ?_;conv=>whnf)|(refine AC (hkn) ?_;conv=>whnf)))
   exact IK rfl
 | true =>
  have hM : ∀ q,Ev L 280 [.sl q (t.map NZ),.int .i64 (S.a.length:Nat)] (.sl false (eM (N2 t n))):=fun q=>by
   rw[hok1.la];exact AaU N.toWMatLib t q n ht (by omega)
  obtain ⟨hq,hb4⟩:=Adf t n
  generalize N2 t n=P at *
  obtain ⟨v,hV,hv0⟩:=AaX N S P n hok1 hq hb4 (by omega)
  rcases hv0 with rfl|⟨Z,rfl,hok3,hh⟩
  ·refine Ev.x N.G7 rfl rfl ?_
   (repeat' (first|(refine AG (fun hc => ?_) (fun hc => ?_)<;>first|(exfalso;omega)|(conv=>whnf))|(refine AW ?_;conv=>whnf)|(refine AE ?_;conv=>whnf)|(refine AC (hW1) ?_;conv=>whnf)|(refine AC (hW2) ?_;conv=>whnf)|(refine AC (hS1 _) ?_;conv=>whnf)|(refine AC (hS2 _) ?_;conv=>whnf)|(refine AC (hM _) ?_;conv=>whnf)|(refine AC (hV) ?_;conv=>whnf)|(refine AC (hkn) ?_;conv=>whnf)))
   exact IK rfl
  ·have hT2:=ZU A Z n hok3 (by omega)
   obtain ⟨b,hE,hR,hbt⟩:=kP N S Z n n (hok1.le (by omega)) hok3 (by omega) (by omega)
   have hb1:=hbt (fun K=>(hh K).symm)
   subst hb1
   refine Ev.x N.G7 rfl rfl ?_
   (repeat' (first|(refine AG (fun hc => ?_) (fun hc => ?_)<;>first|(exfalso;omega)|(conv=>whnf))|(refine AW ?_;conv=>whnf)|(refine AE ?_;conv=>whnf)|(refine AC (hW1) ?_;conv=>whnf)|(refine AC (hW2) ?_;conv=>whnf)|(refine AC (hS1 _) ?_;conv=>whnf)|(refine AC (hS2 _) ?_;conv=>whnf)|(refine AC (hM _) ?_;conv=>whnf)|(refine AC (hV) ?_;conv=>whnf)|(refine AC (hE) ?_;conv=>whnf)|(refine AC (hT1) ?_;conv=>whnf)|(refine AC (hT2) ?_;conv=>whnf)|(refine AC (hR) ?_;conv=>whnf)|(refine AC (hkn) ?_;conv=>whnf)))
   exact IK rfl
end Go.Eng
