/-
  Integers (layer 2).
-/
import Derived.Test.YtgdojcofnobpeaaGreatB9
import Derived.Test.YtgdojcofnobpeaaGreatB7
import Derived.Test.YtgdojcofnobpeaaGreatB3
import Derived.Test.YtgdojcofnobpeaaGreatB8
import Derived.Test.YtgdojcofnobpeaaGreatB4
import Derived.Test.YtgdojcofnobpeaaGreatB1
import Derived.Test.YtgdojcofnobpeaaGreatB5
import Derived.ProofKit
import Derived.OpenShut
import Derived.ChangeOld
import Derived.WalkKit
import Derived.WideShapes
import Derived.ChangeArms
set_option linter.unusedSimpArgs false
set_option linter.unusedVariables false
set_option linter.unnecessarySimpa false
namespace Go.Eng
open F
attribute [local irreducible] AH BJ B1 BD E6 CF CI CY CU DX B5 DT EN GS DS CR DR EF AR CW BW pw DC DB EP EV E7 FM EZ D5 FE
variable {L:Lib}
set_option maxHeartbeats 8000000
theorem Lm {k:Nat} {K:Int->Prop} (h:0<k/\k<=9223372036854775808) (hk:K ((18446744073709551616-k:Nat):Int)):CF .u64 (-(k:Int)) K:=by
 unfold CF;have e:IntKind.u64.wrap (-(k:Int))=((18446744073709551616-k:Nat):Int):=by
  simp [IntKind.wrap,IntKind.bits,IntKind.signed];omega
 rw[e];exact hk
theorem E6.xb {k:Nat} {K:AV->Prop} (h:0<k/\k<=9223372036854775808) (hk:K (.int .u64 (k:Int))):E6 .neg .u64 ((18446744073709551616-k:Nat):Int) K:=by
 refine E6.go (v := .int .u64 (IntKind.u64.wrap (0-((18446744073709551616-k:Nat):Int)))) rfl ?_;have e:IntKind.u64.wrap (0-((18446744073709551616-k:Nat):Int))=(k:Int):=by
  simp [IntKind.wrap,IntKind.bits,IntKind.signed];omega
 rw[e];exact hk
theorem mI (N:a5 L) (z:Int) (hz : -9223372036854775808<=z/\z<=9223372036854775807):Ev L 85 [.int .i64 z] (.agg (eZ z)):=by
 have two : ∀ k:Nat,k<18446744073709551616 -> ∀ q,Ev L 66 [.sl q [[.int .u32 ((k%4294967296:Nat):Int)],[.int .u32 ((k/4294967296:Nat):Int)]]] (.sl false ((dg k).map BZ)):=λ k hk q=>by
  have:=cA N.toc6 [k%4294967296,k/4294967296] q (lM hk).2 (by simp)
  rw[Gz hk]at this;exact this
 refine Ev.x N.O2 rfl rfl ?_;by_cases h0:0<=z
 ·obtain ⟨k,rfl⟩:=Int.eq_ofNat_of_zero_le h0
  have hT:=two k (by omega);have z1:=LJ k;(repeat' ((first|(apply BR<;>intro hc<;>try (exfalso;omega))|apply IB|(apply EG;omega)|(apply G3;omega)|apply IR|refine Y8 rfl rfl ?_|apply BA)<;>conv=>whnf))
  generalize k%4294967296=lo at *;generalize k/4294967296=hi at *;(repeat' (refine BH (hT _) ?_<;>conv=>whnf))
  refine H6 1000 N.FU rfl rfl ?_;(repeat' (apply BA<;>conv=>whnf))
  all_goals (refine ⟨rfl,?_⟩;(conv=>whnf);skip)
  exact CJ (HF (by omega) (JG (by omega))) (F7 _)
 ·obtain ⟨k,hk⟩:=Int.eq_ofNat_of_zero_le (show 0 <= -z by omega)
  obtain rfl:z = -(k:Int):=by omega
  have hT:=two k (by omega);have z1:=LJ k;(repeat' (apply BA<;>conv=>whnf))
  refine Lm (by omega) ?_;(conv=>whnf)
  (repeat' ((first|(apply BR<;>intro hc<;>try (exfalso;omega))|fail)<;>conv=>whnf))
  refine E6.xb (by omega) ?_;(conv=>whnf)
  (repeat' ((first|(apply BR<;>intro hc<;>try (exfalso;omega))|apply IB|(apply G3;omega)|apply IR|refine Y8 rfl rfl ?_)<;>conv=>whnf))
  generalize k%4294967296=lo at *;generalize k/4294967296=hi at *;(repeat' (refine BH (hT _) ?_<;>conv=>whnf))
  refine H6 1000 N.FU rfl rfl ?_;(repeat' ((first|(apply BR<;>intro hc<;>try (exfalso;omega))|apply CB|apply BA)<;>conv=>whnf))
  all_goals (refine ⟨rfl,?_⟩;(conv=>whnf);skip)
  exact CJ (HF (by omega) (SS (by omega))) (F7 _)
theorem xJ (N:a5 L) (n q:Bool) (m:List Nat) (hm:Sm 549755813888 m):Ev L 84 [.agg (rZ q n m)] (.agg (eZ (zv n m))):=by
 have hT:=λ q=>cA N.toc6 m q hm.1 (by have:=hm.2;omega)
 have hz:=LJ (val m);have ha:=HO n m;refine Ev.x N.O4 rfl rfl ?_;cases n
 ·rw[HD]at *
  (repeat' ((first|apply BA|refine BH (hT _) ?_)<;>conv=>whnf))
  refine H6 1000 N.FU rfl rfl ?_;(repeat' (apply BA<;>conv=>whnf))
  all_goals (refine ⟨rfl,?_⟩;(conv=>whnf);skip)
  exact CJ (HF ha.symm (JG (by omega))) (F7 _)
 ·rw[UB]at *
  (repeat' ((first|apply BA|refine BH (hT _) ?_)<;>conv=>whnf))
  refine H6 1000 N.FU rfl rfl ?_;(repeat' ((first|(apply BR<;>intro hc<;>try (exfalso;omega))|apply CB|apply BA)<;>conv=>whnf))
  all_goals (refine ⟨rfl,?_⟩;(conv=>whnf);skip)
  ·exact CJ (HF ha.symm (SS (by omega))) (F7 _)
  ·exact CJ (HF ha.symm (JG (by omega))) (F7 _)
theorem gP (N:a5 L) (n q:Bool) (m:List Nat) (hm:Sm 549755813888 m):Ev L 86 [.agg (rZ q n m)] (.int .i64 (sgn (zv n m))):=by
 have g8:=λ q q'=>U0 N.toc6 m [] q q' hm.1 T3 (by have:=hm.2;omega) (by simp)
 rw[L0]at g8;refine Ev.x N.O3 rfl rfl ?_;by_cases h0:val m=0
 ·have hn:FI (val m) (0:Nat)=0:=(XA (by omega)).symm
  rw[hn]at g8;(repeat' ((first|(apply BR<;>intro hc<;>try (exfalso;omega))|apply BA|refine BH (g8 _ _) ?_)<;>conv=>whnf))
  exact FF (jH (by have:=HO n m;omega))
 ·have hn:FI (val m) (0:Nat)=1:=(TW (by omega)).symm
  rw[hn]at g8;cases n
  ·(repeat' ((first|(apply BR<;>intro hc<;>try (exfalso;omega))|apply BA|refine BH (g8 _ _) ?_)<;>conv=>whnf))
   exact FF (pX (by rw[HD];omega))
  ·(repeat' ((first|(apply BR<;>intro hc<;>try (exfalso;omega))|apply BA|refine BH (g8 _ _) ?_)<;>conv=>whnf))
   exact FF (pW (by rw[UB];omega))
theorem xH (N:a5 L) (n1 n2 q1 q2:Bool) (a b:List Nat) (ha:Sm 549755813888 a) (hb:Sm 549755813888 b):Ev L 87 [.agg (rZ q1 n1 a),.agg (rZ q2 n2 b)] (.agg (eZ (zv n1 a+zv n2 b))):=by
 have la:=ha.2;have lb:=hb.2;have h1:=λ q q'=>Wk N.toc6 a b q q' ha.1 hb.1 (by omega) (by omega)
 have h2:=λ q q'=>xL N.toc6 a b q q' ha.1 hb.1 (by omega) (by omega)
 have h3:=λ q q'=>xL N.toc6 b a q q' hb.1 ha.1 (by omega) (by omega)
 have g8:=λ q q'=>U0 N.toc6 a b q q' ha.1 hb.1 (by omega) (by omega)
 have z1:=LJ (val a+val b);have z2:=LJ (val a-val b);have z3:=LJ (val b-val a);refine Ev.x N.OY rfl rfl ?_;by_cases l6:val a<val b
 ·have hn:FI (val a) (val b) = -1:=(LI (by omega)).symm
  rw[hn]at g8;cases n1<;>cases n2<;>simp only[HD,UB]
  ·(repeat' ((first|apply BA|refine BH (h1 _ _) ?_)<;>conv=>whnf))
   refine H6 1000 N.FU rfl rfl ?_;(repeat' (apply BA<;>conv=>whnf))
   all_goals (refine ⟨rfl,?_⟩;(conv=>whnf);skip)
   exact CJ (HF (by omega) (JG (by omega))) (F7 _)
  ·(repeat' ((first|(apply BR<;>intro hc<;>try (exfalso;omega))|apply BA|refine BH (h3 _ _) ?_|refine BH (g8 _ _) ?_)<;>conv=>whnf))
   refine H6 1000 N.FU rfl rfl ?_;(repeat' ((first|(apply BR<;>intro hc<;>try (exfalso;omega))|apply CB|apply BA)<;>conv=>whnf))
   all_goals (refine ⟨rfl,?_⟩;(conv=>whnf);skip)
   ·exact CJ (HF (by omega) (SS (by omega))) (F7 _)
  ·(repeat' ((first|(apply BR<;>intro hc<;>try (exfalso;omega))|apply BA|refine BH (h3 _ _) ?_|refine BH (g8 _ _) ?_)<;>conv=>whnf))
   refine H6 1000 N.FU rfl rfl ?_;(repeat' (apply BA<;>conv=>whnf))
   all_goals (refine ⟨rfl,?_⟩;(conv=>whnf);skip)
   ·exact CJ (HF (by omega) (JG (by omega))) (F7 _)
  ·(repeat' ((first|apply BA|refine BH (h1 _ _) ?_)<;>conv=>whnf))
   refine H6 1000 N.FU rfl rfl ?_;(repeat' ((first|(apply BR<;>intro hc<;>try (exfalso;omega))|apply CB|apply BA)<;>conv=>whnf))
   all_goals (refine ⟨rfl,?_⟩;(conv=>whnf);skip)
   ·exact CJ (HF (by omega) (SS (by omega))) (F7 _)
 ·have hn:FI (val a) (val b) ≠ -1:=by unfold FI;split<;>(try split)<;>omega
  generalize FI (val a) (val b)=cm at *;cases n1<;>cases n2<;>simp only[HD,UB]
  ·(repeat' ((first|apply BA|refine BH (h1 _ _) ?_)<;>conv=>whnf))
   refine H6 1000 N.FU rfl rfl ?_;(repeat' (apply BA<;>conv=>whnf))
   all_goals (refine ⟨rfl,?_⟩;(conv=>whnf);skip)
   exact CJ (HF (by omega) (JG (by omega))) (F7 _)
  ·(repeat' ((first|(apply BR<;>intro hc<;>try (exfalso;omega))|apply BA|refine BH (h2 _ _) ?_|refine BH (g8 _ _) ?_)<;>conv=>whnf))
   refine H6 1000 N.FU rfl rfl ?_;(repeat' (apply BA<;>conv=>whnf))
   all_goals (refine ⟨rfl,?_⟩;(conv=>whnf);skip)
   exact CJ (HF (by omega) (JG (by omega))) (F7 _)
  ·(repeat' ((first|(apply BR<;>intro hc<;>try (exfalso;omega))|apply BA|refine BH (h2 _ _) ?_|refine BH (g8 _ _) ?_)<;>conv=>whnf))
   refine H6 1000 N.FU rfl rfl ?_;(repeat' ((first|(apply BR<;>intro hc<;>try (exfalso;omega))|apply CB|apply BA)<;>conv=>whnf))
   all_goals (refine ⟨rfl,?_⟩;(conv=>whnf);skip)
   ·exact CJ (HF (by omega) (SS (by omega))) (F7 _)
   ·exact CJ (HF (by omega) (JG (by omega))) (F7 _)
  ·(repeat' ((first|apply BA|refine BH (h1 _ _) ?_)<;>conv=>whnf))
   refine H6 1000 N.FU rfl rfl ?_;(repeat' ((first|(apply BR<;>intro hc<;>try (exfalso;omega))|apply CB|apply BA)<;>conv=>whnf))
   all_goals (refine ⟨rfl,?_⟩;(conv=>whnf);skip)
   ·exact CJ (HF (by omega) (SS (by omega))) (F7 _)
   ·exact CJ (HF (by omega) (JG (by omega))) (F7 _)
theorem XL (N:a5 L) (n1 n2 q1 q2:Bool) (a b:List Nat) (ha:CP a) (hb:CP b) (hl:a.length+b.length<=1099511627776):Ev L 88 [.agg (rZ q1 n1 a),.agg (rZ q2 n2 b)] (.agg (eZ (zv n1 a*zv n2 b))):=by
 have h1:=λ q q'=>mM N.toc6 a b q q' ha hb hl
 have z1:=LJ (val a*val b);have zq:(zv n1 a*zv n2 b).natAbs=val a*val b:=by rw[Int.natAbs_mul,HO,HO]
 refine Ev.x N.O1 rfl rfl ?_;have e:zv n1 a*zv n2 b=bif n1 == n2 then ((val a*val b:Nat):Int) else -((val a*val b:Nat):Int):=by
  cases n1<;>cases n2<;>simp [HD,UB,Int.mul_neg,Int.neg_mul]
 rw[e]at zq ⊢;generalize val a*val b=V at *;cases n1<;>cases n2<;>simp only[beq_self_eq_true,cond_true,show (false == true)=false from rfl,show (true == false)=false from rfl,cond_false]
 ·(repeat' ((first|apply BA|refine BH (h1 _ _) ?_)<;>conv=>whnf))
  refine H6 1000 N.FU rfl rfl ?_;(repeat' (apply BA<;>conv=>whnf))
  all_goals (refine ⟨rfl,?_⟩;(conv=>whnf);skip)
  exact CJ (HF (by omega) (JG (by omega))) (F7 _)
 ·(repeat' ((first|apply BA|refine BH (h1 _ _) ?_)<;>conv=>whnf))
  refine H6 1000 N.FU rfl rfl ?_;(repeat' ((first|(apply BR<;>intro hc<;>try (exfalso;omega))|apply CB|apply BA)<;>conv=>whnf))
  all_goals (refine ⟨rfl,?_⟩;(conv=>whnf);skip)
  ·exact CJ (HF (by omega) (SS (by omega))) (F7 _)
  ·exact CJ (HF (by omega) (JG (by omega))) (F7 _)
 ·(repeat' ((first|apply BA|refine BH (h1 _ _) ?_)<;>conv=>whnf))
  refine H6 1000 N.FU rfl rfl ?_;(repeat' ((first|(apply BR<;>intro hc<;>try (exfalso;omega))|apply CB|apply BA)<;>conv=>whnf))
  all_goals (refine ⟨rfl,?_⟩;(conv=>whnf);skip)
  ·exact CJ (HF (by omega) (SS (by omega))) (F7 _)
  ·exact CJ (HF (by omega) (JG (by omega))) (F7 _)
 ·(repeat' ((first|apply BA|refine BH (h1 _ _) ?_)<;>conv=>whnf))
  refine H6 1000 N.FU rfl rfl ?_;(repeat' (apply BA<;>conv=>whnf))
  all_goals (refine ⟨rfl,?_⟩;(conv=>whnf);skip)
  exact CJ (HF (by omega) (JG (by omega))) (F7 _)
theorem lO:dg 1=[1]:=by rw[L5 (by omega)];simp [HR]
theorem Wf (N:a5 L) (V:Nat) (q:Bool):Ev L 90 [.sl q ((dg V).map BZ)] (.bool (decide (V=1))):=by
 have hv:=DN V;have hD:=GP V;have h1:V=1->dg V=[1]:=λ h=>by rw[h,lO]
 generalize dg V=l at *;refine Ev.x N.QU rfl rfl ?_;by_cases hl:l.length=1
 ·obtain ⟨d,rfl⟩:=List.length_eq_one_iff.1 hl
  have e:V=d:=by rw[<-hv];simp [val]
  subst e;have hd:[V][(0:Int).toNat]? = some V:=rfl;(repeat' ((first|(apply BR<;>intro hc<;>try (exfalso;omega))|apply CB|(refine CX (by assumption) ?_ rfl ?_;omega)|apply BA)<;>conv=>whnf))
  ·exact sE (by omega)
  ·exact eB (by omega)
 ·(repeat' ((first|(apply BR<;>intro hc<;>try (exfalso;omega))|apply CB|apply BA)<;>conv=>whnf))
  exact eB (λ h=>by rw[h1 h]at hl;simp at hl)
theorem ZN (N:a5 L) (n q1 q2:Bool) (m d:List Nat) (hm:Sm 549755813888 m) (hd:Sm 549755813888 d) (h0:val d≠0):Ev L 94 [.agg (rQ q1 q2 n m d)] (.agg (eQ (qv n m d))):=by
 have sz:=λ q q'=>mL N.toc6 m d q q' hm.1 hd.1 hm.2 hd.2 h0
 have yn:=HO n m;have sq:Sm 549755813888 (dg (val m/val d)):=hm.low (Nat.div_le_self _ _);have sr:Sm 549755813888 (dg (val m%val d)):=hd.low (Nat.le_of_lt (Nat.mod_lt _ (by omega)));have hT:=λ q=>xJ N n q _ sq
 have hG:=λ q q'=>Wl N.toc6 d (dg (val m%val d)) q q' hd.1 sr.1 hd.2 sr.2
 rw[DN,show Nat.gcd (val d) (val m%val d)=Nat.gcd (val d) (zv n m).natAbs by rw[yn,cM,Nat.gcd_comm]]at hG;have Af:=yX (zv n m).natAbs h0;have tc:=Nat.gcd_le_left (zv n m).natAbs (show 0<val d by omega);have hz:=LJ (val m%val d);obtain ⟨e1,e2,e3⟩:=oM (z:=zv n m) h0;unfold qv;generalize hGG:Nat.gcd (val d) (zv n m).natAbs=g at *;have h1:=λ q=>Wf N g q
 refine Ev.x N.QW rfl rfl ?_;by_cases hr0:val m%val d=0
 ·(repeat' ((first|(apply BR<;>intro hc<;>try (exfalso;omega))|apply CB|apply BA|refine BH (sz _ _) ?_|refine BH (hT _) ?_)<;>conv=>whnf))
  refine H6 1000 N.KS rfl rfl ?_;(repeat' (apply BA<;>conv=>whnf))
  refine ⟨rfl,?_⟩;(conv=>whnf)
  (repeat' (refine KI rfl ?_<;>conv=>whnf))
  have gb:g=val d:=by
   rw[<-hGG,yn];exact Nat.gcd_eq_left (Nat.dvd_of_mod_eq_zero hr0)
  have hv:=DN (val m/val d);refine CJ ?_ ?_
  ·show _=AV.agg (rQ _ _ _ _ _)
   rw[e1,e2,e3,yn,gb,Nat.div_self (by omega),HO,hv,lO];have hs:decide (zv n (dg (val m/val d))<0)=decide (zv n m<0):=by
    cases n
    ·rw[HD,HD];simp;omega
    ·rw[UB,UB,hv]
     congr 1;rw[eq_iff_iff];have h5:=Nat.div_add_mod (val m) (val d);rw[hr0,Nat.add_zero]at h5;constructor
     ·intro h6
      have h7:val m/val d≠0:=by omega
      have:val m≠0:=λ h8=>h7 (by rw[h8,Nat.zero_div])
      omega
     ·intro h6
      have h7:val m/val d≠0:=λ h8=>by rw[h8,Nat.mul_zero]at h5;omega
      omega
   rw[hs];rfl
  ·exact G4 _
 ·by_cases rh:g=1
  ·have hT1:=λ q=>xJ N n q m hm
   have hT2:=λ q=>cA N.toc6 d q hd.1 (by have:=hd.2;omega)
   (repeat' ((first|(apply BR<;>intro hc<;>try (exfalso;omega))|apply CB|apply BA|refine BH (sz _ _) ?_|refine BH (hG _ _) ?_|refine rX (h1 _) (λ hf => ?_) (λ hf => ?_)|refine BH (hT1 _) ?_|refine BH (hT2 _) ?_)<;>conv=>whnf))
   ·refine CJ ?_ (fR _ _ _)
    show _=AV.agg (rQ _ _ _ _ _);rw[e1,e2,e3,rh,Nat.div_one,Nat.div_one]
   ·exact absurd rh hf
  ·have sg:Sm 549755813888 (dg g):=hd.low tc
   have kp:=λ q q'=>mL N.toc6 m (dg g) q q' hm.1 sg.1 hm.2 sg.2 (by rw[DN];omega)
   have kt:=λ q q'=>mL N.toc6 d (dg g) q q' hd.1 sg.1 hd.2 sg.2 (by rw[DN];omega)
   rw[DN]at kp kt;(repeat' ((first|(apply BR<;>intro hc<;>try (exfalso;omega))|apply CB|apply BA|refine BH (sz _ _) ?_|refine BH (hG _ _) ?_|refine rX (h1 _) (λ hf => ?_) (λ hf => ?_)|refine BH (kp _ _) ?_|refine BH (kt _ _) ?_)<;>conv=>whnf))
   ·exact absurd hf rh
   ·refine CJ ?_ (fR _ _ _)
    show _=AV.agg (rQ _ _ _ _ _);rw[e1,e2,e3,yn];have hs:n=decide (zv n m<0):=by
     have:val m≠0:=λ h=>hr0 (by rw[h,Nat.zero_mod])
     cases n
     ·exact JG (by rw[HD];omega)
     ·exact SS (by rw[UB];omega)
    rw[<-hs]
theorem ZO (N:a5 L) (m:List Nat):Ev L 91 [.sl false (m.map BZ)] (.agg [.bool false,.sl false (m.map BZ)]):=by
 refine Ev.x N.QV rfl rfl ?_;(repeat' (apply BA<;>conv=>whnf))
 exact CJ rfl (Rh _ _)
def Mb (n:Bool) (m d:List Nat) (n':Bool) (m' d':List Nat) (w:Bool) (k:Nat):Prop:=Sm k m'/\Sm k d'/\val d'≠0/\(w=true->val d'=1)/\qv n m d=mkRat (zv n' m') (val d')
theorem T6 (N:a5 L) (n:Bool) (m d:List Nat) (k:Nat) (hk:1<=k/\k<=549755813888) (hm:Sm k m) (hd:Sm k d) : ∃ n' m' d' w,Ev L 89 [.agg (rQ false false n m d)] (.agg [.bool n',.sl false (m'.map BZ),.sl false (d'.map BZ),.bool w])/\Mb n m d n' m' d' w k:=by
 have g8:=λ q q'=>U0 N.toc6 d [] q q' hd.1 T3 (by have:=hd.2;omega) (by simp)
 rw[L0]at g8;by_cases h1:d=[1]
 ·subst h1
  refine ⟨n,m,[1],true,?_,hm,hd,by decide,λ_=>rfl,rfl⟩;refine Ev.x N.LR rfl rfl ?_;have hd:[1][(0:Int).toNat]? = some 1:=rfl;have nn:([1]:List Nat).length=1:=rfl;(repeat' ((first|(apply BR<;>intro hc<;>try (exfalso;omega))|apply CB|(refine CX (by assumption) ?_ rfl ?_;omega)|apply BA)<;>conv=>whnf))
  exact CJ rfl (aZ _ _ _ _)
 have hne : ∀ x,d[(0:Int).toNat]? = some x->(d.length:Int)=1->(x:Int)≠1:=λ x hx hl h=>by
  obtain ⟨y,rfl⟩:=List.length_eq_one_iff.1 (show d.length=1 by omega);simp at hx;apply h1;congr 1;omega
 by_cases h0:val d=0
 ·refine ⟨false,[],[1],true,?_,Fg _,qC hk.1 (by omega),by decide,λ_=>rfl,by unfold qv;rw[h0,Rat.mkRat_zero,Gj,Rat.zero_mkRat]⟩
  have hn:FI (val d) (0:Nat)=0:=(XA (by omega)).symm;rw[hn]at g8;refine Ev.x N.LR rfl rfl ?_;have hD:=hd.1;(repeat' ((first|(apply BR<;>intro hc<;>try (exfalso;omega))|apply CB|(refine VU (by assumption) ?_ (λ e he hb => ?_);omega)|refine KI rfl ?_|apply BA|refine BH (g8 _ _) ?_)<;>conv=>whnf))
  all_goals first
   | exact CJ rfl (aZ _ _ _ _)
   | exact CJ rfl (aZ false true [] [1])
   | exact absurd (by assumption) (hne _ he (by assumption))
 ·refine ⟨n,m,d,false,?_,hm,hd,h0,(λ h=>by cases h),rfl⟩
  have hn:FI (val d) (0:Nat)=1:=(TW (by omega)).symm;rw[hn]at g8;have hD:=hd.1;refine Ev.x N.LR rfl rfl ?_;(repeat' ((first|(apply BR<;>intro hc<;>try (exfalso;omega))|apply CB|(refine VU (by assumption) ?_ (λ e he hb => ?_);omega)|apply BA|refine BH (g8 _ _) ?_)<;>conv=>whnf))
  all_goals first
   | exact CJ rfl (aZ _ _ _ _)
   | exact CJ rfl (aZ false true [] [1])
   | exact absurd (by assumption) (hne _ he (by assumption))
theorem yB (N:a5 L) (n q1 q2:Bool) (m d:List Nat) (hm:Sm 549755813888 m) (hd:Sm 549755813888 d):Ev L 95 [.agg (rQ q1 q2 n m d)] (.agg (eQ (qv n m d))):=by
 obtain ⟨n',m',d',w,hr,s1,s2,s3,s4,s5⟩:=T6 N n m d 549755813888 (by omega) hm hd;have hl:=λ q1 q2=>ZN N n' q1 q2 m' d' s1 s2 s3
 rw[s5];unfold qv at hl;refine Ev.x N.QS rfl rfl ?_;(repeat' ((first|apply JZ|apply BA|refine BH (hr) ?_|refine BH (hl _ _) ?_)<;>conv=>whnf))
 exact CJ rfl (G4 _)
theorem Vv (N:a5 L) (n q1 q2:Bool) (m d:List Nat) (hm:Sm 549755813888 m) (hd:Sm 549755813888 d):Ev L 97 [.agg (rQ q1 q2 n m d)] (.int .i64 (sgn (qv n m d).num)):=by
 obtain ⟨n',m',d',w,hr,s1,s2,s3,s4,s5⟩:=T6 N n m d 549755813888 (by omega) hm hd;have hl:=λ q=>gP N n' q m' s1
 rw[s5,Eo s3];refine Ev.x N.QQ rfl rfl ?_;(repeat' ((first|apply JZ|apply BA|refine BH (hr) ?_|refine BH (hl _) ?_)<;>conv=>whnf))
 exact FF rfl
theorem kP (z:Int):AV.agg [.bool (decide (z<0)),.sl false ((dg z.natAbs).map BZ),.sl false [[.int .u32 1]]] = .agg (eQ (z:Rat)):=by
 show _=AV.agg (rQ _ _ _ _ _);rw[Rat.num_intCast,Rat.den_intCast,lO];rfl
theorem LK (N:a5 L) (z:Int) (hz : -9223372036854775808<=z/\z<=9223372036854775807):Ev L 96 [.int .i64 z] (.agg (eQ (z:Rat))):=by
 have h1:=mI N z hz;refine Ev.x N.QP rfl rfl ?_;(repeat' ((first|apply BA|refine BH (h1) ?_)<;>conv=>whnf))
 refine H6 1000 N.KS rfl rfl ?_;(repeat' (apply BA<;>conv=>whnf))
 refine ⟨rfl,?_⟩;(conv=>whnf)
 (repeat' (refine KI rfl ?_<;>conv=>whnf))
 exact CJ (kP z) (G4 _)
theorem YL {k l:Nat} {n1 n2:Bool} {a b:List Nat} (ha:Sm k a) (hb:Sm l b):Sm (k+l) (dg (zv n1 a*zv n2 b).natAbs):=ha.mul hb (by rw[Int.natAbs_mul,HO,HO])
theorem Ep {k:Nat} {x y:Int} (ha:Sm k (dg x.natAbs)) (hb:Sm k (dg y.natAbs)):Sm (k+1) (dg (x+y).natAbs):=ha.add hb (by rw[DN,DN];omega)
theorem xZ (N:a5 L) (k:Nat) (hk:1<=k/\k<=68719476736) (n1 n2 q1 q2 q3 q4:Bool) (m1 d1 m2 d2:List Nat) (dm:Sm k m1) (hd1:Sm k d1) (hm2:Sm k m2) (gy:Sm k d2) :
  Ev L 98 [.agg (rQ q1 q2 n1 m1 d1),.agg (rQ q3 q4 n2 m2 d2)] (.agg (eQ (qv n1 m1 d1+qv n2 m2 d2))):=by
 obtain ⟨a1,a2,a3,w1,w8,s1,s2,s3,s4,s5⟩:=T6 N n1 m1 d1 k (by omega) dm hd1;obtain ⟨b1,b2,b3,w2,z7,t1,t2,t3,t4,t5⟩:=T6 N n2 m2 d2 k (by omega) hm2 gy;rw[s5,t5];have hA:=λ q q'=>xH N a1 b1 q q' a2 b2 (s1.le (by omega)) (t1.le (by omega))
 have Bg:Sm (k+1) (dg (zv a1 a2+zv b1 b2).natAbs):=Ep (by rw[HO];exact s1.na) (by rw[HO];exact t1.na);by_cases hw:w1=true/\w2=true
 ·obtain ⟨rfl,rfl⟩:=hw
  rw[s4 rfl,t4 rfl,El (by omega),En];generalize zv a1 a2+zv b1 b2=z at *;refine Ev.x N.LQ rfl rfl ?_;(repeat' ((first|apply JZ|apply BA|refine BH (w8) ?_|refine BH (z7) ?_|refine BH (hA _ _) ?_)<;>conv=>whnf))
  refine H6 1000 N.KS rfl rfl ?_;(repeat' (apply BA<;>conv=>whnf))
  refine ⟨rfl,?_⟩;(conv=>whnf)
  (repeat' (refine KI rfl ?_<;>conv=>whnf))
  exact CJ (kP z) (G4 _)
 ·have g8:=λ q q'=>U0 N.toc6 a3 b3 q q' s2.1 t2.1 (by have:=s2.2;omega) (by have:=t2.2;omega)
  by_cases hde:val a3=val b3
  ·have hn:FI (val a3) (val b3)=0:=(XA (by omega)).symm
   rw[hn]at g8;rw[<-hde,El s3];generalize zv a1 a2+zv b1 b2=z at *;have hl:=λ q1 q2=>ZN N (decide (z<0)) q1 q2 (dg z.natAbs) a3 (Bg.le (by omega)) (s2.le (by omega)) s3
   unfold qv at hl;rw[HT]at hl;refine Ev.x N.LQ rfl rfl ?_;cases w1<;>cases w2
   ·(repeat' ((first|(apply BR<;>intro hc<;>try (exfalso;omega))|apply JZ|apply BA|refine BH (w8) ?_|refine BH (z7) ?_|refine BH (hA _ _) ?_|refine BH (g8 _ _) ?_|refine BH (hl _ _) ?_)<;>conv=>whnf))
    exact CJ rfl (G4 _)
   ·(repeat' ((first|(apply BR<;>intro hc<;>try (exfalso;omega))|apply JZ|apply BA|refine BH (w8) ?_|refine BH (z7) ?_|refine BH (hA _ _) ?_|refine BH (g8 _ _) ?_|refine BH (hl _ _) ?_)<;>conv=>whnf))
    exact CJ rfl (G4 _)
   ·(repeat' ((first|(apply BR<;>intro hc<;>try (exfalso;omega))|apply JZ|apply BA|refine BH (w8) ?_|refine BH (z7) ?_|refine BH (hA _ _) ?_|refine BH (g8 _ _) ?_|refine BH (hl _ _) ?_)<;>conv=>whnf))
    exact CJ rfl (G4 _)
   ·exact absurd ⟨rfl,rfl⟩ hw
  ·have hn:FI (val a3) (val b3)≠0:=by unfold FI;split<;>(try split)<;>omega
   generalize FI (val a3) (val b3)=cm at *;have hM1:=λ q q'=>XL N a1 false q q' a2 b3 s1.1 t2.1 (by have:=s1.2;have:=t2.2;omega)
   have hM2:=λ q q'=>XL N b1 false q q' b2 a3 t1.1 s2.1 (by have:=t1.2;have:=s2.2;omega)
   have js:=λ q q'=>mM N.toc6 a3 b3 q q' s2.1 t2.1 (by have:=s2.2;have:=t2.2;omega)
   have nq:=ZO N a3;have lv:=ZO N b3;have g1:Sm (k+k) (dg (zv a1 a2*zv false b3).natAbs):=YL s1 t2;have g2:Sm (k+k) (dg (zv b1 b2*zv false a3).natAbs):=YL t1 s2;have g3:=Ep g1 g2;have g4:Sm (k+k) (dg (val a3*val b3)):=s2.mul t2 rfl;rw[iF s3 t3,<-HD b3,<-HD a3];have qy:val a3*val b3≠0:=Nat.mul_ne_zero s3 t3;generalize zv a1 a2*zv false b3=x at *;generalize zv b1 b2*zv false a3=y at *;generalize val a3*val b3=D at *;have xg:=λ q q'=>xH N (decide (x<0)) (decide (y<0)) q q' (dg x.natAbs) (dg y.natAbs) (g1.le (by omega)) (g2.le (by omega))
   rw[HT,HT]at xg;generalize x+y=z at *;have hl:=λ q1 q2=>ZN N (decide (z<0)) q1 q2 (dg z.natAbs) (dg D) (g3.le (by omega)) (g4.le (by omega)) (by rw[DN];exact qy)
   unfold qv at hl;rw[HT,DN]at hl;refine Ev.x N.LQ rfl rfl ?_;cases w1<;>cases w2
   ·(repeat' ((first|(apply BR<;>intro hc<;>try (exfalso;omega))|apply JZ|apply WU|apply BA|refine BH (w8) ?_|refine BH (z7) ?_|refine BH (g8 _ _) ?_|refine BH (nq) ?_|refine BH (lv) ?_|refine BH (hM1 _ _) ?_|refine BH (hM2 _ _) ?_|refine BH (xg _ _) ?_|refine BH (js _ _) ?_|refine BH (hl _ _) ?_)<;>conv=>whnf))
    exact CJ rfl (G4 _)
   ·(repeat' ((first|(apply BR<;>intro hc<;>try (exfalso;omega))|apply JZ|apply WU|apply BA|refine BH (w8) ?_|refine BH (z7) ?_|refine BH (g8 _ _) ?_|refine BH (nq) ?_|refine BH (lv) ?_|refine BH (hM1 _ _) ?_|refine BH (hM2 _ _) ?_|refine BH (xg _ _) ?_|refine BH (js _ _) ?_|refine BH (hl _ _) ?_)<;>conv=>whnf))
    exact CJ rfl (G4 _)
   ·(repeat' ((first|(apply BR<;>intro hc<;>try (exfalso;omega))|apply JZ|apply WU|apply BA|refine BH (w8) ?_|refine BH (z7) ?_|refine BH (g8 _ _) ?_|refine BH (nq) ?_|refine BH (lv) ?_|refine BH (hM1 _ _) ?_|refine BH (hM2 _ _) ?_|refine BH (xg _ _) ?_|refine BH (js _ _) ?_|refine BH (hl _ _) ?_)<;>conv=>whnf))
    exact CJ rfl (G4 _)
   ·exact absurd ⟨rfl,rfl⟩ hw
theorem yA (N:a5 L) (k:Nat) (hk:1<=k/\k<=68719476736) (n1 n2 q1 q2 q3 q4:Bool) (m1 d1 m2 d2:List Nat) (dm:Sm k m1) (hd1:Sm k d1) (hm2:Sm k m2) (gy:Sm k d2) :
  Ev L 99 [.agg (rQ q1 q2 n1 m1 d1),.agg (rQ q3 q4 n2 m2 d2)] (.agg (eQ (qv n1 m1 d1*qv n2 m2 d2))):=by
 obtain ⟨a1,a2,a3,w1,w8,s1,s2,s3,s4,s5⟩:=T6 N n1 m1 d1 k (by omega) dm hd1;obtain ⟨b1,b2,b3,w2,z7,t1,t2,t3,t4,t5⟩:=T6 N n2 m2 d2 k (by omega) hm2 gy;rw[s5,t5,oK];have hM1:=λ q q'=>XL N a1 b1 q q' a2 b2 s1.1 t1.1 (by have:=s1.2;have:=t1.2;omega)
 have js:=λ q q'=>mM N.toc6 a3 b3 q q' s2.1 t2.1 (by have:=s2.2;have:=t2.2;omega)
 have g1:Sm (k+k) (dg (zv a1 a2*zv b1 b2).natAbs):=YL s1 t1;have g4:Sm (k+k) (dg (val a3*val b3)):=s2.mul t2 rfl;have qy:val a3*val b3≠0:=Nat.mul_ne_zero s3 t3;generalize zv a1 a2*zv b1 b2=z at *;by_cases hw:w1=true/\w2=true
 ·obtain ⟨rfl,rfl⟩:=hw
  rw[s4 rfl,t4 rfl,Nat.one_mul,En];refine Ev.x N.M6 rfl rfl ?_;(repeat' ((first|apply JZ|apply BA|refine BH (w8) ?_|refine BH (z7) ?_|refine BH (hM1 _ _) ?_)<;>conv=>whnf))
  refine H6 1000 N.KS rfl rfl ?_;(repeat' (apply BA<;>conv=>whnf))
  refine ⟨rfl,?_⟩;(conv=>whnf)
  (repeat' (refine KI rfl ?_<;>conv=>whnf))
  exact CJ (kP z) (G4 _)
 ·generalize val a3*val b3=D at *
  have hl:=λ q1 q2=>ZN N (decide (z<0)) q1 q2 (dg z.natAbs) (dg D) (g1.le (by omega)) (g4.le (by omega)) (by rw[DN];exact qy)
  unfold qv at hl;rw[HT,DN]at hl;refine Ev.x N.M6 rfl rfl ?_;cases w1<;>cases w2
  ·(repeat' ((first|apply JZ|apply BA|refine BH (w8) ?_|refine BH (z7) ?_|refine BH (hM1 _ _) ?_|refine BH (js _ _) ?_|refine BH (hl _ _) ?_)<;>conv=>whnf))
   exact CJ rfl (G4 _)
  ·(repeat' ((first|apply JZ|apply BA|refine BH (w8) ?_|refine BH (z7) ?_|refine BH (hM1 _ _) ?_|refine BH (js _ _) ?_|refine BH (hl _ _) ?_)<;>conv=>whnf))
   exact CJ rfl (G4 _)
  ·(repeat' ((first|apply JZ|apply BA|refine BH (w8) ?_|refine BH (z7) ?_|refine BH (hM1 _ _) ?_|refine BH (js _ _) ?_|refine BH (hl _ _) ?_)<;>conv=>whnf))
   exact CJ rfl (G4 _)
  ·exact absurd ⟨rfl,rfl⟩ hw
theorem Ri (x:Rat) (e:Int):CS (.tup [.agg (eQ x),.int .i64 e]):=by
 simp only[CS,FG,and_true,true_and];exact ⟨E0 _,E0 _⟩
theorem Vu (N:a5 L) (k:Nat) (hk:1<=k/\k<=68719476736) (n1 n2 q1 q2 q3 q4:Bool) (m1 d1 m2 d2:List Nat) (dm:Sm k m1) (hd1:Sm k d1) (hm2:Sm k m2) (gy:Sm k d2) (h0:qv n2 m2 d2≠0) :
  Ev L 100 [.agg (rQ q1 q2 n1 m1 d1),.agg (rQ q3 q4 n2 m2 d2)] (.tup [.agg (eQ (qv n1 m1 d1/qv n2 m2 d2)),.int .i64 0]):=by
 obtain ⟨a1,a2,a3,w1,w8,s1,s2,s3,s4,s5⟩:=T6 N n1 m1 d1 k (by omega) dm hd1;obtain ⟨b1,b2,b3,w2,z7,t1,t2,t3,t4,t5⟩:=T6 N n2 m2 d2 k (by omega) hm2 gy;rw[t5]at h0;rw[s5,t5];have ou:zv b1 b2≠0:=λ h=>h0 ((oL t3).2 h)
 rw[AjO s3 t3 ou];have hS:=λ q=>gP N b1 q b2 (t1.le (by omega))
 have hsg:sgn (zv b1 b2)≠0:=by unfold sgn;split<;>(try split)<;>omega
 have hM1:=λ q q'=>XL N a1 false q q' a2 b3 s1.1 t2.1 (by have:=s1.2;have:=t2.2;omega)
 have hM2:=λ q q'=>XL N false b1 q q' a3 b2 s2.1 t1.1 (by have:=t1.2;have:=s2.2;omega)
 have nq:=ZO N a3;have lv:=ZO N b3;have g1:Sm (k+k) (dg (zv a1 a2*zv false b3).natAbs):=YL s1 t2;have g2:Sm (k+k) (dg (zv false a3*zv b1 b2).natAbs):=YL s2 t1;have hd:(zv false a3*zv b1 b2).natAbs=val a3*(zv b1 b2).natAbs:=by rw[Int.natAbs_mul,HO]
 have qz:(zv false a3*zv b1 b2).sign=(zv b1 b2).sign:=by
  rw[Int.sign_mul,HD,Int.sign_eq_one_of_pos (by omega),Int.one_mul]
 have gl:zv false a3*zv b1 b2≠0:=by
  intro h;rw[h]at qz;exact ou (by simpa using qz.symm)
 rw[<-hd,<-qz,<-HD b3];generalize zv a1 a2*zv false b3=x at *;generalize zv false a3*zv b1 b2=y at *;generalize sgn (zv b1 b2)=sg at *;have hl:=λ q1 q2=>ZN N (decide (x<0) != decide (y<0)) q1 q2 (dg x.natAbs) (dg y.natAbs) (g1.le (by omega)) (g2.le (by omega)) (by rw[DN];omega)
 unfold qv at hl;rw[Gk gl,DN]at hl;refine Ev.x N.QK rfl rfl ?_;(repeat' ((first|(apply BR<;>intro hc<;>try (exfalso;omega))|apply JZ|apply WU|apply BA|refine BH (w8) ?_|refine BH (z7) ?_|refine BH (hS _) ?_|refine BH (nq) ?_|refine BH (lv) ?_|refine BH (hM1 _ _) ?_|refine BH (hM2 _ _) ?_)<;>conv=>whnf))
 refine H6 1000 N.M7 rfl rfl ?_;(repeat' (apply BA<;>conv=>whnf))
 generalize decide (x<0)=p at *;generalize decide (y<0)=r at *;cases p<;>cases r;all_goals
  (conv=>whnf)
  refine ⟨rfl,?_⟩;(conv=>whnf)
  (repeat' (refine BH (hl _ _) ?_<;>conv=>whnf))
  exact CJ rfl (Ri _ _)
theorem Bt.sm {k:Nat} {x:Rat} (h:Bt k x) (hk:k<2199023255552):Sm 68719476736 (dg x.num.natAbs)/\Sm 68719476736 (dg x.den):=h.Ij (by omega)
theorem cB (N:a5 L) {x y:Rat} {k l:Nat} (hx:Bt k x) (hy:Bt l y) (hk:k<2199023255552) (hl:l<2199023255552):Ev L 98 [.agg (eQ x),.agg (eQ y)] (.agg (eQ (x+y))):=by
 have:=xZ N 68719476736 (by omega) (decide (x.num<0)) (decide (y.num<0)) false false false false _ _ _ _ (hx.sm hk).1 (hx.sm hk).2 (hy.sm hl).1 (hy.sm hl).2
 rw[IA,IA]at this;exact this
theorem K3 (N:a5 L) {x y:Rat} {k l:Nat} (hx:Bt k x) (hy:Bt l y) (hk:k<2199023255552) (hl:l<2199023255552):Ev L 99 [.agg (eQ x),.agg (eQ y)] (.agg (eQ (x*y))):=by
 have:=yA N 68719476736 (by omega) (decide (x.num<0)) (decide (y.num<0)) false false false false _ _ _ _ (hx.sm hk).1 (hx.sm hk).2 (hy.sm hl).1 (hy.sm hl).2
 rw[IA,IA]at this;exact this
theorem gO (N:a5 L) {x y:Rat} {k l:Nat} (hx:Bt k x) (hy:Bt l y) (hk:k<2199023255552) (hl:l<2199023255552) (h0:y≠0):Ev L 100 [.agg (eQ x),.agg (eQ y)] (.tup [.agg (eQ (x/y)),.int .i64 0]):=by
 have:=Vu N 68719476736 (by omega) (decide (x.num<0)) (decide (y.num<0)) false false false false _ _ _ _ (hx.sm hk).1 (hx.sm hk).2 (hy.sm hl).1 (hy.sm hl).2 (by rw[IA];exact h0)
 rw[IA,IA]at this;exact this
theorem XM (N:a5 L) {x:Rat} {k:Nat} (hx:Bt k x) (hk:k<2199023255552):Ev L 95 [.agg (eQ x)] (.agg (eQ x)):=by
 have:=yB N (decide (x.num<0)) false false _ _ ((hx.sm hk).1.le (by omega)) ((hx.sm hk).2.le (by omega))
 rw[IA]at this;exact this
theorem N1 (N:a5 L) {x:Rat} {k:Nat} (hx:Bt k x) (hk:k<2199023255552):Ev L 97 [.agg (eQ x)] (.int .i64 (sgn x.num)):=by
 have:=Vv N (decide (x.num<0)) false false _ _ ((hx.sm hk).1.le (by omega)) ((hx.sm hk).2.le (by omega))
 rw[IA]at this;exact this
theorem OJ {x:Rat}:sgn x.num=0↔x=0:=by
 rw[<-Rat.num_eq_zero];unfold sgn;split
 ·omega
 ·split<;>omega
theorem Fp (n:Bool) (m d:List Nat):qv (!n) m d = -(qv n m d):=by
 unfold qv;have h:zv (!n) m = -(zv n m):=by cases n<;>simp [zv]
 rw[h,Rat.neg_mkRat]
theorem Rk (n:Bool) (m d:List Nat):CS (.agg (rQ false false n m d)):=by
 simp only[CS,FG,and_true,true_and];exact ⟨E0 _,E0 _⟩
theorem xG (N:o5 L) (n:Bool) (m d:List Nat):Ev L 149 [.agg (rQ false false n m d)] (.agg (rQ false false (!n) m d)):=by
 refine Ev.x N.QT rfl rfl ?_;cases n;all_goals
  (repeat' (apply BA<;>conv=>whnf))
  exact CJ rfl (Rk _ _ _)
theorem nA (N:o5 L) {x y:Rat} {k l:Nat} (hx:Bt k x) (hy:Bt l y) (hk:k<2199023255552) (hl:l<2199023255552):Ev L 150 [.agg (eQ x),.agg (eQ y)] (.agg (eQ (x-y))):=by
 have hF:=xG N (decide (y.num<0)) (dg y.num.natAbs) (dg y.den);have hA:=λ q3 q4=>xZ N.toa5 68719476736 (by omega) (decide (x.num<0)) (!decide (y.num<0)) false false q3 q4 _ _ _ _ (hx.sm hk).1 (hx.sm hk).2 (hy.sm hl).1 (hy.sm hl).2
 rw[Fp,IA,IA,<-Rat.sub_eq_add_neg]at hA;refine Ev.x N.QR rfl rfl ?_;(repeat' ((first|apply sF|apply BA|refine BH (hF) ?_|refine BH (hA _ _) ?_)<;>conv=>whnf))
 exact CJ rfl (G4 _)
theorem AjQ {x y:Int} (h:y≠0):mkRat (y.sign*x) y.natAbs=Rat.divInt x y:=by
 obtain ⟨d,hd|hd⟩:=Int.eq_nat_or_neg y
 ·subst hd
  rw[Int.sign_eq_one_of_pos (by omega),Int.one_mul,Int.natAbs_natCast,Rat.divInt_ofNat]
 ·subst hd
  rw[Int.sign_eq_neg_one_of_neg (by omega),Int.natAbs_neg,Int.natAbs_natCast,Rat.divInt_neg',Rat.divInt_ofNat,Int.neg_one_mul]
theorem To (N:o5 L) (x y:Int) (hx : -9223372036854775808<=x/\x<=9223372036854775807) (hy : -9223372036854775808<=y/\y<=9223372036854775807) (h0:y≠0):Ev L 151 [.int .i64 x,.int .i64 y] (.agg (eQ (Rat.divInt x y))):=by
 have h1:=mI N.toa5 x hx;have h2:=mI N.toa5 y hy;have g1:Sm 2 (dg x.natAbs):=Sm.dg (by omega);have g2:Sm 2 (dg y.natAbs):=Sm.dg (by omega);have hl:=λ q1 q2=>ZN N.toa5 (decide (x<0) != decide (y<0)) q1 q2 (dg x.natAbs) (dg y.natAbs) (g1.le (by omega)) (g2.le (by omega)) (by rw[DN];omega)
 unfold qv at hl;rw[Gk h0,DN,AjQ h0]at hl;refine Ev.x N.QM rfl rfl ?_;(repeat' ((first|(apply BR<;>intro hc<;>try (exfalso;omega))|apply BA|refine BH (h1) ?_|refine BH (h2) ?_)<;>conv=>whnf))
 refine H6 1000 N.M7 rfl rfl ?_;(repeat' (apply BA<;>conv=>whnf))
 generalize decide (x<0)=p at *;generalize decide (y<0)=r at *;cases p<;>cases r;all_goals
  (conv=>whnf)
  refine ⟨rfl,?_⟩;(conv=>whnf)
  (repeat' (refine BH (hl _ _) ?_<;>conv=>whnf))
  exact CJ rfl (G4 _)
def KZ (p r:List Rat):List Rat:=(List.range p.length).map λ i=>p.getD i 0+r.getD i 0
theorem kO (p r:List Rat):(KZ p r).length=p.length:=by simp [KZ]
theorem kN {p r:List Rat} {i:Nat} (h:i<p.length):(KZ p r)[i]? = some (p.getD i 0+r.getD i 0):=by
 simp only[KZ,List.getElem?_map,List.getElem?_range h,Option.map_some]
theorem T7 {l:List Rat} {i:Nat} {x:Rat} (h:l[i]? = some x):l.getD i 0=x:=by rw[List.getD_eq_getElem?_getD,h];rfl
theorem nM {l:List Rat} {i:Nat} (h:l.length<=i):l.getD i 0=0:=by rw[List.getD_eq_getElem?_getD,List.getElem?_eq_none h];rfl
theorem Va (N:z8 L) (q:Bool) (l:List Rat) (k:Nat) (hl:Bs k l) (hk:k<2199023255552) (hn:l.length<=1000000):Ev L 170 [.sl q (l.map eQ)] (.sl false ((GM l).map eQ)):=by
 refine Ev.x N.QI rfl rfl ?_;(repeat' (apply BA<;>conv=>whnf))
 refine HI 1000 N.KR rfl rfl ?_;(repeat' ((first|apply CB|apply BA)<;>conv=>whnf))
 refine DG (λ n=>n) (λ(n:Nat)=>n<=l.length/\FY l l.length=FY l n) (λ n=>[(3,.int .i64 n)]) (λ_=>[]) [] [] l.length (by (conv=>whnf);exact ⟨rfl,rfl,rfl⟩) ⟨Nat.le_refl _,rfl⟩ ?_;intro n ⟨p1,p2⟩ ih;have done : ∀ {n:Nat},FY l l.length=n->GM l=l.take n:=λ h=>by rw[GM,h]
 by_cases hz:n=0\/(∃ m x,n=m+1/\l[m]? = some x/\x≠0)
 ·have bn:FY l l.length=n:=by
   rw[p2];rcases hz with rfl|⟨m,x,rfl,h1,h2⟩
   ·rfl
   ·rw[FY,if_neg]
    rw[List.getD_eq_getElem?_getD,h1];exact h2
  have pn:=done bn;have htl:(l.take n).length=n:=by rw[List.length_take];omega
  clear ih bn p2 done;rcases hz with h0|⟨m,x,ye,h1,h2⟩
  case' inl=>(repeat' ((first|(apply BR<;>intro hc<;>try (exfalso;omega))|apply BA)<;>conv=>whnf))
  case' inr =>
   have h1':l[((n:Int)-1).toNat]? = some x:=by rw[show ((n:Int)-1).toNat=m by omega];exact h1
   have ff:=N1 N.toa5 (hl.at h1) (by omega);have hs:=OJ (x:=x);generalize sgn x.num=s at *;have hS : ∀ v,l[((n:Int)-1).toNat]? = some v->Ev L 97 [.agg (eQ v)] (.int .i64 s):=λ v h=>by
    obtain rfl:=Option.some.inj (h1'.symm.trans h);exact ff
   have hs0:s≠0:=λ h=>h2 (hs.1 h)
   (repeat' ((first|(apply BR<;>intro hc<;>try (exfalso;omega))|(apply D4;omega)|(refine CX (by assumption) ?_ rfl ?_;omega)|apply BA|refine BH (ff) ?_)<;>conv=>whnf))
  all_goals
   refine UK (enc:=eQ) (λ_=>rfl) p1 ?_;(conv=>whnf)
   skip
   refine ⟨rfl,_,rfl,?_⟩;(conv=>whnf)
   (repeat' (apply CB<;>conv=>whnf))
   refine GT (enc:=eO) none n rfl (by rw[htl]) (by omega) ?_;(conv=>whnf)
   skip
   refine DG (λ i=>n-i) (λ(i:Nat)=>i<=n) (λ i=>[(11,.int .i64 i)]) (λ i=>[(170008,170008,.rw 3 ((FR (l.take i) n).map eO))]) [] [] 0 (by first|exact (by (conv=>whnf);exact ⟨rfl,rfl,rfl⟩)|(rw[List.take_zero,<-KO];exact (by (conv=>whnf);exact ⟨rfl,rfl,rfl⟩))) (by omega) ?_;intro i g1 ih;by_cases hi:i<n
   ·all_goals try (exfalso;omega)
    all_goals
     obtain ⟨y,hy⟩ : ∃ y,l[i]? = some y:=⟨_,zE (by omega)⟩;have hy':l[(i:Int).toNat]? = some y:=hy;have hti:(l.take i).length=i:=by rw[List.length_take];omega
     have hlf:=JM (l:=l.take i) (m:=n) (by omega);have hst:=KP (l:=l.take i) (m:=n) (x:=y) (by omega);rw[hti,<-jS hy]at hst;have Io:=XM N.toa5 (hl.at hy) (by omega);have hT : ∀ v,l[(i:Int).toNat]? = some v->Ev L 95 [.agg (eQ v)] (.agg (eQ y)):=λ v h=>by
      obtain rfl:=Option.some.inj (hy'.symm.trans h);exact Io
     (repeat' ((first|(apply BR<;>intro hc<;>try (exfalso;omega))|(apply CE;omega)|(refine CX (by assumption) ?_ rfl ?_;omega)|apply BA|refine BH (Io) ?_)<;>conv=>whnf))
     refine G8 (enc:=eO) (some y) rfl (λ e=>by cases e<;>rfl) (by omega) ?_;(conv=>whnf)
     (repeat' ((first|(apply CG;omega)|fail)<;>conv=>whnf))
     rw[hst];exact C6 [] (ih (i+1) (by omega) (by omega))
   ·obtain rfl:i=n:=by omega
    clear ih;rw[K4 htl,<-pn]at *;rw[<-pn]at htl;(repeat' ((first|(apply BR<;>intro hc<;>try (exfalso;omega))|apply BA)<;>conv=>whnf))
    refine GI (enc:=eQ) (λ_=>rfl) rfl htl.symm ?_;(conv=>whnf)
    exact CJ rfl (by simp only[CS,true_and];exact KM _)
 ·obtain ⟨m,rfl⟩ : ∃ m,n=m+1:=⟨n-1,by omega⟩
  obtain ⟨x,hx⟩ : ∃ x,l[m]? = some x:=⟨_,zE (by omega)⟩;have hx0:x=0:=by
   rcases Classical.em (x=0) with h|h
   ·exact h
   ·exact (hz (Or.inr ⟨m,x,rfl,hx,h⟩)).elim
  have hx':l[((m+1:Nat)-1:Int).toNat]? = some x:=by rw[show ((m+1:Nat)-1:Int).toNat=m by omega];exact hx
  have ff:=N1 N.toa5 (hl.at hx) (by omega);have hs:=OJ (x:=x);generalize sgn x.num=s at *;have hS : ∀ v,l[((m+1:Nat)-1:Int).toNat]? = some v->Ev L 97 [.agg (eQ v)] (.int .i64 s):=λ v h=>by
   obtain rfl:=Option.some.inj (hx'.symm.trans h);exact ff
  have hs0:=hs.2 hx0;(repeat' ((first|(apply BR<;>intro hc<;>try (exfalso;omega))|(apply D4;omega)|(refine CX (by assumption) ?_ rfl ?_;omega)|apply BA|refine BH (ff) ?_)<;>conv=>whnf))
  rw[show ((m+1:Nat):Int)-1=(m:Int) by omega];exact C6 [] (ih m (by omega) ⟨by omega,by rw[p2,FY,if_pos (by rw[List.getD_eq_getElem?_getD,hx];exact hx0)]⟩)
theorem Wu (N:TrGLib L) (q:Bool) (l:List Rat) (d:Rat) (k j:Nat) (hl:Bs k l) (hd:Bt j d) (hk:k+j<2199023255552) (hn:l.length<=1000000):Ev L 190 [.sl q (l.map eQ),.agg (eQ d)] (.sl false ((GM (l.map (· * d))).map eQ)):=by
 refine Ev.x N.QH rfl rfl ?_;(repeat' ((first|apply CB|apply BA)<;>conv=>whnf))
 refine GT (enc:=eO) none l.length rfl rfl (by omega) ?_;(conv=>whnf)
 skip
 refine DG (λ i=>l.length-i) (λ(i:Nat)=>i<=l.length) (λ i=>[(12,.int .i64 i)]) (λ i=>[(9,9,.rw 3 ((FR ((l.map (· * d)).take i) l.length).map eO))]) [] [] 0 (by first|exact (by (conv=>whnf);exact ⟨rfl,rfl,rfl⟩)|(rw[List.take_zero,<-KO];exact (by (conv=>whnf);exact ⟨rfl,rfl,rfl⟩))) (by omega) ?_;intro i g1 ih;by_cases hi:i<l.length
 ·obtain ⟨x,hx⟩ : ∃ x,l[i]? = some x:=⟨_,zE hi⟩
  have hx':l[(i:Int).toNat]? = some x:=hx;have hM:=K3 N.toa5 (hl.at hx) hd (by omega) (by omega);have hy:(l.map (· * d))[i]? = some (x*d):=by rw[List.getElem?_map,hx];rfl
  have hti:((l.map (· * d)).take i).length=i:=by rw[List.length_take,List.length_map];omega
  have hlf:=JM (l:=(l.map (· * d)).take i) (m:=l.length) (by omega);have hst:=KP (l:=(l.map (· * d)).take i) (m:=l.length) (x:=x*d) (by omega);rw[hti,<-jS hy]at hst;(repeat' ((first|(apply BR<;>intro hc<;>try (exfalso;omega))|(apply CE;omega)|(refine CX (by assumption) ?_ rfl ?_;omega)|apply BA|refine BH (hM) ?_)<;>conv=>whnf))
  refine G8 (enc:=eO) (some (x*d)) rfl (λ e=>by cases e<;>rfl) (by omega) ?_;(conv=>whnf)
  (repeat' ((first|(apply CG;omega)|fail)<;>conv=>whnf))
  rw[hst];exact C6 [] (ih (i+1) (by omega) (by omega))
 ·obtain rfl:i=l.length:=by omega
  clear ih;have vf:Bs (k+j) (l.map (· * d)):=by
   intro y hy;obtain ⟨x,hx,rfl⟩:=List.mem_map.1 hy;exact (hl x hx).mul hd
  have hml:(l.map (· * d)).length=l.length:=List.length_map ..;rw[List.take_of_length_le (Nat.le_of_eq hml),K4 hml,<-hml];generalize l.map (· * d)=p at *;(repeat' ((first|(apply BR<;>intro hc<;>try (exfalso;omega))|apply BA)<;>conv=>whnf))
  refine HI 1000 N.KR rfl rfl ?_;(repeat' (apply BA<;>conv=>whnf))
  refine DG (λ n=>n) (λ(n:Nat)=>n<=p.length/\FY p p.length=FY p n) (λ n=>[(3,.int .i64 n)]) (λ_=>[(9,9,.rw 3 (p.map eQ))]) [] [] p.length (by (conv=>whnf);exact ⟨rfl,rfl,rfl⟩) ⟨Nat.le_refl _,rfl⟩ ?_;intro n ⟨p1,p2⟩ ih;have done : ∀ {n:Nat},FY p p.length=n->GM p=p.take n:=λ h=>by rw[GM,h]
  by_cases hz:n=0\/(∃ m x,n=m+1/\p[m]? = some x/\x≠0)
  ·have bn:FY p p.length=n:=by
    rw[p2];rcases hz with rfl|⟨m,x,rfl,h1,h2⟩
    ·rfl
    ·rw[FY,if_neg]
     rw[List.getD_eq_getElem?_getD,h1];exact h2
   have pn:=done bn;have htl:(p.take n).length=n:=by rw[List.length_take];omega
   clear ih bn p2 done;rcases hz with h0|⟨m,x,ye,h1,h2⟩
   case' inl=>(repeat' ((first|(apply BR<;>intro hc<;>try (exfalso;omega))|apply BA)<;>conv=>whnf))
   case' inr =>
    have h1':p[((n:Int)-1).toNat]? = some x:=by rw[show ((n:Int)-1).toNat=m by omega];exact h1
    have ff:=N1 N.toa5 (vf.at h1) (by omega);have hs:=OJ (x:=x);generalize sgn x.num=s at *;have hS : ∀ v,p[((n:Int)-1).toNat]? = some v->Ev L 97 [.agg (eQ v)] (.int .i64 s):=λ v h=>by
     obtain rfl:=Option.some.inj (h1'.symm.trans h);exact ff
    have hs0:s≠0:=λ h=>h2 (hs.1 h)
    (repeat' ((first|(apply BR<;>intro hc<;>try (exfalso;omega))|(apply CE;omega)|(apply D4;omega)|(refine aP ?_ (λ_=>rfl) (λ v hv => ?_);omega)|apply BA|refine BH (hS _ hv) ?_)<;>conv=>whnf))
   all_goals
    refine JK n (by omega) (by omega) ?_;(conv=>whnf)
    skip
    refine ⟨rfl,_,rfl,?_⟩;(conv=>whnf)
    (refine J0 (enc:=eQ) (λ_=>rfl) (by omega) ?_;rw[List.drop_zero,Nat.sub_zero,<-pn];exact CJ rfl (by simp only[CS,true_and];exact KM _))
  ·obtain ⟨m,rfl⟩ : ∃ m,n=m+1:=⟨n-1,by omega⟩
   obtain ⟨x,hx⟩ : ∃ x,p[m]? = some x:=⟨_,zE (by omega)⟩;have hx0:x=0:=by
    rcases Classical.em (x=0) with h|h
    ·exact h
    ·exact (hz (Or.inr ⟨m,x,rfl,hx,h⟩)).elim
   have hx':p[((m+1:Nat)-1:Int).toNat]? = some x:=by rw[show ((m+1:Nat)-1:Int).toNat=m by omega];exact hx
   have ff:=N1 N.toa5 (vf.at hx) (by omega);have hs:=OJ (x:=x);generalize sgn x.num=s at *;have hS : ∀ v,p[((m+1:Nat)-1:Int).toNat]? = some v->Ev L 97 [.agg (eQ v)] (.int .i64 s):=λ v h=>by
    obtain rfl:=Option.some.inj (hx'.symm.trans h);exact ff
   have hs0:=hs.2 hx0;(repeat' ((first|(apply BR<;>intro hc<;>try (exfalso;omega))|(apply CE;omega)|(apply D4;omega)|(refine aP ?_ (λ_=>rfl) (λ v hv => ?_);omega)|apply BA|refine BH (hS _ hv) ?_)<;>conv=>whnf))
   rw[show ((m+1:Nat):Int)-1=(m:Int) by omega];exact C6 [] (ih m (by omega) ⟨by omega,by rw[p2,FY,if_pos (by rw[List.getD_eq_getElem?_getD,hx];exact hx0)]⟩)
theorem Wt (N:TrGLib L) (q1 q2:Bool) (p r:List Rat) (k j:Nat) (hp:Bs k p) (hr:Bs j r) (hk:k+j+1<2199023255552) (hn:p.length<=1000000) (hm:r.length<=p.length):Ev L 191 [.sl q1 (p.map eQ),.sl q2 (r.map eQ)] (.sl false ((GM (KZ p r)).map eQ)):=by
 refine Ev.x N.QE rfl rfl ?_;(repeat' ((first|(apply BR<;>intro hc<;>try (exfalso;omega))|apply CB|apply BA)<;>conv=>whnf))
 refine GT (enc:=eO) none p.length rfl rfl (by omega) ?_;(conv=>whnf)
 skip
 have hml:=kO p r;refine DG (λ i=>p.length-i) (λ(i:Nat)=>i<=p.length) (λ i=>[(19,.int .i64 i)]) (λ i=>[(16,16,.rw 3 ((FR ((KZ p r).take i) p.length).map eO))]) [] [] 0 (by first|exact (by (conv=>whnf);exact ⟨rfl,rfl,rfl⟩)|(rw[List.take_zero,<-KO];exact (by (conv=>whnf);exact ⟨rfl,rfl,rfl⟩))) (by omega) ?_;intro i g1 ih;by_cases hi:i<p.length
 ·obtain ⟨x,hx⟩ : ∃ x,p[i]? = some x:=⟨_,zE hi⟩
  have hx':p[(i:Int).toNat]? = some x:=hx;have hy:=kN (r:=r) hi;rw[T7 hx]at hy;have hti:((KZ p r).take i).length=i:=by rw[List.length_take];omega
  have hlf:=JM (l:=(KZ p r).take i) (m:=p.length) (by omega);have hst:=KP (l:=(KZ p r).take i) (m:=p.length) (x:=x+r.getD i 0) (by omega);rw[hti,<-jS hy]at hst;by_cases h2:i<r.length
  ·obtain ⟨y,tp⟩ : ∃ y,r[i]? = some y:=⟨_,zE h2⟩
   have AoH:r[(i:Int).toNat]? = some y:=tp;rw[T7 tp]at hst;have hA:=cB N.toa5 (hp.at hx) (hr.at tp) (by omega) (by omega);(repeat' ((first|(apply BR<;>intro hc<;>try (exfalso;omega))|(apply CE;omega)|apply CB|(refine CX (by assumption) ?_ rfl ?_;omega)|apply BA|refine BH (hA) ?_)<;>conv=>whnf))
   refine G8 (enc:=eO) (some (x+y)) rfl (λ e=>by cases e<;>rfl) (by omega) ?_;(conv=>whnf)
   (repeat' ((first|(apply CG;omega)|fail)<;>conv=>whnf))
   rw[hst];exact C6 [] (ih (i+1) (by omega) (by omega))
  ·rw[nM (l:=r) (by omega),Rat.add_zero]at hst
   have hT:=XM N.toa5 (hp.at hx) (by omega);(repeat' ((first|(apply BR<;>intro hc<;>try (exfalso;omega))|(apply CE;omega)|apply CB|(refine CX (by assumption) ?_ rfl ?_;omega)|apply BA|refine BH (hT) ?_)<;>conv=>whnf))
   refine G8 (enc:=eO) (some x) rfl (λ e=>by cases e<;>rfl) (by omega) ?_;(conv=>whnf)
   (repeat' ((first|(apply CG;omega)|fail)<;>conv=>whnf))
   rw[hst];exact C6 [] (ih (i+1) (by omega) (by omega))
 ·obtain rfl:i=p.length:=by omega
  clear ih;have vf:Bs (k+j+1) (KZ p r):=by
   intro z hz;obtain ⟨i,hi⟩:=List.getElem?_of_mem hz;have h1:=(zS hi).1;rw[hml]at h1;rw[kN h1]at hi;obtain rfl:=Option.some.inj hi;obtain ⟨x,hx⟩ : ∃ x,p[i]? = some x:=⟨_,zE h1⟩;rw[T7 hx];by_cases h2:i<r.length
   ·obtain ⟨y,tp⟩ : ∃ y,r[i]? = some y:=⟨_,zE h2⟩
    rw[T7 tp];exact (hp.at hx).add (hr.at tp)
   ·rw[nM (l:=r) (by omega),Rat.add_zero]
    exact (hp.at hx).le (by omega)
  rw[List.take_of_length_le (Nat.le_of_eq hml),K4 hml,<-hml];generalize KZ p r=u at *;(repeat' ((first|(apply BR<;>intro hc<;>try (exfalso;omega))|apply BA)<;>conv=>whnf))
  refine HI 1000 N.KR rfl rfl ?_;(repeat' (apply BA<;>conv=>whnf))
  refine DG (λ n=>n) (λ(n:Nat)=>n<=u.length/\FY u u.length=FY u n) (λ n=>[(3,.int .i64 n)]) (λ_=>[(16,16,.rw 3 (u.map eQ))]) [] [] u.length (by (conv=>whnf);exact ⟨rfl,rfl,rfl⟩) ⟨Nat.le_refl _,rfl⟩ ?_;intro n ⟨p1,p2⟩ ih;have done : ∀ {n:Nat},FY u u.length=n->GM u=u.take n:=λ h=>by rw[GM,h]
  by_cases hz:n=0\/(∃ m x,n=m+1/\u[m]? = some x/\x≠0)
  ·have bn:FY u u.length=n:=by
    rw[p2];rcases hz with rfl|⟨m,x,rfl,h1,h2⟩
    ·rfl
    ·rw[FY,if_neg]
     rw[List.getD_eq_getElem?_getD,h1];exact h2
   have pn:=done bn;have htl:(u.take n).length=n:=by rw[List.length_take];omega
   clear ih bn p2 done;rcases hz with h0|⟨m,x,ye,h1,h2⟩
   case' inl=>(repeat' ((first|(apply BR<;>intro hc<;>try (exfalso;omega))|apply BA)<;>conv=>whnf))
   case' inr =>
    have h1':u[((n:Int)-1).toNat]? = some x:=by rw[show ((n:Int)-1).toNat=m by omega];exact h1
    have ff:=N1 N.toa5 (vf.at h1) (by omega);have hs:=OJ (x:=x);generalize sgn x.num=s at *;have hS : ∀ v,u[((n:Int)-1).toNat]? = some v->Ev L 97 [.agg (eQ v)] (.int .i64 s):=λ v h=>by
     obtain rfl:=Option.some.inj (h1'.symm.trans h);exact ff
    have hs0:s≠0:=λ h=>h2 (hs.1 h)
    (repeat' ((first|(apply BR<;>intro hc<;>try (exfalso;omega))|(apply CE;omega)|(apply D4;omega)|(refine aP ?_ (λ_=>rfl) (λ v hv => ?_);omega)|apply BA|refine BH (hS _ hv) ?_)<;>conv=>whnf))
   all_goals
    refine JK n (by omega) (by omega) ?_;(conv=>whnf)
    skip
    refine ⟨rfl,_,rfl,?_⟩;(conv=>whnf)
    (refine J0 (enc:=eQ) (λ_=>rfl) (by omega) ?_;rw[List.drop_zero,Nat.sub_zero,<-pn];exact CJ rfl (by simp only[CS,true_and];exact KM _))
  ·obtain ⟨m,rfl⟩ : ∃ m,n=m+1:=⟨n-1,by omega⟩
   obtain ⟨x,hx⟩ : ∃ x,u[m]? = some x:=⟨_,zE (by omega)⟩;have hx0:x=0:=by
    rcases Classical.em (x=0) with h|h
    ·exact h
    ·exact (hz (Or.inr ⟨m,x,rfl,hx,h⟩)).elim
   have hx':u[((m+1:Nat)-1:Int).toNat]? = some x:=by rw[show ((m+1:Nat)-1:Int).toNat=m by omega];exact hx
   have ff:=N1 N.toa5 (vf.at hx) (by omega);have hs:=OJ (x:=x);generalize sgn x.num=s at *;have hS : ∀ v,u[((m+1:Nat)-1:Int).toNat]? = some v->Ev L 97 [.agg (eQ v)] (.int .i64 s):=λ v h=>by
    obtain rfl:=Option.some.inj (hx'.symm.trans h);exact ff
   have hs0:=hs.2 hx0;(repeat' ((first|(apply BR<;>intro hc<;>try (exfalso;omega))|(apply CE;omega)|(apply D4;omega)|(refine aP ?_ (λ_=>rfl) (λ v hv => ?_);omega)|apply BA|refine BH (hS _ hv) ?_)<;>conv=>whnf))
   rw[show ((m+1:Nat):Int)-1=(m:Int) by omega];exact C6 [] (ih m (by omega) ⟨by omega,by rw[p2,FY,if_pos (by rw[List.getD_eq_getElem?_getD,hx];exact hx0)]⟩)
end Go.Eng
namespace Go.Eng
open F
attribute [local irreducible] AH BJ B1 BD E6 CF CI CY CU DX B5 DT EN GS DS CR DR EF AR CW BW pw DC DB EP EV E7 FM EZ D5 FE
set_option maxHeartbeats 1000000
variable {L:Lib}
def LD (n:Int):Prop := -9223372036854775808<=n/\n<=9223372036854775807
structure Wd where
 b:Int
 f:Int
 r:Int
 o:Int
def WV (w:Wd):Prop:=4<=w.b/\w.b<=24/\0<=w.f/\w.f<w.b/\1<=w.r/\w.r<=3/\1<=w.o/\w.o<=2
instance (w : Wd) : Decidable (WV w) := by unfold WV; infer_instance
variable (w:Wd)
def Zp:Int:=if WV w then -pw (w.b-1) else 0
def Xp:Int:=if WV w then pw (w.b-1)-1 else 0
def FT (v:Int):Prop:=WV w/\Zp w<=v/\v<=Xp w
instance (v : Int) : Decidable (FT w v) := by unfold FT; infer_instance
end Go.Eng

namespace Go.Eng
open F
attribute [local irreducible] AH BJ B1 BD E6 CF CI CY CU DX B5 DT EN GS DS CR DR EF AR CW BW pw DC DB EP EV E7 FM EZ D5 FE
set_option maxHeartbeats 1000000
variable {L:Lib}
structure Nd where
 q:Bool
 ts:List (Int × Int)
structure Nt where
 d:Wd
 c:Wd
 s:Int
 qn:Bool
 nodes:List Nd
 qx:Bool
 next:List Int
 out:Int
variable (n:Nt)
end Go.Eng

namespace Go.Eng
open F
attribute [local irreducible] AH BJ B1 BD E6 CF CI CY CU DX B5 DT EN GS DS CR DR EF AR CW BW pw DC DB EP EV E7 FM EZ D5 FE
variable {L:Lib}
set_option maxHeartbeats 1000000
def JU (v m:Int):Int:=if m<1 then 0 else v%m
theorem yE (W:WorldLib L) (v m:Int) (hv:LD v) (hm:m<=9223372036854775807):Ev L 34 [.int .i64 v,.int .i64 m] (.int .i64 (JU v m)):=by
 unfold LD at hv;refine Ev.x W.TL rfl rfl ?_;(repeat' ((first|(apply BR<;>intro hc<;>try (exfalso;omega))|(apply CG;omega)|(refine Y6 ?_ (λ_ _ _ => ?_) (λ_ _ _ _ => ?_);omega;all_goals try (exfalso;omega))|apply BA)<;>conv=>whnf))
 all_goals (refine FF ?_;unfold JU;first|rw[if_pos (by omega)]|rw[if_neg (by omega)])
 all_goals omega
def K1 (l:List Int) (i:Int):Int:=if 0<=i/\i<l.length then l.getD i.toNat 0 else 0
theorem yD (W:WorldLib L) (l:List Int) (q:Bool) (i:Int):Ev L 35 [.sl q (l.map V3),.int .i64 i] (.int .i64 (K1 l i)):=by
 refine Ev.x W.TG rfl rfl ?_;(repeat' ((first|(apply BR<;>intro hc<;>try (exfalso;omega))|apply CB|(refine kK ?_ (λ_=>rfl) (λ e he => ?_);omega)|apply BA)<;>conv=>whnf))
 all_goals (refine FF ?_;unfold K1;first|rw[if_neg (by omega)]|(rw[if_pos (by omega),List.getD_eq_getElem?_getD,he];rfl))
theorem Alv {v m:Int} (h:1<=m):0<=JU v m/\JU v m<m:=by
 unfold JU;rw[if_neg (by omega)];exact ⟨Int.emod_nonneg _ (by omega),Int.emod_lt_of_pos _ (by omega)⟩
end Go.Eng

namespace Go.Eng
open F
attribute [local irreducible] AH BJ B1 BD E6 CF CI CY CU DX B5 DT EN GS DS CR DR EF AR CW BW pw DC DB EP EV E7 FM EZ D5 FE
variable {L:Lib} (n:Nt)
set_option maxHeartbeats 1000000
end Go.Eng

namespace Go.Eng
open F
attribute [local irreducible] AH BJ B1 BD E6 CF CI CY CU DX B5 DT EN GS DS CR DR EF AR CW BW pw DC DB EP EV E7 FM EZ D5 FE
variable {L:Lib}
set_option maxHeartbeats 4000000
theorem xB (N:m9 L) (S:GU) (n k:Nat) (h:S.Ok n k) (hn:n<=64):Ev L 130 [.agg (eS S)] (.bool true):=by
 have h1:=h.la;have h2:=h.lb;have h3:=h.lc;refine Ev.x N.P2 rfl rfl ?_;(repeat' ((first|(apply BR<;>intro hc<;>try (exfalso;omega))|apply CB|apply BA)<;>conv=>whnf))
 refine DG (λ i=>S.a.length-i) (λ(i:Nat)=>i<=S.a.length) (λ i=>[(28,.int .i64 i)]) (λ_=>[]) [] [] 0 (by (conv=>whnf);exact ⟨rfl,rfl,rfl⟩) (by omega) ?_;intro i p1 ih;by_cases hi:i<S.a.length
 ·obtain ⟨r,hr⟩ : ∃ r,S.a[i]? = some r:=⟨_,zE hi⟩
  have hr':S.a[(i:Int).toNat]? = some r:=hr;have hrl:=h.lr r (zM hr);(repeat' ((first|(apply BR<;>intro hc<;>try (exfalso;omega))|(apply CG;omega)|apply CB|(refine CX (by assumption) ?_ rfl ?_;omega)|apply BA)<;>conv=>whnf))
  exact C6 [] (ih (i+1) (by omega) (by omega))
 ·obtain rfl:i=S.a.length:=by omega
  clear ih;(repeat' ((first|(apply BR<;>intro hc<;>try (exfalso;omega))|apply BA)<;>conv=>whnf))
  exact I4 rfl
theorem mP (N:m9 L) (a b:List Rat) (q1 q2:Bool) (k s:Nat) (hl:a.length=b.length) (ha:Bs k a) (hb:Bs s b) (hK:a.length*(k+s+1)+k+s<2199023255552) (hal:a.length<=1099511627776):Ev L 132 [.sl q1 (a.map eQ),.sl q2 (b.map eQ)] (.agg (eQ (CK a b))):=by
 have hO:=LK N.toa5 0 (by omega);refine Ev.x N.P5 rfl rfl ?_;(repeat' ((first|apply CB|apply BA|refine BH (hO) ?_)<;>conv=>whnf))
 refine I3 (λ i _=>a.length-i) (λ(i:Nat) (acc:Rat)=>i<=a.length/\acc=CK (a.take i) (b.take i)) (λ i acc=>[(11,.int .i64 i)]) (λ i acc=>[(5,5,.bx (eQ acc))]) [] [] 0 ((0:Int):Rat) (by (conv=>whnf);exact ⟨rfl,rfl,rfl⟩) ⟨by omega,by simp [CK]⟩ ?_;intro i acc ⟨p1,p2⟩ ih;by_cases hi:i<a.length
 ·obtain ⟨x,hx⟩ : ∃ x,a[i]? = some x:=⟨_,zE hi⟩
  obtain ⟨y,hy⟩ : ∃ y,b[i]? = some y:=⟨_,zE (by omega)⟩;have hx':a[(i:Int).toNat]? = some x:=hx;have hy':b[(i:Int).toNat]? = some y:=hy;have bx:=ha.at hx;have by':=hb.at hy
  have hS1:=N1 N.toa5 bx (by omega);have hS2:=N1 N.toa5 by' (by omega)
  have hM:=K3 N.toa5 bx by' (by omega) (by omega)
  have qk:Bt (a.length*(k+s+1)) acc:=by
   rw[p2];have:=(ha.take i).dot (hb.take i)
   refine this.le (Nat.mul_le_mul_right _ ?_);rw[List.length_take];omega
  have hA:=cB N.toa5 qk (bx.mul by') (by omega) (by omega);have hst:=bR hx hy;have z1:=OJ (x:=x);have z2:=OJ (x:=y);generalize sgn x.num=sx at *;generalize sgn y.num=sy at *;by_cases h1:sx=0
  ·have hx0:=z1.1 h1
   (repeat' ((first|(apply BR<;>intro hc<;>try (exfalso;omega))|(apply CG;omega)|(refine CX (by assumption) ?_ rfl ?_;omega)|apply BA|refine BH (hS1) ?_)<;>conv=>whnf))
   refine DE [] (by (conv=>whnf);exact ⟨rfl,rfl,rfl⟩) (ih (i+1) acc (by omega) ⟨by omega,?_⟩);rw[hst,hx0,Rat.zero_mul,Rat.add_zero];exact p2
  ·by_cases h2:sy=0
   ·have gl:=z2.1 h2
    (repeat' ((first|(apply BR<;>intro hc<;>try (exfalso;omega))|(apply CG;omega)|(refine CX (by assumption) ?_ rfl ?_;omega)|apply BA|refine BH (hS1) ?_|refine BH (hS2) ?_)<;>conv=>whnf))
    refine DE [] (by (conv=>whnf);exact ⟨rfl,rfl,rfl⟩) (ih (i+1) acc (by omega) ⟨by omega,?_⟩);rw[hst,gl,Rat.mul_zero,Rat.add_zero];exact p2
   ·(repeat' ((first|(apply BR<;>intro hc<;>try (exfalso;omega))|(apply CG;omega)|(refine CX (by assumption) ?_ rfl ?_;omega)|apply BA|refine BH (hS1) ?_|refine BH (hS2) ?_|refine BH (hM) ?_|refine BH (hA) ?_)<;>conv=>whnf))
    refine DE [] (by (conv=>whnf);exact ⟨rfl,rfl,rfl⟩) (ih (i+1) (acc+x*y) (by omega) ⟨by omega,?_⟩);rw[hst,<-p2]
 ·obtain rfl:i=a.length:=by omega
  clear ih;rw[XF rfl]at p2;rw[<-p2];(repeat' ((first|(apply BR<;>intro hc<;>try (exfalso;omega))|apply BA)<;>conv=>whnf))
  exact CJ rfl (G4 _)
end Go.Eng

namespace Go.Eng
theorem Bs.getD {k:Nat} {l:List Rat} (h:Bs k l) (i:Nat):Bt k (l.getD i 0):=by
 rw[List.getD_eq_getElem?_getD];cases e:l[i]? with
 | none=>exact Bt.zero k
 | some x=>exact h.at e
theorem Bt.ofInt {k:Nat} {z:Int} (h:z.natAbs<=2^k):Bt k ((z:Int):Rat):=⟨by rw[Rat.num_intCast];exact h,by rw[Rat.den_intCast];exact Nat.one_le_two_pow⟩
theorem Cx (σ:II) (k:Nat) : ∀ (n i:Nat),DZ σ k i (List.replicate n none)=List.replicate n [.nil]
 | 0,_=>rfl
 | n+1,i=>by
  rw[List.replicate_succ,List.replicate_succ];show [AV.nil]::DZ σ k (i+1) (List.replicate n none)=_;rw[Cx σ k n (i+1)]
theorem Ku {L:Lib} {kk:List It} {tm:Tm} {M:Mem} {Q:Tm->Mem->Prop} (k s n:Nat) (e:c5 M k=some (s,.mx (List.replicate n none))) (h:AH L kk tm ((k,s,.rw 1 (List.replicate n [.nil]))::M) Q):AH L kk tm M Q:=by
 intro σ st hr;have hg : ∀ j t c,b7 ((k,s,.rw 1 (List.replicate n [.nil]))::M) j t=some c -> ∃ c0,b7 M j t=some c0/\c0.blk σ j=c.blk σ j:=by
  intro j t c g;by_cases hj:j=k
  ·subst hj
   cases t with
   | zero =>
    have h1:c5 ((j,s,CQ.rw 1 (List.replicate n [.nil]))::M) j=some (s,.rw 1 (List.replicate n [.nil])):=by simp [c5]
    simp only[b7,h1,Option.some.injEq]at g;subst g;refine ⟨.mx (List.replicate n none),by simp only[b7,e],?_⟩;simp only[CQ.blk,Cx]
   | succ i =>
    have h1:c5 ((j,s,CQ.rw 1 (List.replicate n [.nil]))::M) j=some (s,.rw 1 (List.replicate n [.nil])):=by simp [c5]
    simp only[b7,h1]at g;cases g
  ·have h1:c5 ((k,s,CQ.rw 1 (List.replicate n [.nil]))::M) j=c5 M j:=by
    have hb:Nat.beq j k=false:=by
     cases hbb:Nat.beq j k with
     | false=>rfl
     | true=>exact absurd (Nat.eq_of_beq_eq_true hbb) hj
    simp only[c5,hb,cond_false]
   refine ⟨c,?_,rfl⟩;simp only[b7,h1]at g ⊢;exact g
 refine h σ st ⟨hr.tm,⟨?_,?_,?_,?_,?_⟩⟩
 ·intro j s' c g
  by_cases hj:j=k
  ·subst hj
   have h1:c5 ((j,s,CQ.rw 1 (List.replicate n [.nil]))::M) j=some (s,.rw 1 (List.replicate n [.nil])):=by simp [c5]
   rw[h1]at g;simp only[Option.some.injEq,Prod.mk.injEq]at g;obtain ⟨rfl,_⟩:=g;exact hr.sat.site _ _ _ e
  ·have h1:c5 ((k,s,CQ.rw 1 (List.replicate n [.nil]))::M) j=c5 M j:=by
    have hb:Nat.beq j k=false:=by
     cases hbb:Nat.beq j k with
     | false=>rfl
     | true=>exact absurd (Nat.eq_of_beq_eq_true hbb) hj
    simp only[c5,hb,cond_false]
   rw[h1]at g;exact hr.sat.site _ _ _ g
 ·intro j t c g
  obtain ⟨c0,q1,q2⟩:=hg j t c g;rw[<-q2];exact hr.sat.blk _ _ _ q1
 ·intro j t c g
  obtain ⟨c0,q1,_⟩:=hg j t c g;exact hr.sat.old _ _ _ q1
 ·intro j t j' t' c c' g g' hσ
  obtain ⟨c0,q1,_⟩:=hg j t c g;obtain ⟨c1,q2,_⟩:=hg j' t' c' g';exact hr.sat.inj _ _ _ _ _ _ q1 q2 hσ
 ·intro j t c g hw
  cases t with
  | zero =>
   by_cases hj:j=k
   ·subst hj;exact hr.sat.low _ _ _ (GK e) rfl
   ·rw[N9 hj]at g;exact hr.sat.low _ _ _ g hw
  | succ t =>
   obtain ⟨c0,q1,_⟩:=hg _ _ _ g;exact hr.sat.low _ _ _ q1 (iH q1)
end Go.Eng

namespace Go.Eng
variable {L:Lib}
def sO (fn:AFn) (z:Nat) (es:List (List AV)) (tm:Tm) (M:Mem):Prop:=match fn.res with
 | [.tmp t]=>match tg tm t with
  | .row k 0 z' 0 n=>match c5 M k with
   | some (_,.rw w9 es')=>z'=z/\w9=z/\n=es.length/\es'=es/\IO es
   | _=>False
  | _=>False
 | _=>False
theorem UE.x {f:Nat} {fn:AFn} {vs:List AV} {z:Nat} {es:List (List AV)} (hL:L f=some fn) (hp:Nat.beq vs.length fn.v8=true) (hd:NX vs=true) (h:AH L [.code fn.body] (ET 0 vs) [] (sO fn z es)):UE L f vs z es:=by
 obtain ⟨n,c,e9,hr,σ,tm,M,hR,hq⟩:=h (λ_ _=>(0,0)) ⟨ET 0 vs,BT.emp⟩ ⟨λ j=>Or.inr (by rw[NG];exact bM hd j),⟨(λ_ _ _ e=>by cases e),(λ_ _ _ e=>by simp [b7,c5]at e),(λ_ _ _ e=>by simp [b7,c5]at e),(λ_ _ _ _ _ _ e=>by simp [b7,c5]at e),(λ_ _ _ e=>by simp [b7,c5]at e)⟩⟩;unfold sO at hq;split at hq
 ·rename_i t iz
  split at hq
  ·rename_i k z' m Jl
   split at hq
   ·rename_i s w9 es' hM
    obtain ⟨rfl,rfl,rfl,rfl,hcl⟩:=hq;have hv:c9 e9.tm t = .row (σ k 0).1 (σ k 0).2 w9 0 es'.length:=by
     rcases hR.tm t with e|e
     ·rw[Jl]at e;cases e
     ·rw[e,Jl];rfl
    have hb:=hR.sat.blk k 0 (.rw w9 es') (by simp only[b7,hM]);obtain ⟨q,hq⟩:=JL.intro (r := .row (σ k 0).1 (σ k 0).2 w9 0 es'.length) (o':=e9.own) hL (DI.1 hp) ⟨n,c,e9,hr,by simp [iz,H2,hv,MH,K8],rfl⟩;refine ⟨q,?_⟩;simp only[hq,TQ,BT.get,hb];rw[if_pos (show (CQ.blk σ k (.rw w9 es')).es.length=es'.length/\IO (CQ.blk σ k (.rw w9 es')).es from ⟨rfl,hcl⟩)];rfl
   ·exact hq.elim
  ·exact hq.elim
 ·exact hq.elim
theorem Kw {Q:Tm->Mem->Prop} {c:C1} {k:List It} {tm:Tm} {M:Mem} (n:Nat) (h:fT (mo 0 tm) λ tm=>fM (gn M) λ M=>XK L Q n (.code c::k) tm M):AH L (.code c::k) tm M Q:=by
 rw[ZT,N3]at h;exact rO (kM h)
theorem UD {α:Type} {enc:α->List AV} {l:List α} {f z:Nat} {vs:List AV} {K:Nat->List (List AV)->Nat->Prop} (n:Nat) (h:UE L f vs z (l.map enc)) (hn:n=l.length) (hk:K z (l.map enc) n):FE L f vs K:=⟨z,_,n,h,by simpa using hn,hk⟩
end Go.Eng



namespace Go.Eng
open F
attribute [local irreducible] AH BJ B1 BD E6 CF CI CY CU DX B5 DT EN GS DS CR DR EF AR CW BW pw DC DB EP EV E7 FM EZ D5 FE
variable {L:Lib}
set_option maxHeartbeats 4000000
theorem YR (m p:Nat):(List.replicate m (0:Rat)).set p 1=FV m p:=by
 refine List.ext_getElem? λ j => ?_
 simp only[FV,List.getElem?_set,List.getElem?_map,List.getElem?_replicate,List.length_replicate];by_cases h:j<m
 ·rw[List.getElem?_range h]
  by_cases e:p=j
  ·subst e;simp [h]
  ·simp [h,e];intro h3;omega
 ·rw[List.getElem?_eq_none (by simpa using h)]
  simp [h];intro e;omega
theorem Yh (N:m9 L) (m:Nat) (hm:m<=65536):UE L 131 [.int .i64 (m:Int)] 3 ((List.replicate m (0:Rat)).map eQ):=by
 have hO:=LK N.toa5 0 (by omega);refine UE.x N.P9 rfl rfl ?_;(repeat' (apply BA<;>conv=>whnf))
 refine GT (enc:=eO) none m rfl rfl (by omega) ?_;(conv=>whnf)
 skip
 refine DG (λ i=>m-i) (λ(i:Nat)=>i<=m) (λ i=>[(9,.int .i64 i)]) (λ i=>[(131006,131006,.rw 3 ((FR (List.replicate i 0) m).map eO))]) [] [] 0 (by first|exact (by (conv=>whnf);exact ⟨rfl,rfl,rfl⟩)|(rw[<-KO];exact (by (conv=>whnf);exact ⟨rfl,rfl,rfl⟩))) (by omega) ?_;intro i p1 ih;by_cases hi:i<m
 ·have hl:=JM (l:=List.replicate i (0:Rat)) (m:=m) (by simp;omega)
  have hs:=KP (l:=List.replicate i (0:Rat)) (m:=m) (x:=0) (by simp;omega);rw[List.length_replicate]at hs;(repeat' ((first|(apply BR<;>intro hc<;>try (exfalso;omega))|(apply CE;omega)|apply BA|refine BH (hO) ?_)<;>conv=>whnf))
  refine G8 (enc:=eO) (some 0) rfl (λ e=>by cases e<;>rfl) (by omega) ?_;(conv=>whnf)
  (repeat' ((first|(apply CG;omega)|fail)<;>conv=>whnf))
  rw[hs];rw[show List.replicate i (0:Rat)++[0]=List.replicate (i+1) 0 by rw[List.replicate_succ']];exact C6 [] (ih (i+1) (by omega) (by omega))
 obtain rfl:i=m:=by omega
 clear ih;rw[K4 (by simp)];(repeat' ((first|(apply BR<;>intro hc<;>try (exfalso;omega))|apply BA)<;>conv=>whnf))
 exact ⟨rfl,rfl,by simp,rfl,KM _⟩
theorem nC {α:Type} (a b:α) {t m:Nat} (_:t<=m) (h:t<m):(List.replicate t a++List.replicate (m-t) b).set t a=List.replicate (t+1) a++List.replicate (m-(t+1)) b:=by
 obtain ⟨k,hk⟩ : ∃ k,m-t=k+1:=⟨m-t-1,by omega⟩;rw[List.set_append_right _ _ (by simp),hk,List.length_replicate,Nat.sub_self,List.replicate_succ,List.set_cons_zero,show m-(t+1)=k by omega,List.replicate_succ',List.append_assoc];rfl
def fz {α:Type} (z:α) (l:List α) (m:Nat):List α:=l++List.replicate (m-l.length) z
theorem gY {α:Type} {z:α} {l:List α} {m:Nat} (h:l.length<=m):(fz z l m).length=m:=by simp [fz];omega
theorem gZ {α:Type} {z x:α} {l:List α} {m:Nat} (h:l.length<m):(fz z l m).set l.length x=fz z (l++[x]) m:=by
 unfold fz;obtain ⟨k,hk⟩ : ∃ k,m-l.length=k+1:=⟨m-l.length-1,by omega⟩;rw[List.set_append_right _ _ (by simp),hk,Nat.sub_self,List.replicate_succ,List.set_cons_zero,List.length_append,List.length_singleton,show m-(l.length+1)=k by omega,List.append_assoc];rfl
theorem yU {α:Type} {z:α} {l:List α} {m:Nat} (h:l.length<m):(fz z l m)[l.length]? = some z:=by
 unfold fz;rw[List.getElem?_append_right (by omega),Nat.sub_self,List.getElem?_replicate,if_pos (by omega)]
theorem gX {α:Type} {z:α} {l:List α} {m:Nat} (h:l.length=m):fz z l m=l:=by simp [fz,h]
theorem TC {α:Type} {l:List α} {i:Nat} {x:α} (h:l[i]? = some x):l.take (i+1)=l.take i++[x]:=by
 rw[List.take_add_one,h];rfl
end Go.Eng

namespace Go.Eng
variable {L:Lib}
def Eh:List Nat->Mem->Mem
 | [],M=>M
 | j::r,M=>Eh r (n6 j M)
theorem Kq {kk:List It} {tm:Tm} {M:Mem} {Q:Tm->Mem->Prop} (j:Nat) (h:AH L kk tm (n6 j M) Q):AH L kk tm M Q:=by
 intro σ st hr;exact h σ st ⟨hr.tm,⟨λ k s c e=>hr.sat.site k s c (PK e).2,λ k t c e=>hr.sat.blk k t c (K6 e).2,λ k t c e=>hr.sat.old k t c (K6 e).2,λ k t k' t' c c' e e'=>hr.sat.inj k t k' t' c c' (K6 e).2 (K6 e').2,λ k t c e hw=>hr.sat.low k t c (K6 e).2 hw⟩⟩
theorem rP {kk:List It} {tm:Tm} {Q:Tm->Mem->Prop} : ∀ (ks:List Nat) {M:Mem},AH L kk tm (Eh ks M) Q->AH L kk tm M Q
 | [],_,h=>h
 | j::r,_,h=>Kq j (rP r h)
end Go.Eng

namespace Go.Eng
open F
attribute [local irreducible] AH BJ B1 BD E6 CF CI CY CU DX B5 DT EN GS DS CR DR EF AR CW BW pw DC DB EP EV E7 FM EZ D5 FE
variable {L:Lib}
set_option maxHeartbeats 16000000
def OM (S:GU) (n:Nat):List Rat:=GM (GC S.a n n)
def ON (S:GU) (n:Nat):List Rat:=GM (KZ (IJ S n n) (GM ((GC S.a n n).map (· * S.d))))
def MX (n i:Nat):List (List Rat):=(List.range n).map λ r:Nat=>if r<i then FV n r else List.replicate n 0
theorem zP (n i:Nat):(MX n i).length=n:=by simp [MX]
theorem Xu (n:Nat):MX n 0=List.replicate n (List.replicate n 0):=by
 refine List.ext_getElem? λ r => ?_
 simp only[MX,List.getElem?_map,List.getElem?_replicate];by_cases h:r<n
 ·rw[List.getElem?_range h,if_pos h];simp
 ·rw[List.getElem?_eq_none (by simp;omega),if_neg h];rfl
theorem Xr (n:Nat):MX n n=FJ n:=by
 refine List.map_congr_left λ r hr => ?_
 rw[if_pos (List.mem_range.1 hr)]
theorem Xq {n i:Nat} (h:i<n):(MX n i)[i]? = some (List.replicate n 0):=by
 simp only[MX,List.getElem?_map,List.getElem?_range h,Option.map_some,Nat.lt_irrefl,if_false]
theorem Xt {n i:Nat} (h:i<n):(MX n i).set i ((List.replicate n 0).set i 1)=MX n (i+1):=by
 refine List.ext_getElem? λ r => ?_
 rw[List.getElem?_set,zP,YR];simp only[MX,List.getElem?_map];by_cases hr:r<n
 ·rw[List.getElem?_range hr]
  by_cases e:i=r
  ·subst e;simp [h]
  ·simp only[e,if_false,Option.map_some]
   by_cases h3:r<i
   ·rw[if_pos h3,if_pos (by omega)]
   ·rw[if_neg h3,if_neg (by omega)]
 ·rw[List.getElem?_eq_none (by simp;omega)]
  simp;omega
def cf (l:List Rat) (prev:List (Option Rat)) (i:Nat):List (Option Rat):=(l.take i).map some++prev.drop i
theorem Nn {l:List Rat} {prev:List (Option Rat)} {i n:Nat} (hl:l.length=n) (hp:prev.length=n) (hi:i<=n):(cf l prev i).length=n:=by
 simp [cf];omega
theorem Nq (l:List Rat) (prev:List (Option Rat)):cf l prev 0=prev:=by simp [cf]
theorem Nm {l:List Rat} {prev:List (Option Rat)} {n:Nat} (hl:l.length=n) (hp:prev.length=n):cf l prev n=l.map some:=by
 rw[cf,List.take_of_length_le (by omega),List.drop_of_length_le (by omega),List.append_nil]
theorem Np {l:List Rat} {prev:List (Option Rat)} {i n:Nat} {x:Rat} (hp:prev.length=n) (hx:l[i]? = some x) (hi:i<n):(cf l prev i).set i (some x)=cf l prev (i+1):=by
 have Je:=(zS hx).1;have htl:((l.take i).map some).length=i:=by rw[List.length_map,List.length_take];omega
 obtain ⟨y,hy⟩ : ∃ y,prev[i]? = some y:=⟨_,zE (by omega)⟩;obtain ⟨hi2,he2⟩:=zS hy;rw[cf,List.set_append_right _ _ (by omega),htl,Nat.sub_self,List.drop_eq_getElem_cons hi2,List.set_cons_zero,cf,LC hx,List.map_append];simp
theorem Eg (l:List Rat):(l.map some).map eO=l.map eQ:=by simp [Function.comp_def]
def ot (P:List (List Rat)) (n j i:Nat):List (List (Option Rat)):=(List.range P.length).map λ r=>FR ((P.getD r []).take (if r<i then j+1 else j)) n
theorem Z3 (P:List (List Rat)) (n j i:Nat):(ot P n j i).length=P.length:=by simp [ot]
theorem yY {P:List (List Rat)} {i:Nat} {row:List Rat} (h:P[i]? = some row):P.getD i []=row:=by rw[List.getD_eq_getElem?_getD,h];rfl
theorem cX {P:List (List Rat)} {n j i r:Nat} {row:List Rat} (h:P[r]? = some row):(ot P n j i)[r]? = some (FR (row.take (if r<i then j+1 else j)) n):=by
 have h1:=(zS h).1;simp only[ot,List.getElem?_map,List.getElem?_range h1,Option.map_some,yY h]
theorem Cj {P:List (List Rat)} {n j i:Nat} {row:List Rat} (h:P[i]? = some row):(ot P n j i).set i (FR (row.take (j+1)) n)=ot P n j (i+1):=by
 refine List.ext_getElem? λ r => ?_
 rw[List.getElem?_set,Z3];cases e:P[r]? with
 | none =>
  have h1:=List.getElem?_eq_none_iff.1 e;have h2:=(zS h).1;rw[List.getElem?_eq_none (by rw[Z3];exact h1),if_neg (by omega),List.getElem?_eq_none (by rw[Z3];exact h1)]
 | some rw' =>
  rw[cX e,cX e];by_cases hi:i=r
  ·subst hi
   obtain rfl:=Option.some.inj (h.symm.trans e);have h2:=(zS h).1;rw[if_pos rfl,if_pos h2,if_pos (by omega)]
  ·rw[if_neg hi]
   by_cases h3:r<i
   ·rw[if_pos h3,if_pos (by omega)]
   ·rw[if_neg h3,if_neg (by omega)]
theorem Ci (P:List (List Rat)) (n j:Nat):ot P n j P.length=ot P n (j+1) 0:=by
 refine List.map_congr_left λ r hr => ?_
 rw[if_pos (List.mem_range.1 hr),if_neg (by omega)]
theorem Ck (P:List (List Rat)) (n:Nat):ot P n 0 0=List.replicate P.length (FR [] n):=by
 refine List.ext_getElem? λ r => ?_
 simp only[ot,List.getElem?_map,List.getElem?_replicate];by_cases h:r<P.length
 ·rw[List.getElem?_range h,if_pos h];simp
 ·rw[List.getElem?_eq_none (by simp;omega),if_neg h];rfl
theorem Ch {P:List (List Rat)} {n:Nat} (h : ∀ r∈P,r.length=n):C7 3 eO (ot P n n 0)=C7 3 eQ P:=by
 refine List.ext_getElem? λ r => ?_
 simp only[C7,List.getElem?_map];cases e:P[r]? with
 | none=>rw[List.getElem?_eq_none (by rw[Z3];exact List.getElem?_eq_none_iff.1 e)];rfl
 | some row =>
  have hl:=h row (zM e);rw[cX e,if_neg (by omega),List.take_of_length_le (by omega)];simp only[Option.map_some,K4 hl]
theorem xD (N:TrGLib L) (S:GU) (n:Nat) (h:S.Ok n 400) (hn:n<=4):Ev L 189 [.agg (eS S)] (.tup [.agg [.sl false ((ON S n).map eQ),.sl false ((OM S n).map eQ)],.int .i64 0]):=by
 have ui:=xB N.tom9 S n 400 h (by omega);have hO:=LK N.toa5 0 (by omega);have hI:=LK N.toa5 1 (by omega);have hla:=h.la;subst hla;refine Ev.x N.P4 rfl rfl ?_;(repeat' ((first|(apply BR<;>intro hc<;>try (exfalso;omega))|apply CB|apply BA|refine BH (ui) ?_|refine BH (hO) ?_|refine BH (hI) ?_)<;>conv=>whnf))
 refine H6 1000 N.P8 rfl rfl ?_;(repeat' (apply BA<;>conv=>whnf))
 unfold E7;refine ⟨⟨by omega,by omega,by simp only[F3];omega,by omega⟩,?_⟩;rw[Int.toNat_natCast];(conv=>whnf)
 have hZ:=Yh N.tom9 S.a.length (by omega);refine UD (enc:=eQ) S.a.length hZ (by simp) ?_;(conv=>whnf)
 refine UD (enc:=eQ) S.a.length hZ (by simp) ?_;(conv=>whnf)
 (repeat' (refine BH (hO) ?_<;>conv=>whnf))
 generalize hm:S.a.length=m at *;refine DG (λ t=>m-t) (λ(t:Nat)=>t<=m) (λ t=>[(16,.int .i64 t)]) (λ t=>[(145006,145006,.mx (List.replicate t (some (3,(List.replicate m (0:Rat)).map eQ))++List.replicate (m-t) none))]) [] [] 0 (by (conv=>whnf);exact ⟨rfl,rfl,rfl⟩) (by omega) ?_;intro t p4 th;by_cases ht:t<m
 ·(repeat' ((first|(apply BR<;>intro hc<;>try (exfalso;omega))|apply BA)<;>conv=>whnf))
  refine UD (enc:=eQ) m hZ (by simp) ?_;(conv=>whnf)
  (repeat' ((first|(apply CE;omega)|fail)<;>conv=>whnf))
  unfold B1 EP;refine ⟨by simp,by simp;omega,?_⟩;(conv=>whnf)
  rw[show 0+((t:Int)).toNat=t by omega,nC _ _ p4 ht];(repeat' ((first|(apply CG;omega)|fail)<;>conv=>whnf))
  exact C6 [] (th (t+1) (by omega) (by omega))
 obtain rfl:t=m:=by omega
 clear th;rw[show List.replicate t (some (3,List.map eQ (List.replicate t 0)))++List.replicate (t-t) none=C7 3 eQ (MX t 0) by rw[Xu];simp [C7]];(repeat' ((first|(apply BR<;>intro hc<;>try (exfalso;omega))|apply BA)<;>conv=>whnf))
 refine ⟨rfl,?_⟩;(conv=>whnf)
 skip
 refine DG (λ i=>t-i) (λ(i:Nat)=>i<=t) (λ i=>[(34,.int .i64 i)]) (λ i=>[(145006,145006,.mx (C7 3 eQ (MX t i)))]) [] [] 0 (by (conv=>whnf);exact ⟨rfl,rfl,rfl⟩) (by omega) ?_;intro i p1 ih;by_cases hi:i<t
 ·have hat:=Xq hi
  have hst:=Xt hi;have hil:=zP t i;generalize MX t i=I0 at *;(repeat' ((first|(apply BR<;>intro hc<;>try (exfalso;omega))|(apply CE;omega)|(refine HJ ?_ (λ r hr => ?_);omega)|apply BA|refine BH (hI) ?_)<;>conv=>whnf))
  cases hat.symm.trans hr;refine CE (by rw[List.length_map,List.length_replicate];omega) ?_;(conv=>whnf)
  (repeat' ((first|refine H7 (by assumption) ?_|fail)<;>conv=>whnf))
  refine G8 (enc:=eQ) 1 rfl (λ_=>rfl) (by rw[List.length_replicate];omega) ?_;(conv=>whnf)
  refine eJ (by rw[List.length_set]) ?_;rw[hst];(conv=>whnf)
  (repeat' ((first|(apply CG;omega)|fail)<;>conv=>whnf))
  exact C6 [] (ih (i+1) (by omega) (by omega))
 obtain rfl:i=t:=by omega
 clear ih;rw[Xr];rw[show ([[AV.bool (decide (((1:Int):Rat).num<0)),AV.sl false ((dg ((1:Int):Rat).num.natAbs).map BZ),AV.sl false ((dg ((1:Int):Rat).den).map BZ)]]:List (List AV))=(GC S.a i 0).map eQ from rfl,
  show ([[AV.bool (decide (((0:Int):Rat).num<0)),AV.sl false ((dg ((0:Int):Rat).num.natAbs).map BZ),AV.sl false ((dg ((0:Int):Rat).den).map BZ)]]:List (List AV))=(IJ S i 0).map eQ from rfl]
 (repeat' ((first|(apply BR<;>intro hc<;>try (exfalso;omega))|apply BA)<;>conv=>whnf))
 have oa:Sq i S.a:=⟨hm,h.lr⟩;refine rP [145002,145003] ?_;refine I3 (λ k _=>i-k) (λ(k _:Nat)=>k<=i) (λ k _=>[(9,.int .i64 ((k+1:Nat):Int)),(5,.row 27 0 3 0 (k+1)),(6,.row 29 0 3 0 (k+1)),(7,.row 145006 0 1 0 i)]) (λ k t=>[(27,27,.rw 3 ((GC S.a i k).map eQ)),(29,29,.rw 3 ((IJ S i k).map eQ)),(145006,t,.mx (C7 3 eQ (FS S.a i k)))]) [] [] 0 145006 (by (conv=>whnf);exact ⟨rfl,rfl,rfl⟩) (by omega) ?_;intro k t p2 kh;by_cases hk:k<i
 ·obtain ⟨b1,b2,b3⟩:=Ms.xf oa h.ba hn k (by omega)
  have hKk:=nF k (by omega);have xh:=Sq.fl (a:=S.a) hm k;have hMl:=xh.l;have hfl:FS S.a i (k+1)=w7 (EA S.a (FS S.a i k) i) (L3 S.a i k) i:=rfl;have ox:L3 S.a i k=LZ (EA S.a (FS S.a i k) i) i*Rat.divInt (-1) ((k+1:Nat):Int):=rfl;have hab:=Od S i k;have hbe:=Ov S.a i k;have hal:=fA S i k;have hbl:=fE S.a i k;have xi:=Sq.mul hm (FS S.a i k);generalize FS S.a i k=Mk at *;generalize L3 S.a i k=ck at *;generalize IJ S i k=ab at *;generalize GC S.a i k=be at *;generalize J7 400 k=fk at *;(repeat' ((first|(apply BR<;>intro hc<;>try (exfalso;omega))|apply BA)<;>conv=>whnf))
  refine GT (enc:=eO) none i rfl rfl (by omega) ?_;(conv=>whnf)
  skip
  have An5:=K7 Mk S.b;have Ah : ∀ (j:Nat) row,Mk[j]? = some row->(CO Mk S.b)[j]? = some (CK row S.b):=λ j row hr=>by rw[CO,List.getElem?_map,hr];rfl
  have ln:Bs (4*(fk+401)) (CO Mk S.b):=by
   intro x hx;obtain ⟨r,hr,rfl⟩:=List.mem_map.1 hx;refine ((b1 r hr).dot h.bb).le ?_;rw[xh.r r hr];exact Nat.mul_le_mul hn (by omega)
  refine DG (λ j=>i-j) (λ(j:Nat)=>j<=i) (λ j=>[(53,.int .i64 j)]) (λ j=>[(51,51,.rw 3 ((FR ((CO Mk S.b).take j) i).map eO))]) [] [] 0 (by first|exact (by (conv=>whnf);exact ⟨rfl,rfl,rfl⟩)|(rw[List.take_zero,<-KO];exact (by (conv=>whnf);exact ⟨rfl,rfl,rfl⟩))) (by omega) ?_;intro j q1 jh;by_cases hj:j<i
  ·obtain ⟨row,o9⟩ : ∃ row,Mk[j]? = some row:=⟨_,zE (by omega)⟩
   have hrl:=xh.at o9;have hy:=Ah j row o9;have hP:=λ q q'=>mP N.tom9 row S.b q q' fk 400 (by rw[hrl,h.lb]) (b1.at o9) h.bb (by rw[hrl];have:=Nat.mul_le_mul_right (fk+400+1) hn;omega) (by omega)
   have hlf:=JM (l:=(CO Mk S.b).take j) (m:=i) (by rw[List.length_take];omega);have hst:=KP (l:=(CO Mk S.b).take j) (m:=i) (x:=CK row S.b) (by rw[List.length_take];omega);rw[List.length_take,Nat.min_eq_left (by omega),<-LC hy]at hst;(repeat' ((first|(apply BR<;>intro hc<;>try (exfalso;omega))|(apply CE;omega)|(refine GI (λ_=>rfl) rfl ?_ ?_;(first|rfl|simp))|(refine HJ ?_ (λ r hr => ?_);omega)|refine H7 (by assumption) ?_|apply BA)<;>conv=>whnf))
   cases o9.symm.trans hr;(repeat' ((first|(apply CE;omega)|refine BH (hP _ _) ?_)<;>conv=>whnf))
   refine G8 (enc:=eO) (some (CK row S.b)) rfl (λ e=>by cases e<;>rfl) (by omega) ?_;(conv=>whnf)
   (repeat' ((first|(apply CG;omega)|fail)<;>conv=>whnf))
   rw[hst];exact C6 [] (jh (j+1) (by omega) (by omega))
  obtain rfl:j=i:=by omega
  clear jh;rw[List.take_of_length_le (by omega),K4 (by omega)];have hP:=λ q q'=>mP N.tom9 S.c (CO Mk S.b) q q' 400 (4*(fk+401)) (by rw[h.lc];omega) h.bc ln (by rw[h.lc];have:=Nat.mul_le_mul_right (400+4*(fk+401)+1) hn;omega) (by rw[h.lc];omega)
  generalize CO Mk S.b=img at *;generalize CK S.c img=av at *;(repeat' ((first|(apply BR<;>intro hc<;>try (exfalso;omega))|apply BA)<;>conv=>whnf))
  refine GI (enc:=eQ) (λ_=>rfl) rfl (by omega) ?_;(conv=>whnf)
  (repeat' ((first|apply G0|refine BH (hP _ _) ?_)<;>conv=>whnf))
  refine HP (enc:=eQ) av rfl hal.symm rfl (by omega) (by omega) ?_;rw[<-hab,fA];(conv=>whnf)
  skip
  refine HI 1000 N.P6 rfl rfl ?_;(repeat' ((first|apply CB|apply BA)<;>conv=>whnf))
  unfold E7;refine ⟨⟨by omega,by omega,by simp only[F3];omega,by omega⟩,?_⟩;rw[Int.toNat_natCast];(conv=>whnf)
  (repeat' (apply CB<;>conv=>whnf))
  rw[hm];refine GT (enc:=eO) none j rfl rfl (by omega) ?_;(conv=>whnf)
  (repeat' (apply CB<;>conv=>whnf))
  rw[hm];refine DG (λ u=>j-u) (λ(u:Nat)=>u<=j) (λ u=>[(19,.int .i64 u)]) (λ u=>[(188013,188013,.mx (List.replicate u (some (3,(FR [] j).map eO))++List.replicate (j-u) none))]) [] [] 0 (by (conv=>whnf);exact ⟨rfl,rfl,rfl⟩) (by omega) ?_;intro u r1 uh;by_cases hu:u<j
  ·(repeat' ((first|(apply BR<;>intro hc<;>try (exfalso;omega))|apply CB|apply BA)<;>conv=>whnf))
   rw[hm];refine GT (enc:=eO) none j rfl rfl (by omega) ?_;(conv=>whnf)
   (repeat' ((first|(apply CE;omega)|fail)<;>conv=>whnf))
   unfold B1 EP;refine ⟨by simp,by simp;omega,?_⟩;(conv=>whnf)
   rw[show 0+((u:Int)).toNat=u by omega,<-KO,nC _ _ r1 hu];(repeat' ((first|(apply CG;omega)|fail)<;>conv=>whnf))
   exact C6 [] (uh (u+1) (by omega) (by omega))
  obtain rfl:u=j:=by omega
  clear uh;have zl : ∀ (e:Nat) row,S.a[e]? = some row->(EA S.a Mk u)[e]? = some (HZ row Mk u):=λ e row hr=>by rw[EA,List.getElem?_map,hr];rfl
  have hPl:=xi.l;rw[show List.replicate u (some (3,List.map eO (FR [] u)))++List.replicate (u-u) none=C7 3 eO (ot (EA S.a Mk u) u 0 0) by rw[Ck,hPl];simp [C7]];generalize hPg:EA S.a Mk u=P at *;(repeat' ((first|(apply BR<;>intro hc<;>try (exfalso;omega))|apply CB|apply BA)<;>conv=>whnf))
  rw[hm];refine I3 (λ c _=>u-c) (λ(c:Nat) (pv:List (Option Rat))=>c<=u/\pv.length=u) (λ c _=>[(31,.int .i64 c)]) (λ c pv=>[(188013,188013,.mx (C7 3 eO (ot P u c 0))),(188016,188016,.rw 3 (pv.map eO))]) [] [] 0 (List.replicate u none) (by (conv=>whnf);exact ⟨rfl,rfl,rfl⟩) ⟨by omega,by simp⟩ ?_;intro c pv ⟨r2,r3⟩ ch;by_cases hc2:c<u
  ·have Ir:=bL Mk c
   (repeat' ((first|(apply BR<;>intro hc<;>try (exfalso;omega))|apply CB|apply BA)<;>conv=>whnf))
   rw[hm];refine DG (λ e=>u-e) (λ(e:Nat)=>e<=u) (λ e=>[(36,.int .i64 e)]) (λ e=>[(188016,188016,.rw 3 ((cf (EB Mk c) pv e).map eO))]) [] [] 0 (by first|exact (by (conv=>whnf);exact ⟨rfl,rfl,rfl⟩)|(rw[Nq];exact (by (conv=>whnf);exact ⟨rfl,rfl,rfl⟩))) (by omega) ?_;intro e r4 eh;by_cases he2:e<u
   ·obtain ⟨row,o9⟩ : ∃ row,Mk[e]? = some row:=⟨_,zE (by omega)⟩
    have hrl:=xh.at o9;obtain ⟨x,hx⟩ : ∃ x,row[c]? = some x:=⟨_,zE (by omega)⟩;have hcx:(EB Mk c)[e]? = some x:=by rw[EB,List.getElem?_map,o9,Option.map_some,T7 hx]
    have hcl:=Nn (l:=EB Mk c) (by omega) r3 r4;have hst:=Np r3 hcx he2;(repeat' ((first|(apply BR<;>intro hc<;>try (exfalso;omega))|(apply CE;omega)|(refine HJ ?_ (λ r hr => ?_);omega)|apply BA)<;>conv=>whnf))
    cases o9.symm.trans hr;refine CE (by rw[List.length_map];omega) ?_;(conv=>whnf)
    (repeat' ((first|(apply CE;omega)|(refine HX ?_ (λ_=>rfl) (λ v hv => ?_);omega)|refine H7 (by assumption) ?_)<;>conv=>whnf))
    cases hx.symm.trans hv;refine G8 (enc:=eO) (some x) rfl (λ e=>by cases e<;>rfl) (by omega) ?_;(conv=>whnf)
    (repeat' ((first|(apply CG;omega)|fail)<;>conv=>whnf))
    rw[hst];exact C6 [] (eh (e+1) (by omega) (by omega))
   obtain rfl:e=u:=by omega
   clear eh;rw[Nm (by omega) r3,Eg];(repeat' ((first|(apply BR<;>intro hc<;>try (exfalso;omega))|apply CB|apply BA)<;>conv=>whnf))
   rw[hm];refine DG (λ f=>e-f) (λ(f:Nat)=>f<=e) (λ f=>[(52,.int .i64 f)]) (λ f=>[(188013,188013,.mx (C7 3 eO (ot P e c f)))]) [] [] 0 (by (conv=>whnf);exact ⟨rfl,rfl,rfl⟩) (by omega) ?_;intro f r5 fh;by_cases hf2:f<e
   ·obtain ⟨row,o9⟩ : ∃ row,S.a[f]? = some row:=⟨_,zE (by omega)⟩
    have Jg:S.a[(f:Int).toNat]? = some row:=o9;have hrl:=oa.at o9;have hPr:=zl f row o9;have hDt:=λ q q'=>mP N.tom9 row (EB Mk c) q q' 400 fk (by omega) (h.ba row (zM o9)) (b1.zh c) (by rw[hrl];have:=Nat.mul_le_mul_right (400+fk+1) hn;omega) (by omega)
    have hoa:=cX (n:=e) (j:=c) (i:=f) hPr;rw[if_neg (by omega)]at hoa;have hos:=Cj (n:=e) (j:=c) hPr;have hol:=Z3 P e c f;have hmc:(HZ row Mk e)[c]? = some (CK row (EB Mk c)):=by rw[HZ,List.getElem?_map,List.getElem?_range hc2];rfl
    have hml:=iI row Mk e;have hlf:=JM (l:=(HZ row Mk e).take c) (m:=e) (by rw[List.length_take];omega);have hst:=KP (l:=(HZ row Mk e).take c) (m:=e) (x:=CK row (EB Mk c)) (by rw[List.length_take];omega);rw[List.length_take,Nat.min_eq_left (by omega),<-LC hmc]at hst;generalize ot P e c f=O at *;(repeat' ((first|(apply BR<;>intro hc<;>try (exfalso;omega))|(apply CE;omega)|(refine CX (by assumption) ?_ rfl ?_;omega)|(refine HJ ?_ (λ r hr => ?_);omega)|apply BA)<;>conv=>whnf))
    cases hoa.symm.trans hr;refine GI (enc:=eQ) (λ_=>rfl) rfl (by omega) ?_;(conv=>whnf)
    (repeat' (refine BH (hDt _ _) ?_<;>conv=>whnf))
    have hlf2:=JM (l:=(HZ row Mk e).take (c+1)) (m:=e) (by rw[List.length_take];omega);refine CE (by rw[List.length_map];omega) ?_;(conv=>whnf)
    (repeat' ((first|refine H7 (by assumption) ?_|fail)<;>conv=>whnf))
    refine G8 (enc:=eO) (some (CK row (EB Mk c))) rfl (λ e=>by cases e<;>rfl) (by omega) ?_;(conv=>whnf)
    rw[hst];refine eJ (by omega) ?_;rw[hos];(conv=>whnf)
    (repeat' ((first|(apply CG;omega)|fail)<;>conv=>whnf))
    exact C6 [] (fh (f+1) (by omega) (by omega))
   obtain rfl:f=e:=by omega
   clear fh;have hnx:=Ci P f c;rw[hPl]at hnx;rw[hnx,<-Eg (EB Mk c)];(repeat' ((first|(apply BR<;>intro hc<;>try (exfalso;omega))|(apply CG;omega)|apply BA)<;>conv=>whnf))
   exact C6 [] (ch (c+1) ((EB Mk c).map some) (by omega) ⟨by omega,by rw[List.length_map];omega⟩)
  obtain rfl:c=u:=by omega
  clear ch;rw[Ch xi.r];(repeat' ((first|(apply BR<;>intro hc<;>try (exfalso;omega))|apply BA)<;>conv=>whnf))
  refine ⟨rfl,_,rfl,?_⟩;(conv=>whnf)
  (repeat' (refine BH (hO) ?_<;>conv=>whnf))
  have Bl:((0:Int):Rat)=LZ P 0:=rfl;rw[Bl];refine DG (λ e=>c-e) (λ(e:Nat)=>e<=c) (λ e=>[(80,.int .i64 e)]) (λ e=>[(12,12,.bx (eQ (LZ P e)))]) [] [] 0 (by (conv=>whnf);exact ⟨rfl,rfl,rfl⟩) (by omega) ?_;intro e r4 eh;by_cases he2:e<c
  ·obtain ⟨row,o9⟩ : ∃ row,P[e]? = some row:=⟨_,zE (by omega)⟩
   have hrl:=xi.at o9;obtain ⟨x,hx⟩ : ∃ x,row[e]? = some x:=⟨_,zE (by omega)⟩;have yi:LZ P (e+1)=LZ P e+x:=by rw[LZ,yY o9,T7 hx]
   have yy:=Ms.tr b2 e;have hkb:e*(4*(fk+(400+1))+1)<=4*(4*(fk+(400+1))+1):=Nat.mul_le_mul_right _ (by omega);have hA:=cB N.toa5 yy ((b2.at o9).at hx) (by omega) (by omega);rw[<-yi]at hA;(repeat' ((first|(apply BR<;>intro hc<;>try (exfalso;omega))|(apply CE;omega)|(refine HJ ?_ (λ r hr => ?_);omega)|apply BA)<;>conv=>whnf))
   cases o9.symm.trans hr;refine CE (by rw[List.length_map];omega) ?_;(conv=>whnf)
   (repeat' ((first|(refine HX ?_ (λ_=>rfl) (λ v hv => ?_);omega)|refine H7 (by assumption) ?_)<;>conv=>whnf))
   cases hx.symm.trans hv;(repeat' ((first|(apply CG;omega)|refine BH (hA) ?_)<;>conv=>whnf))
   exact C6 [] (eh (e+1) (by omega) (by omega))
  obtain rfl:e=c:=by omega
  clear eh;have yy:=Ms.tr b2 e;have hkb:e*(4*(fk+(400+1))+1)<=4*(4*(fk+(400+1))+1):=Nat.mul_le_mul_right _ (by omega);have hF:=To N.too5 (-1) ((k+1:Nat):Int) (by omega) (by omega) (by omega);have hM:=K3 N.toa5 yy (tJ (k:=k+1) (by omega)) (by omega) (by omega);rw[<-ox]at hM;(repeat' ((first|(apply BR<;>intro hc<;>try (exfalso;omega))|apply BA|refine BH (hF) ?_|refine BH (hM) ?_)<;>conv=>whnf))
  have y8:=Oh P ck;refine DG (λ f=>e-f) (λ(f:Nat)=>f<=e) (λ f=>[(98,.int .i64 f)]) (λ f=>[(188013,188013,.mx (C7 3 eQ (w7 P ck f)))]) [] [] 0 (by first|exact (by (conv=>whnf);exact ⟨rfl,rfl,rfl⟩)|(rw[y8];exact (by (conv=>whnf);exact ⟨rfl,rfl,rfl⟩))) (by omega) ?_;intro f r5 fh;by_cases hf2:f<e
  ·obtain ⟨row,o9⟩ : ∃ row,P[f]? = some row:=⟨_,zE (by omega)⟩
   have hrl:=xi.at o9;obtain ⟨x,hx⟩ : ∃ x,row[f]? = some x:=⟨_,zE (by omega)⟩;have hA:=cB N.toa5 ((b2.at o9).at hx) b3 (by omega) (by omega);have hnx:=Oe (c:=ck) o9;have Jj:=Og (c:=ck) o9;rw[T7 hx]at Jj;have hdl:=UN P ck f;generalize w7 P ck f=D0 at *;(repeat' ((first|(apply BR<;>intro hc<;>try (exfalso;omega))|(apply CE;omega)|(refine HJ ?_ (λ r hr => ?_);omega)|apply BA)<;>conv=>whnf))
   cases hnx.symm.trans hr;cases hnx.symm.trans ‹D0[f]? = some r›;refine CE (by rw[List.length_map];omega) ?_;(conv=>whnf)
   (repeat' ((first|(refine HX ?_ (λ_=>rfl) (λ v hv => ?_);omega)|refine H7 (by assumption) ?_)<;>conv=>whnf))
   cases hx.symm.trans hv;(repeat' (refine BH (hA) ?_<;>conv=>whnf))
   refine CE (by rw[List.length_map];omega) ?_;(conv=>whnf)
   (repeat' ((first|refine H7 (by assumption) ?_|fail)<;>conv=>whnf))
   refine G8 (enc:=eQ) (x+ck) rfl (λ_=>rfl) (by omega) ?_;(conv=>whnf)
   refine eJ (by rw[List.length_set]) ?_;rw[<-Jj];(conv=>whnf)
   (repeat' ((first|(apply CG;omega)|fail)<;>conv=>whnf))
   exact C6 [] (fh (f+1) (by omega) (by omega))
  obtain rfl:f=e:=by omega
  clear fh;rw[<-hfl];(repeat' ((first|(apply BR<;>intro hc<;>try (exfalso;omega))|apply G0|apply BA)<;>conv=>whnf))
  refine HP (enc:=eQ) ck rfl hbl.symm rfl (by omega) (by omega) ?_;rw[<-hbe,fE];(conv=>whnf)
  (repeat' ((first|(apply CG;omega)|fail)<;>conv=>whnf))
  exact C6 [(145006,188013),(27,120),(29,73)] (kh (k+1) 188013 (by omega) (by omega))
 obtain rfl:k=i:=by omega
 clear kh;have ju:Bs 1150000000 (GC S.a k k):=by
  intro x hx;simp only[GC,List.mem_cons,List.mem_map,List.mem_range]at hx;rcases hx with rfl|⟨j,hj,rfl⟩
  ·exact Bt.one _
  ·have zk:=nF j (by omega)
   exact (Ms.xf oa h.ba hn j (by omega)).2.2.le (by omega)
 have qj:Bs 1150000000 (IJ S k k):=by
  intro x hx;simp only[IJ,List.mem_cons,List.mem_map,List.mem_range]at hx;rcases hx with rfl|⟨j,hj,rfl⟩
  ·exact Bt.zero _
  ·have zk:=nF j (by omega)
   have ln:Bs (4*(J7 400 j+401)) (CO (FS S.a k j) S.b):=by
    intro x hx;obtain ⟨r,hr,rfl⟩:=List.mem_map.1 hx;refine (((Ms.xf oa h.ba hn j (by omega)).1 r hr).dot h.bb).le ?_;rw[(Sq.fl hm j).r r hr];exact Nat.mul_le_mul hn (by omega)
   refine (h.bc.dot ln).le ?_;rw[h.lc];have:=Nat.mul_le_mul_right (400+4*(J7 400 j+401)+1) hn
   generalize hX:400+4*(J7 400 j+401)+1=X at this ⊢;omega
 have hbl:=fE S.a k k;have hal:=fA S k k;have Al:Bs 1150000400 ((GC S.a k k).map (· * S.d)):=by
  intro y hy;obtain ⟨x,hx,rfl⟩:=List.mem_map.1 hy;exact ((ju x hx).mul h.bd).le (by omega)
 have hml:((GC S.a k k).map (· * S.d)).length=k+1:=by rw[List.length_map];exact hbl
 have htl:=aC ((GC S.a k k).map (· * S.d));have w4:=UT ((GC S.a k k).map (· * S.d)) ((GC S.a k k).map (· * S.d)).length;have hSc:=λ q=>Wu N q (GC S.a k k) S.d 1150000000 400 ju h.bd (by omega) (by omega)
 have hAd:=λ q q'=>Wt N q q' (IJ S k k) (GM ((GC S.a k k).map (· * S.d))) 1150000000 1150000400 qj Al.trim (by omega) (by omega) (by omega)
 have hTr:=λ q=>Va N.toz8 q (GC S.a k k) 1150000000 ju (by omega) (by omega)
 have hfin:CS (.tup [.agg [.sl false ((ON S k).map eQ),.sl false ((OM S k).map eQ)],.int .i64 0]):=by
  simp only[CS,FG,true_and,and_true];exact ⟨KM _,KM _⟩
 unfold ON OM at *;generalize GM (KZ (IJ S k k) (GM ((GC S.a k k).map (· * S.d))))=rB at *;generalize GM ((GC S.a k k).map (· * S.d))=sc at *;generalize GM (GC S.a k k)=rA at *;(repeat' ((first|(apply BR<;>intro hc<;>try (exfalso;omega))|apply BA)<;>conv=>whnf))
 refine GI (enc:=eQ) (λ_=>rfl) rfl hbl.symm ?_;(conv=>whnf)
 (repeat' (refine BH (hSc _) ?_<;>conv=>whnf))
 refine GI (enc:=eQ) (λ_=>rfl) rfl hal.symm ?_;(conv=>whnf)
 (repeat' (refine BH (hAd _ _) ?_<;>conv=>whnf))
 refine GI (enc:=eQ) (λ_=>rfl) rfl hbl.symm ?_;(conv=>whnf)
 (repeat' (refine BH (hTr _) ?_<;>conv=>whnf))
 exact CJ rfl hfin
end Go.Eng

namespace Go.Eng
def hQ (S:GU):Nat->Rat
 | 0=>S.d
 | j+1=>CK S.c (wQ S j)
end Go.Eng

namespace Go.Eng
open F
attribute [local irreducible] AH BJ B1 BD E6 CF CI CY CU DX B5 DT EN GS DS CR DR EF AR CW BW pw DC DB EP EV E7 FM EZ D5 FE
variable {L:Lib}
set_option maxHeartbeats 8000000
theorem N4 {l:List Rat} {k:Nat} (h:Bs k l) (i:Nat):Bt k (l.getD i 0):=by
 rw[List.getD_eq_getElem?_getD];cases e:l[i]? with
 | none=>exact Bt.zero k
 | some x=>exact h.at e
theorem Fb (z:Int):sgn z = -1/\z<0\/sgn z=0/\z=0\/sgn z=1/\0<z:=by
 unfold sgn;split
 ·exact Or.inl ⟨rfl,by omega⟩
 ·split
  ·exact Or.inr (Or.inr ⟨rfl,by omega⟩)
  ·exact Or.inr (Or.inl ⟨rfl,by omega⟩)
theorem Rp {a b:Nat} {z:Int} (h:z=(a:Int)-b):FI a b=sgn z:=by
 unfold FI sgn;subst h;repeat' split
 all_goals omega
theorem xI (N:StGLib L) (n1 n2 q1 q2:Bool) (a b:List Nat) (ha:Sm 549755813888 a) (hb:Sm 549755813888 b):Ev L 197 [.agg (rZ q1 n1 a),.agg (rZ q2 n2 b)] (.int .i64 (sgn (zv n1 a-zv n2 b))):=by
 have h1:=λ q=>gP N.toa5 n1 q a ha
 have h2:=λ q=>gP N.toa5 n2 q b hb
 have h3:=λ q q'=>U0 N.toc6 a b q q' ha.1 hb.1 (by have:=ha.2;omega) (by have:=hb.2;omega)
 have h4:=λ q q'=>U0 N.toc6 b a q q' hb.1 ha.1 (by have:=hb.2;omega) (by have:=ha.2;omega)
 have za:=HO n1 a;have zb:=HO n2 b;generalize zv n1 a=x at *;generalize zv n2 b=y at *;rcases Fb x with ⟨e1,g1⟩|⟨e1,g1⟩|⟨e1,g1⟩<;>rcases Fb y with ⟨e2,g2⟩|⟨e2,g2⟩|⟨e2,g2⟩
 all_goals
  rw[e1]at h1;rw[e2]at h2;refine Ev.x N.O0 rfl rfl ?_;(repeat' ((first|(apply BR<;>intro hc<;>try (exfalso;omega))|apply BA|refine BH (h1 _) ?_|refine BH (h2 _) ?_|refine BH (h3 _ _) ?_|refine BH (h4 _ _) ?_)<;>conv=>whnf))
  first
   | exact FF (pW (by omega))
   | exact FF (pX (by omega))
   | exact FF (Rp (by omega))
theorem Vt (N:StGLib L) (k:Nat) (hk:1<=k/\k<=68719476736) (n1 n2:Bool) (m1 d1 m2 d2:List Nat) (dm:Sm k m1) (hd1:Sm k d1) (hm2:Sm k m2) (gy:Sm k d2) :
  Ev L 198 [.agg (rQ false false n1 m1 d1),.agg (rQ false false n2 m2 d2)] (.int .i64 (sgn (qv n1 m1 d1-qv n2 m2 d2).num)):=by
 obtain ⟨a1,a2,a3,w1,w8,s1,s2,s3,s4,s5⟩:=T6 N.toa5 n1 m1 d1 k (by omega) dm hd1;obtain ⟨b1,b2,b3,w2,z7,t1,t2,t3,t4,t5⟩:=T6 N.toa5 n2 m2 d2 k (by omega) hm2 gy;rw[s5,t5,<-Em s3 t3];by_cases hw:w1=true/\w2=true
 ·obtain ⟨rfl,rfl⟩:=hw
  have hC:=λ q q'=>xI N a1 b1 q q' a2 b2 (s1.le (by omega)) (t1.le (by omega))
  rw[s4 rfl,t4 rfl];rw[show zv a1 a2*((1:Nat):Int)-zv b1 b2*((1:Nat):Int)=zv a1 a2-zv b1 b2 by omega];refine Ev.x N.M4 rfl rfl ?_;(repeat' ((first|apply JZ|apply BA|refine BH (w8) ?_|refine BH (z7) ?_|refine BH (hC _ _) ?_)<;>conv=>whnf))
  exact FF rfl
 ·have hM1:=λ q q'=>XL N.toa5 a1 false q q' a2 b3 s1.1 t2.1 (by have:=s1.2;have:=t2.2;omega)
  have hM2:=λ q q'=>XL N.toa5 b1 false q q' b2 a3 t1.1 s2.1 (by have:=t1.2;have:=s2.2;omega)
  have nq:=ZO N.toa5 a3;have lv:=ZO N.toa5 b3;have g1:Sm (k+k) (dg (zv a1 a2*zv false b3).natAbs):=YL s1 t2;have g2:Sm (k+k) (dg (zv b1 b2*zv false a3).natAbs):=YL t1 s2;have hC:=λ q q'=>xI N (decide (zv a1 a2*zv false b3<0)) (decide (zv b1 b2*zv false a3<0)) q q' _ _ (g1.le (by omega)) (g2.le (by omega))
  rw[HT,HT]at hC;rw[<-HD b3,<-HD a3];generalize zv a1 a2*zv false b3=x at *;generalize zv b1 b2*zv false a3=y at *;refine Ev.x N.M4 rfl rfl ?_;cases w1<;>cases w2
  ·(repeat' ((first|apply JZ|apply WU|apply BA|refine BH (w8) ?_|refine BH (z7) ?_|refine BH (nq) ?_|refine BH (lv) ?_|refine BH (hM1 _ _) ?_|refine BH (hM2 _ _) ?_|refine BH (hC _ _) ?_)<;>conv=>whnf))
   exact FF rfl
  ·(repeat' ((first|apply JZ|apply WU|apply BA|refine BH (w8) ?_|refine BH (z7) ?_|refine BH (nq) ?_|refine BH (lv) ?_|refine BH (hM1 _ _) ?_|refine BH (hM2 _ _) ?_|refine BH (hC _ _) ?_)<;>conv=>whnf))
   exact FF rfl
  ·(repeat' ((first|apply JZ|apply WU|apply BA|refine BH (w8) ?_|refine BH (z7) ?_|refine BH (nq) ?_|refine BH (lv) ?_|refine BH (hM1 _ _) ?_|refine BH (hM2 _ _) ?_|refine BH (hC _ _) ?_)<;>conv=>whnf))
   exact FF rfl
  ·exact absurd ⟨rfl,rfl⟩ hw
theorem Vx (N:StGLib L) {x y:Rat} {k l:Nat} (hx:Bt k x) (hy:Bt l y) (hk:k<2199023255552) (hl:l<2199023255552):Ev L 198 [.agg (eQ x),.agg (eQ y)] (.int .i64 (sgn (x-y).num)):=by
 have:=Vt N 68719476736 (by omega) (decide (x.num<0)) (decide (y.num<0)) _ _ _ _ (hx.sm hk).1 (hx.sm hk).2 (hy.sm hl).1 (hy.sm hl).2
 rw[IA,IA]at this;exact this
theorem Wr (N:StGLib L) {x:Rat} {k:Nat} (hx:Bt k x) (hk:k<2199023255552):Ev L 199 [.agg (eQ x)] (.agg (eQ (-x))):=by
 have hF:=xG N.too5 (decide (x.num<0)) (dg x.num.natAbs) (dg x.den);have hT:=λ q1 q2=>yB N.toa5 (!decide (x.num<0)) q1 q2 _ _ ((hx.sm hk).1.le (by omega)) ((hx.sm hk).2.le (by omega))
 rw[Fp,IA]at hT;refine Ev.x N.QN rfl rfl ?_;(repeat' ((first|apply sF|apply BA|refine BH (hF) ?_|refine BH (hT _ _) ?_)<;>conv=>whnf))
 exact CJ rfl (G4 _)
theorem xO (N:StGLib L) (q:Bool) (l:List Rat) (k:Nat) (hl:Bs k l) (hk:k<2199023255552) (hn:l.length<=1000000):Ev L 200 [.sl q (l.map eQ)] (.int .i64 ((FY l l.length:Int)-1)):=by
 refine Ev.x N.QF rfl rfl ?_;(repeat' (apply BA<;>conv=>whnf))
 refine HI 1000 N.KR rfl rfl ?_;(repeat' ((first|apply CB|apply BA)<;>conv=>whnf))
 refine DG (λ n=>n) (λ(n:Nat)=>n<=l.length/\FY l l.length=FY l n) (λ n=>[(3,.int .i64 n)]) (λ_=>[]) [] [] l.length (by (conv=>whnf);exact ⟨rfl,rfl,rfl⟩) ⟨Nat.le_refl _,rfl⟩ ?_;intro n ⟨p1,p2⟩ ih;have done : ∀ {n:Nat},FY l l.length=n->GM l=l.take n:=λ h=>by rw[GM,h]
 by_cases hz:n=0\/(∃ m x,n=m+1/\l[m]? = some x/\x≠0)
 ·have bn:FY l l.length=n:=by
   rw[p2];rcases hz with rfl|⟨m,x,rfl,h1,h2⟩
   ·rfl
   ·rw[FY,if_neg]
    rw[List.getD_eq_getElem?_getD,h1];exact h2
  have pn:=done bn;have htl:(l.take n).length=n:=by rw[List.length_take];omega
  clear ih bn p2 done;rcases hz with h0|⟨m,x,ye,h1,h2⟩
  case' inl=>(repeat' ((first|(apply BR<;>intro hc<;>try (exfalso;omega))|apply BA)<;>conv=>whnf))
  case' inr =>
   have h1':l[((n:Int)-1).toNat]? = some x:=by rw[show ((n:Int)-1).toNat=m by omega];exact h1
   have ff:=N1 N.toa5 (hl.at h1) (by omega);have hs:=OJ (x:=x);generalize sgn x.num=s at *;have hS : ∀ v,l[((n:Int)-1).toNat]? = some v->Ev L 97 [.agg (eQ v)] (.int .i64 s):=λ v h=>by
    obtain rfl:=Option.some.inj (h1'.symm.trans h);exact ff
   have hs0:s≠0:=λ h=>h2 (hs.1 h)
   (repeat' ((first|(apply BR<;>intro hc<;>try (exfalso;omega))|(apply D4;omega)|(refine CX (by assumption) ?_ rfl ?_;omega)|apply BA|refine BH (ff) ?_)<;>conv=>whnf))
  all_goals
   refine UK (enc:=eQ) (λ_=>rfl) p1 ?_;(conv=>whnf)
   skip
   refine ⟨rfl,_,rfl,?_⟩;(conv=>whnf)
   (repeat' ((first|(apply D4;omega)|apply CB)<;>conv=>whnf))
   have uv:FY l l.length=n:=by rw[<-aC,pn,htl]
   rw[uv];exact FF (by rw[htl])
 ·obtain ⟨m,rfl⟩ : ∃ m,n=m+1:=⟨n-1,by omega⟩
  obtain ⟨x,hx⟩ : ∃ x,l[m]? = some x:=⟨_,zE (by omega)⟩;have hx0:x=0:=by
   rcases Classical.em (x=0) with h|h
   ·exact h
   ·exact (hz (Or.inr ⟨m,x,rfl,hx,h⟩)).elim
  have hx':l[((m+1:Nat)-1:Int).toNat]? = some x:=by rw[show ((m+1:Nat)-1:Int).toNat=m by omega];exact hx
  have ff:=N1 N.toa5 (hl.at hx) (by omega);have hs:=OJ (x:=x);generalize sgn x.num=s at *;have hS : ∀ v,l[((m+1:Nat)-1:Int).toNat]? = some v->Ev L 97 [.agg (eQ v)] (.int .i64 s):=λ v h=>by
   obtain rfl:=Option.some.inj (hx'.symm.trans h);exact ff
  have hs0:=hs.2 hx0;(repeat' ((first|(apply BR<;>intro hc<;>try (exfalso;omega))|(apply D4;omega)|(refine CX (by assumption) ?_ rfl ?_;omega)|apply BA|refine BH (ff) ?_)<;>conv=>whnf))
  rw[show ((m+1:Nat):Int)-1=(m:Int) by omega];exact C6 [] (ih m (by omega) ⟨by omega,by rw[p2,FY,if_pos (by rw[List.getD_eq_getElem?_getD,hx];exact hx0)]⟩)
theorem Sp (N:m9 L) (S:GU) (n k:Nat) (h:S.Ok n k) (hn:n<=64):Ev L 136 [.agg (eS S)] (.bool true):=by
 have h1:=h.la;have h2:=h.lb;have h3:=h.lc;refine Ev.x N.SF rfl rfl ?_;(repeat' ((first|(apply BR<;>intro hc<;>try (exfalso;omega))|apply CB|apply BA)<;>conv=>whnf))
 refine DG (λ i=>S.a.length-i) (λ(i:Nat)=>i<=S.a.length) (λ i=>[(4,.int .i64 i)]) (λ_=>[]) [] [] 0 (by (conv=>whnf);exact ⟨rfl,rfl,rfl⟩) (by omega) ?_;intro i p1 ih;by_cases hi:i<S.a.length
 ·obtain ⟨r,hr⟩ : ∃ r,S.a[i]? = some r:=⟨_,zE hi⟩
  have hr':S.a[(i:Int).toNat]? = some r:=hr;have hrl:=h.lr r (zM hr);(repeat' ((first|(apply BR<;>intro hc<;>try (exfalso;omega))|(apply CG;omega)|apply CB|(refine CX (by assumption) ?_ rfl ?_;omega)|apply BA)<;>conv=>whnf))
  exact C6 [] (ih (i+1) (by omega) (by omega))
 ·obtain rfl:i=S.a.length:=by omega
  clear ih;(repeat' ((first|(apply BR<;>intro hc<;>try (exfalso;omega))|apply BA)<;>conv=>whnf))
  exact I4 rfl
theorem Tp (N:m9 L) (a b:List Rat) (q1 q2:Bool) (k s:Nat) (hl:a.length=b.length) (ha:Bs k a) (hb:Bs s b) (hK:a.length*(k+s+1)+k+s<2199023255552) (hal:a.length<=1099511627776):Ev L 137 [.sl q1 (a.map eQ),.sl q2 (b.map eQ)] (.agg (eQ (CK a b))):=by
 have hO:=ZP N.toa9 0 (by omega);refine Ev.x N.SD rfl rfl ?_;(repeat' ((first|apply BA|refine BH (hO) ?_)<;>conv=>whnf))
 refine I3 (λ i _=>a.length-i) (λ(i:Nat) (acc:Rat)=>i<=a.length/\acc=CK (a.take i) (b.take i)) (λ i acc=>[(6,.int .i64 i)]) (λ i acc=>[(5,5,.bx (eQ acc))]) [] [] 0 ((0:Int):Rat) (by (conv=>whnf);exact ⟨rfl,rfl,rfl⟩) ⟨by omega,by simp [CK]⟩ ?_;intro i acc ⟨p1,p2⟩ ih;by_cases hi:i<a.length
 ·obtain ⟨x,hx⟩ : ∃ x,a[i]? = some x:=⟨_,zE hi⟩
  obtain ⟨y,hy⟩ : ∃ y,b[i]? = some y:=⟨_,zE (by omega)⟩;have hx':a[(i:Int).toNat]? = some x:=hx;have hy':b[(i:Int).toNat]? = some y:=hy;have bx:=ha.at hx;have by':=hb.at hy
  have hM:=cC N.toa9 bx by' (by omega) (by omega)
  have qk:Bt (a.length*(k+s+1)) acc:=by
   rw[p2];have:=(ha.take i).dot (hb.take i)
   refine this.le (Nat.mul_le_mul_right _ ?_);rw[List.length_take];omega
  have hA:=mG N.toa9 qk (bx.mul by') (by omega) (by omega);have hst:=bR hx hy;(repeat' ((first|(apply BR<;>intro hc<;>try (exfalso;omega))|(apply CG;omega)|apply CB|(refine CX (by assumption) ?_ rfl ?_;omega)|apply BA|refine BH (hM) ?_|refine BH (hA) ?_)<;>conv=>whnf))
  refine DE [] (by (conv=>whnf);exact ⟨rfl,rfl,rfl⟩) (ih (i+1) (acc+x*y) (by omega) ⟨by omega,?_⟩);rw[hst,<-p2]
 ·obtain rfl:i=a.length:=by omega
  clear ih;rw[XF rfl]at p2;rw[<-p2];(repeat' ((first|(apply BR<;>intro hc<;>try (exfalso;omega))|apply CB|apply BA)<;>conv=>whnf))
  exact CJ rfl (G4 _)
end Go.Eng

namespace Go.Eng
theorem MM {R:List (Option (Nat × List (List AV)))} {i e z:Nat} {es:List (List AV)} {K:Option (Nat × List (List AV))->Prop} (he:e=i) (hi:i<R.length) (h:K (some (z,es))):DC (R.set i (some (z,es))) e K:=by
 subst he;exact ⟨_,by rw[List.getElem?_set,if_pos rfl,if_pos hi],h⟩
theorem L1 {R:List (Option (Nat × List (List AV)))} {i e z:Nat} {es:List (List AV)} {K:Nat->List (List AV)->Prop} (he:e=i) (hi:i<R.length) (h:K z es):DB (R.set i (some (z,es))) e K:=by
 subst he;exact ⟨z,es,by rw[List.getElem?_set,if_pos rfl,if_pos hi],h⟩
theorem VT {R:List (Option (Nat × List (List AV)))} {i e z:Nat} {es es':List (List AV)} {K:List (Option (Nat × List (List AV)))->Prop} (he:e=i) (hl:es'.length=es.length) (h:K (R.set i (some (z,es')))):EV (R.set i (some (z,es))) e z es es' K:=by
 subst he;exact ⟨hl,by rw[List.set_set];exact h⟩
theorem OO {R:List (Option (Nat × List (List AV)))} {i e z:Nat} {es:List (List AV)} {K:List (Option (Nat × List (List AV)))->Prop} (he:e=i) (hi:i<R.length) (h:K (R.set i (some (z,es)))):EP R e z es K:=by
 subst he;exact ⟨hi,h⟩
end Go.Eng

namespace Go.Eng
open F
attribute [local irreducible] AH BJ B1 BD E6 CF CI CY CU DX B5 DT EN GS DS CR DR EF AR CW BW pw DC DB EP EV E7 FM EZ D5 FE
variable {L:Lib}
set_option maxHeartbeats 16000000
def mz (Q:List (List Rat)) (n i:Nat):List (Option (Nat × List (List AV))):=fz none (C7 3 eQ (Q.take i)) n
theorem XY {Q:List (List Rat)} {n i:Nat} (hi:i<=n):(mz Q n i).length=n:=by
 refine gY ?_;simp only[C7,List.length_map,List.length_take];omega
theorem X0 (Q:List (List Rat)) (n:Nat):mz Q n 0=List.replicate n none:=by simp [mz,fz]
theorem XZ {Q:List (List Rat)} {n i:Nat} {row:List Rat} (h:Q[i]? = some row) (hi:i<n):(mz Q n i).set i (some (3,row.map eQ))=mz Q n (i+1):=by
 have h1:=(zS h).1;have hl:(C7 3 eQ (Q.take i)).length=i:=by simp only[C7,List.length_map,List.length_take];omega
 have:=gZ (z:=none) (l:=C7 3 eQ (Q.take i)) (m:=n) (x:=some (3,row.map eQ)) (by omega)
 rw[hl]at this;rw[mz,this,mz,TC h];simp [C7]
theorem XX {Q:List (List Rat)} {n:Nat} (h:Q.length=n):mz Q n n=C7 3 eQ Q:=by
 rw[mz,List.take_of_length_le (by omega)];exact gX (by simp [C7,h])
def cz (row:List Rat) (n j:Nat):List Rat:=fz 0 (row.take j) n
theorem vF {row:List Rat} {n j:Nat} (hj:j<=n):(cz row n j).length=n:=by
 refine gY ?_;rw[List.length_take];omega
theorem vH (row:List Rat) (n:Nat):cz row n 0=List.replicate n 0:=by simp [cz,fz]
theorem vG {row:List Rat} {n j:Nat} {x:Rat} (h:row[j]? = some x) (hj:j<n):(cz row n j).set j x=cz row n (j+1):=by
 have h1:=(zS h).1;have hl:(row.take j).length=j:=by rw[List.length_take];omega
 have:=gZ (z:=(0:Rat)) (l:=row.take j) (m:=n) (x:=x) (by omega)
 rw[hl]at this;rw[cz,this,cz,TC h]
theorem vE {row:List Rat} {n:Nat} (h:row.length=n):cz row n n=row:=by
 rw[cz,List.take_of_length_le (by omega)];exact gX h
end Go.Eng

namespace Go.Eng
open Go.ChangeShapes Go.WideShapes Go.ChangeAt Go.RowKit
inductive Ty where
 | int (k:IntKind)
 | bool
 | sl (e:Ty)
 | nil
 | cons (a r:Ty)
def Ty.cells:Ty->Nat
 | .int _=>1 | .bool=>1 | .sl _=>1
 | .nil=>0
 | .cons a r=>a.cells+r.cells
def KG:Ty->List AV->Prop
 | .int k,cs => ∃ n,cs=[.int k n]/\(Lit.int k n).wf=true
 | .bool,cs => ∃ b,cs=[.bool b]
 | .sl e,cs => ∃ es,cs=[.sl true es]/\es.length<=maxLen /\ ∀ x∈es,KG e x
 | .nil,cs=>cs=[]
 | .cons a r,cs => ∃ x y,cs=x++y/\KG a x/\KG r y
theorem KG.len : ∀ {ty:Ty} {cs:List AV},KG ty cs->cs.length=ty.cells
 | .int _,cs,h=>by obtain ⟨n,rfl,_⟩:=h;rfl
 | .bool,cs,h=>by obtain ⟨n,rfl⟩:=h;rfl
 | .sl _,cs,h=>by obtain ⟨n,rfl,_⟩:=h;rfl
 | .nil,cs,h=>by rw[show cs=[] from h];rfl
 | .cons a r,cs,h=>by obtain ⟨x,y,rfl,h1,h2⟩:=h;simp [Ty.cells,KG.len h1,KG.len h2]
def QD (P:Program):Nat->TypeId->Ty->Bool
 | 0,_,_=>false
 | n+1,t,ty=>match P.underlying t,ty with
  | some (.int k),.int k'=>decide (k=k')
  | some .bool,.bool=>true
  | some (.slice e),.sl fo=>QD P n e fo&&(P.cellsOf e == fo.cells&&decide (0<fo.cells))
  | some (.struct fs),ty=>go (QD P n) fs.toList 0 ty&&P.cellsOf t == ty.cells
  | _,_=>false
where
 go (ok:TypeId->Ty->Bool):List Field->Nat->Ty->Bool
  | [],_,.nil=>true
  | f::fs,off,.cons a r=>(f.offset == off&&(ok f.type a&&P.cellsOf f.type == a.cells))&&go ok fs (off+a.cells) r
  | _,_,_=>false
section
variable {H:Type} {enc:TypeId × Value->H} {P:Program} {w:World} {base:Nat} {spare:Nat->Bool} {held:Bool} {R:Bool->Nat->Prop}
def KY (w:World) (R:Bool->Nat->Prop) (as:List AV) (cs:List Value):Prop:=as.length=cs.length /\ ∀ (j:Nat) (a:AV) (c:Value),as[j]? = some a->cs[j]? = some c->Rd w R a c
theorem KY.one {a:AV} {c:Value} (h:Rd w R a c):KY w R [a] [c]:=by
 refine ⟨rfl,λ j a' c' h1 h2 => ?_⟩;cases j with
 | zero=>simp at h1 h2;subst h1 h2;exact h
 | succ j=>simp at h1
theorem KY.append {as bs:List AV} {cs ds:List Value} (h1:KY w R as cs) (h2:KY w R bs ds):KY w R (as++bs) (cs++ds):=by
 refine ⟨by simp [h1.1,h2.1],λ j a c ha hc => ?_⟩;by_cases hj:j<as.length
 ·rw[List.getElem?_append_left hj]at ha
  rw[List.getElem?_append_left (by rw[<-h1.1];exact hj)]at hc;exact h1.2 j a c ha hc
 ·rw[List.getElem?_append_right (by omega)]at ha
  rw[List.getElem?_append_right (by rw[<-h1.1];omega),<-h1.1]at hc;exact h2.2 _ a c ha hc
theorem sW (a:Addr) (i:Nat) (h:a.spot=none):a.add i=⟨a.block,a.off+i,none⟩:=by
 obtain ⟨b,o,s⟩:=a;simp only at h;subst h;exact KJ b o i
theorem Dn (hR : ∀ b,b<w.heap.size->R true b) (m:Nat) (ih : ∀ (ty:Ty) (t:TypeId) (cs:List Value) (fuel:Nat) (x:DataW H × List MemPlace),QD P m t ty=true->DataW.trod enc P w base spare held fuel t cs=some x -> ∃ as,KG ty as/\KY w R as cs)
  (n:Nat) (cs:List Value) : ∀ (fs:List Field) (off:Nat) (ty:Ty),QD.go P (QD P m) fs off ty=true->(∀ f∈fs,∃ y,DataW.trod enc P w base spare held n f.type ((cs.drop f.offset).take (P.cellsOf f.type))=some y)->off+ty.cells=cs.length -> ∃ as,KG ty as/\KY w R as (cs.drop off)
 | [],off,ty,hok,_,hl=>by
  cases ty<;>simp only[QD.go,Bool.false_eq_true]at hok;simp only[Ty.cells]at hl;exact ⟨[],rfl,by rw[List.drop_of_length_le (by omega)];exact ⟨rfl,λ j a c h=>by simp at h⟩⟩
 | f::fs,off,ty,hok,hf,hl=>by
  cases ty<;>simp only[QD.go,Bool.false_eq_true,Bool.and_eq_true,beq_iff_eq]at hok;rename_i a r;obtain ⟨⟨h1,h2,h3⟩,h4⟩:=hok;simp only[Ty.cells]at hl;obtain ⟨y,hy⟩:=hf f List.mem_cons_self;rw[h1,h3]at hy;obtain ⟨Ie,g1,g2⟩:=ih a f.type _ n y h2 hy;obtain ⟨Ig,g3,g4⟩:=Dn hR m ih n cs fs (off+a.cells) r h4 (λ f' h'=>hf f' (List.mem_cons_of_mem _ h')) (by omega);refine ⟨Ie++Ig,⟨Ie,Ig,rfl,g1,g3⟩,?_⟩;have:=g2.append g4
  rwa [show (cs.drop off).take a.cells++cs.drop (off+a.cells)=cs.drop off by rw[<-List.drop_drop,List.take_append_drop]]at this
theorem Dm (hR : ∀ b,b<w.heap.size->R true b) : ∀ (m:Nat) (ty:Ty) (t:TypeId) (cs:List Value) (fuel:Nat) (x:DataW H × List MemPlace),QD P m t ty=true->DataW.trod enc P w base spare held fuel t cs=some x -> ∃ as,KG ty as/\KY w R as cs
 | 0,_,_,_,_,_,h,_=>by simp [QD]at h
 | m+1,ty,t,cs,fuel,x,hok,h=>by
  have ih:=Dm hR m;simp only[QD]at hok;split at hok
  ·rename_i k k' hu
   obtain rfl:k=k':=by simpa using hok
   obtain ⟨n,rfl,_,hw⟩:=DataW.trod_int hu h;exact ⟨[.int k n],⟨n,rfl,hw⟩,KY.one (.int k n)⟩
  ·rename_i hu
   cases fuel with
   | zero=>simp [DataW.trod]at h
   | succ fuel =>
    unfold DataW.trod at h;rw[hu]at h;split at h<;>simp_all
    exact ⟨_,⟨_,rfl⟩,KY.one (.bool _)⟩
  ·rename_i e fo hu
   simp only[Bool.and_eq_true,beq_iff_eq,decide_eq_true_eq]at hok;obtain ⟨h1,h2,h3⟩:=hok;rcases DataW.trod_slice hu h with ⟨rfl,_⟩|⟨a,len,cap,elems,rest,n,_,rfl,_,hb,hl,hm,hlen,w5,_,_⟩
   ·exact ⟨[.sl true []],⟨[],rfl,by simp,by simp⟩,KY.one (.eo true none 0)⟩
   ·have each : ∀ i,i<len -> ∃ as az,KG fo as/\KY w R as az/\az.length=fo.cells /\ ∀ j,j<fo.cells->w.cell? ((a.add (i*fo.cells)).add j)=az[j]? := by
     intro i hi;have:=w5 i hi
     rw[h2,zE (by omega),Option.bind_eq_some_iff]at this;obtain ⟨az,hc,ht⟩:=this;obtain ⟨as,g1,g2⟩:=ih fo e az n _ h1 ht;obtain ⟨_,q1,q2⟩:=World.cells?_some hc;exact ⟨as,az,g1,g2,q1,q2⟩
    by_cases h0:len=0
    ·subst h0
     exact ⟨[.sl true []],⟨[],rfl,by simp,by simp⟩,KY.one (.eo true (some a) cap)⟩
    ·have pj:a.spot=none:=by
      obtain ⟨as,az,_,_,q1,q2⟩:=each 0 (by omega);have:=q2 0 h3
      rw[zE (by omega)]at this;simpa [Addr.add] using World.cell?_spot this
     have fy:a.block<w.heap.size:=by
      obtain ⟨as,az,_,_,q1,q2⟩:=each 0 (by omega);have:=q2 0 h3
      rw[zE (by omega)]at this;simpa [Addr.add] using ZC this
     have pick : ∃ f:Nat->List AV × List Value,∀ i,i<len->KG fo (f i).1/\KY w R (f i).1 (f i).2/\(f i).2.length=fo.cells /\ ∀ j,j<fo.cells->w.cell? ((a.add (i*fo.cells)).add j)=(f i).2[j]? := by
      refine ⟨λ i=>if hi:i<len then (Classical.choose (each i hi),Classical.choose (Classical.choose_spec (each i hi))) else ([],[]),λ i hi => ?_⟩;simp only[hi,dif_pos];exact Classical.choose_spec (Classical.choose_spec (each i hi))
     obtain ⟨f,hf⟩:=pick;have l7 : ∀ i e',((List.range len).map λ i=>(f i).1)[i]? = some e'->i<len/\e'=(f i).1:=by
      intro i e' he;rw[List.getElem?_map]at he;by_cases hi:i<len
      ·rw[List.getElem?_range hi]at he
       simp at he;exact ⟨hi,he.symm⟩
      ·rw[List.getElem?_eq_none (by simpa using hi)]at he
       cases he
     refine ⟨[.sl true ((List.range len).map λ i=>(f i).1)],⟨_,rfl,by simp;omega,λ x hx => ?_⟩,KY.one ?_⟩
     ·obtain ⟨i,hi,rfl⟩:=List.mem_map.1 hx
      exact (hf i (List.mem_range.1 hi)).1
     ·obtain ⟨ab,ao,as⟩:=a
      simp only at pj;subst pj;have pc:((List.range len).map λ i=>(f i).1).length=len:=by simp
      have:=Rd.sl (w:=w) (R:=R) true ((List.range len).map λ i=>(f i).1) ab ao fo.cells cap (λ i j=>((f i).2[j]?).getD default) (by intro e;have:=congrArg List.length e;simp at this;omega) h3 (hR ab fy) (by rw[pc];exact hl)
       (λ e' he=>by
        obtain ⟨i,hi,rfl⟩:=List.mem_map.1 he;exact (hf i (List.mem_range.1 hi)).1.len)
       (λ i e' he j c hc=>by
        obtain ⟨hi,rfl⟩:=l7 i e' he;obtain ⟨g1,g2,g3,g4⟩:=hf i hi;have hj:j<fo.cells:=by
         have:=(zS hc).1
         rwa [g1.len]at this
        have h5:=g4 j hj;rw[sW ⟨ab,ao,none⟩ (i*fo.cells) rfl,sW _ _ rfl]at h5;simp only at h5;rw[show ao+(i*fo.cells+j)=ao+i*fo.cells+j by omega,h5,zE (by omega)];rfl)
       (λ i e' he j c hc=>by
        obtain ⟨hi,rfl⟩:=l7 i e' he;obtain ⟨g1,g2,g3,g4⟩:=hf i hi;have hj:j<fo.cells:=by
         have:=(zS hc).1
         rwa [g1.len]at this
        have h6:(f i).2[j]? = some ((f i).2[j]'(by omega)):=zE _;rw[h6];exact g2.2 j c _ hc h6)
      rwa [pc]at this
  ·rename_i fs hu
   simp only[Bool.and_eq_true,beq_iff_eq]at hok;obtain ⟨h1,h2⟩:=hok;obtain ⟨xs,n,_,_,hl,hlen,hf⟩:=DataW.trod_struct hu h;have:=Dn hR m ih n cs fs.toList 0 _ h1 (λ f ga=>by
    obtain ⟨i,hi,rfl⟩:=List.getElem_of_mem ga;have h5:=hf i fs.toList[i] (by simp);rw[h5,zE (by simpa [hlen] using hi)];exact ⟨_,rfl⟩) (by rw[hl,h2];omega)
   simpa using this
  ·exact absurd hok (by simp)
theorem oV {S:Nat->Prop} {ty:Ty} {t:TypeId} {v:Value} {d:DataW H} {ps:List MemPlace} {m:Nat} (hok:QD P m t ty=true) (hv:v.cells.toList=[v]) (h:DataW.Trod enc P w base spare held t v d ps) :
  ∃ a,KG ty [a]/\CA w.heap.size S ⟨λ_ _=>none,BT.emp,w⟩ a v:=by
 obtain ⟨fuel,hf⟩:=h;rw[hv]at hf;obtain ⟨as,h1,h2⟩:=Dm (R:=safe w.heap.size S ⟨λ_ _=>none,BT.emp,w⟩) (λ b hb=>Or.inr (Or.inr ⟨rfl,hb⟩)) m ty t [v] fuel _ hok hf;obtain ⟨a,rfl⟩ : ∃ a,as=[a]:=by
  have:=h2.1
  match as,this with
  | [a],_=>exact ⟨a,rfl⟩
 exact ⟨a,h1,.one (.rd (h2.2 0 a v rfl rfl))⟩
end
theorem Ot {B:Nat} {S:Nat->Prop} {m:M} : ∀ (j:Nat) (c:AV) (v:Value),([]:List AV)[j]? = some c->([]:List Value)[j]? = some v->CA B S m c v:=λ j c v h=>by simp at h
theorem kR {B:Nat} {S:Nat->Prop} {m:M} {a:AV} {u:Value} {as:List AV} {us:List Value} (h:CA B S m a u) (hr : ∀ (j:Nat) (c:AV) (v:Value),as[j]? = some c->us[j]? = some v->CA B S m c v) :
  ∀ (j:Nat) (c:AV) (v:Value),(a::as)[j]? = some c->(u::us)[j]? = some v->CA B S m c v
 | 0,c,v,h1,h2=>by simp at h1 h2;subst h1 h2;exact h
 | j+1,c,v,h1,h2=>hr j c v (by simpa using h1) (by simpa using h2)
theorem Ajw {P:Program} {num:Nat->Nat} {L:Lib} (hP:ProgOK P num L) {f:Nat} {vs:List AV} (h:Ev L f vs (.bool true)) {S:Nat->Prop} {w:World} {us:List Value} (hl:vs.length=us.length)
  (ha : ∀ (j:Nat) (c:AV) (v:Value),vs[j]? = some c->us[j]? = some v->CA w.heap.size S ⟨λ_ _=>none,BT.emp,w⟩ c v) :
  Calls P (num f) us.toArray w λ e w'=>e = .returned (.bool true)/\Below w.heap.size w w':=by
 obtain ⟨n,hn⟩:=h;refine ((Nl hP n).pure f vs _ hn S w us hl ha).mono ?_;rintro e w' ⟨u,rfl,hb,q5,_⟩
 refine ⟨?_,hb⟩;cases q5 with
 | ca hca=>cases hca with
  | one hcc=>cases hcc with
   | rd iy=>cases iy;rfl
end Go.Eng

namespace Go.Eng
abbrev tI:Ty := .int .i64
theorem Ed {α:Type} {enc:α->List AV} {p:α->Prop} : ∀ {es:List (List AV)},(∀ x∈es,∃ y,x=enc y/\p y) -> ∃ l:List α,es=l.map enc /\ ∀ y∈l,p y
 | [],_=>⟨[],rfl,by simp⟩
 | e::es,h=>by
  obtain ⟨y,rfl,hy⟩:=h e List.mem_cons_self;obtain ⟨l,rfl,hl⟩:=Ed (enc:=enc) (p:=p) λ x hx=>h x (List.mem_cons_of_mem _ hx)
  exact ⟨y::l,rfl,by simpa using ⟨hy,hl⟩⟩
theorem Xn {α:Type} {enc:α->List AV} {p:α->Prop} {e:Ty} {cs:List AV} (he : ∀ x,KG e x -> ∃ y,x=enc y/\p y) (h:KG (.sl e) cs) : ∃ l:List α,cs=[.sl true (l.map enc)]/\l.length<9223372036854775808 /\ ∀ y∈l,p y:=by
 obtain ⟨es,rfl,hl,hx⟩:=h;obtain ⟨l,rfl,hp⟩:=Ed (enc:=enc) (p:=p) λ x hm=>he x (hx x hm)
 refine ⟨l,rfl,?_,hp⟩;have:maxLen=9223372036854775807:=rfl
 simp at hl;omega
theorem Als {n:Int} (h:(Lit.int .i64 n).wf=true):LD n:=by
 simp only[Lit.wf,Bool.and_eq_true,decide_eq_true_eq]at h;have h1:IntKind.i64.min = -9223372036854775808:=rfl;have h2:IntKind.i64.max=9223372036854775807:=rfl;rw[h1,h2]at h;unfold LD;constructor<;>omega
theorem zL {cs:List AV} (h:KG tI cs) : ∃ n,cs=V3 n/\LD n:=by obtain ⟨n,rfl,hw⟩:=h;exact ⟨n,rfl,Als hw⟩
theorem zN {cs:List AV} (h:KG (.sl tI) cs) : ∃ l:List Int,cs=[.sl true (l.map V3)]/\l.length<9223372036854775808 /\ ∀ v∈l,LD v:=Xn (λ_=>zL) h
end Go.Eng



namespace Go.Eng
open F
attribute [local irreducible] AH BJ B1 BD E6 CF CI CY CU DX B5 DT EN GS DS CR DR EF AR CW BW pw DC DB EP EV E7 FM EZ D5 FE
variable {L:Lib}
set_option maxHeartbeats 8000000
abbrev eM (m:List (List Rat)):List (List AV):=m.map λ r=>[AV.sl false (r.map eQ)]
theorem tQ (m:List (List Rat)):IO (eM m):=bF (λ r=>by simp only[FG,CS,and_true,true_and];exact KM r) m
theorem tT (m:List (List Rat)):CS (.sl false (eM m)):=by
 simp only[CS,true_and];exact tQ m
end Go.Eng

namespace Go.Eng
variable {L:Lib}
theorem Kv {kk:List It} {tm:Tm} {M:Mem} {Q:Tm->Mem->Prop} {k s:Nat} {rows:List (Option (Nat × List (List AV)))} {w:List Nat} (o3:List (Option (Nat × List (List AV)))) (e:c5 M k=some (s,.vw w rows)) (hl:o3.length=w.length)
  (hw : ∀ (i t:Nat),w[i]? = some t -> ∃ r,rows[t]? = some r/\o3[i]? = some r) (hi : ∀ (i i' t:Nat),w[i]? = some t->w[i']? = some t->i=i') (w4:MS k tm=false) (hcm:LH k M=false)
  (h:AH L kk tm ((k,s,.mx o3)::M) Q):AH L kk tm M Q:=by
 intro σ st hr;obtain ⟨σ',hr'⟩:=hr.si e hl hw hi w4 hcm;exact h σ' st hr'
theorem rS {kk:List It} {tm:Tm} {M:Mem} {Q:Tm->Mem->Prop} {k s i j:Nat} {rows:List (Option (Nat × List (List AV)))} {a b:Option (Nat × List (List AV))} (e:c5 M k=some (s,.vw (((List.range rows.length).set i j).set j i) rows)) (ha:rows[i]? = some a) (hb:rows[j]? = some b) (w4:MS k tm=false) (hcm:LH k M=false)
  (h:AH L kk tm ((k,s,.mx ((rows.set i b).set j a))::M) Q):AH L kk tm M Q:=by
 have hi:=(zS ha).1;have hj:=(zS hb).1;have Bn : ∀ p,p<rows.length->(((List.range rows.length).set i j).set j i)[p]? = some (if p=j then i else if p=i then j else p):=λ p hp=>by
  rw[List.getElem?_set,List.getElem?_set,List.length_set,List.length_range];by_cases h1:j=p
  ·subst h1;simp [hp]
  ·rw[if_neg h1,if_neg (Ne.symm h1)]
   by_cases h2:i=p
   ·subst h2;simp [hp]
   ·rw[if_neg h2,if_neg (Ne.symm h2),List.getElem?_range hp]
 have hwl : ∀ p t,(((List.range rows.length).set i j).set j i)[p]? = some t->p<rows.length:=λ p t hp=>by
  have:=(zS hp).1
  simpa using this
 refine Kv ((rows.set i b).set j a) e (by simp) (λ p t hp => ?_) (λ p p' t hp vk => ?_) w4 hcm h
 ·have nu:=hwl p t hp
  rw[Bn p nu]at hp;obtain rfl:=Option.some.inj hp;rw[List.getElem?_set,List.getElem?_set,List.length_set];by_cases h1:p=j
  ·subst h1
   exact ⟨a,by rw[if_pos rfl];exact ha,by rw[if_pos rfl,if_pos nu]⟩
  ·rw[if_neg h1,if_neg (Ne.symm h1)]
   by_cases h2:p=i
   ·subst h2
    exact ⟨b,by rw[if_pos rfl];exact hb,by rw[if_pos rfl,if_pos nu]⟩
   ·rw[if_neg h2,if_neg (Ne.symm h2)]
    exact ⟨_,zE nu,zE nu⟩
 ·have nu:=hwl p t hp
  have Au:=hwl p' t vk;rw[Bn p nu]at hp;rw[Bn p' Au]at vk;have:=Option.some.inj (hp.trans vk.symm)
  split at this<;>split at this<;>(try split at this)<;>(try split at this)<;>omega
end Go.Eng
