/-
  Integers (layer 2).
-/
import Derived.Test.YthgjfcjecnmflaaGreatB9
import Derived.Test.YthgjfcjecnmflaaGreatB8
import Derived.Test.YthgjfcjecnmflaaGreatB1
import Derived.Test.YthgjfcjecnmflaaGreatB2
import Derived.Test.YthgjfcjecnmflaaGreatB7
import Derived.Test.YthgjfcjecnmflaaGreatB5
import Derived.ProofKit
import Derived.OpenShut
import Derived.ChangeOld
import Derived.WalkKit
import Derived.WideShapes
import Derived.ChangeArms
set_option linter.unusedSimpArgs false
set_option linter.unusedVariables false
set_option linter.unnecessarySimpa false
namespace Go.e6
open F
attribute [local irreducible] AH A8 BT A5 EW BJ CS CR EU DK EE II C8 B5 DB FG AP CG BF pw HE FL HO HG HN G2 G5 DG FF
variable {L:Lib}
set_option maxHeartbeats 8000000
theorem Yq {k:Nat} {K:Int->Prop} (h:0<k/\k<=9223372036854775808) (hk:K ((18446744073709551616-k:Nat):Int)):BV .u64 (-(k:Int)) K:=by
 refine ⟨?_⟩;have e:IntKind.u64.wrap (-(k:Int))=((18446744073709551616-k:Nat):Int):=by
  simp [IntKind.wrap,IntKind.bits,IntKind.signed];omega
 rw[e];exact hk
theorem EW.Gj {k:Nat} {K:AV->Prop} (h:0<k/\k<=9223372036854775808) (hk:K (.int .u64 (k:Int))):EW .neg .u64 ((18446744073709551616-k:Nat):Int) K:=by
 refine EW.go (v := .int .u64 (IntKind.u64.wrap (0-((18446744073709551616-k:Nat):Int)))) rfl ?_;have e:IntKind.u64.wrap (0-((18446744073709551616-k:Nat):Int))=(k:Int):=by
  simp [IntKind.wrap,IntKind.bits,IntKind.signed];omega
 rw[e];exact hk
theorem nB (N:b7 L) (z:Int) (hz : -9223372036854775808<=z/\z<=9223372036854775807):Ev L 85 [.int .i64 z] (.agg (eZ z)):=by
 have two : ∀ k:Nat,k<18446744073709551616 -> ∀ q,Ev L 66 [.sl q [[.int .u32 ((k%4294967296:Nat):Int)],[.int .u32 ((k/4294967296:Nat):Int)]]] (.sl false ((dg k).map BG)):=λ k hk q=>by
  have:=cS N.toc6 [k%4294967296,k/4294967296] q (mG hk).2 (by simp)
  rw[Pj hk]at this;exact this
 refine Ev.x N.RJ rfl rfl ?_;by_cases h0:0<=z
 ·obtain ⟨k,rfl⟩:=Int.eq_ofNat_of_zero_le h0
  have hT:=two k (by omega);have z1:=KB k;(repeat' ((first|(apply BB<;>intro hc<;>try omega)|apply IK|(apply DL;omega)|(apply GP;omega)|apply JL|refine bN rfl rfl ?_|apply A7)<;>conv=>whnf))
  generalize k%4294967296=lo at *;generalize k/4294967296=hi at *;(repeat' (refine AY (hT _) ?_<;>conv=>whnf))
  refine FN 1000 N.DT rfl rfl ?_;(repeat' (apply A7<;>conv=>whnf))
  all_goals (refine ⟨rfl,?_⟩;(conv=>whnf);skip)
  exact BU (G6 (by omega) (H0 (by omega))) (FQ _)
 ·obtain ⟨k,hk⟩:=Int.eq_ofNat_of_zero_le (show 0 <= -z by omega)
  obtain rfl:z = -(k:Int):=by omega
  have hT:=two k (by omega);have z1:=KB k;(repeat' (apply A7<;>conv=>whnf))
  refine Yq (by omega) ?_;(conv=>whnf)
  (repeat' ((first|(apply BB<;>intro hc<;>try omega)|fail)<;>conv=>whnf))
  refine EW.Gj (by omega) ?_;(conv=>whnf)
  (repeat' ((first|(apply BB<;>intro hc<;>try omega)|apply IK|(apply GP;omega)|apply JL|refine bN rfl rfl ?_)<;>conv=>whnf))
  generalize k%4294967296=lo at *;generalize k/4294967296=hi at *;(repeat' (refine AY (hT _) ?_<;>conv=>whnf))
  refine FN 1000 N.DT rfl rfl ?_;(repeat' ((first|(apply BB<;>intro hc<;>try omega)|apply BR|apply A7)<;>conv=>whnf))
  all_goals (refine ⟨rfl,?_⟩;(conv=>whnf);skip)
  exact BU (G6 (by omega) (P5 (by omega))) (FQ _)
theorem wF (N:b7 L) (n q:Bool) (m:List Nat) (hm:Sm 549755813888 m):Ev L 84 [.agg (rZ q n m)] (.agg (eZ (zv n m))):=by
 have hT:=λ q=>cS N.toc6 m q hm.1 (by have:=hm.2;omega)
 have hz:=KB (val m);have ha:=HM n m;refine Ev.x N.RL rfl rfl ?_;cases n
 ·rw[G1]at *
  (repeat' ((first|apply A7|refine AY (hT _) ?_)<;>conv=>whnf))
  refine FN 1000 N.DT rfl rfl ?_;(repeat' (apply A7<;>conv=>whnf))
  all_goals (refine ⟨rfl,?_⟩;(conv=>whnf);skip)
  exact BU (G6 ha.symm (H0 (by omega))) (FQ _)
 ·rw[U2]at *
  (repeat' ((first|apply A7|refine AY (hT _) ?_)<;>conv=>whnf))
  refine FN 1000 N.DT rfl rfl ?_;(repeat' ((first|(apply BB<;>intro hc<;>try omega)|apply BR|apply A7)<;>conv=>whnf))
  all_goals (refine ⟨rfl,?_⟩;(conv=>whnf);skip)
  ·exact BU (G6 ha.symm (P5 (by omega))) (FQ _)
  ·exact BU (G6 ha.symm (H0 (by omega))) (FQ _)
theorem gR (N:b7 L) (n q:Bool) (m:List Nat) (hm:Sm 549755813888 m):Ev L 86 [.agg (rZ q n m)] (.int .i64 (u6 (zv n m))):=by
 have m5:=λ q q'=>WC N.toc6 m [] q q' hm.1 ZU (by have:=hm.2;omega) (by simp)
 rw[O8]at m5;refine Ev.x N.RK rfl rfl ?_;by_cases h0:val m=0
 ·have hn:E4 (val m) (0:Nat)=0:=(YC (by omega)).symm
  rw[hn]at m5;(repeat' ((first|(apply BB<;>intro hc<;>try omega)|apply A7|refine AY (m5 _ _) ?_)<;>conv=>whnf))
  exact DY (jH (by have:=HM n m;omega))
 ·have hn:E4 (val m) (0:Nat)=1:=(VC (by omega)).symm
  rw[hn]at m5;cases n
  ·(repeat' ((first|(apply BB<;>intro hc<;>try omega)|apply A7|refine AY (m5 _ _) ?_)<;>conv=>whnf))
   exact DY (qL (by rw[G1];omega))
  ·(repeat' ((first|(apply BB<;>intro hc<;>try omega)|apply A7|refine AY (m5 _ _) ?_)<;>conv=>whnf))
   exact DY (jE (by rw[U2];omega))
theorem wD (N:b7 L) (n1 n2 q1 q2:Bool) (a b:List Nat) (ha:Sm 549755813888 a) (hb:Sm 549755813888 b):Ev L 87 [.agg (rZ q1 n1 a),.agg (rZ q2 n2 b)] (.agg (eZ (zv n1 a+zv n2 b))):=by
 have la:=ha.2;have lb:=hb.2;have h1:=λ q q'=>wJ N.toc6 a b q q' ha.1 hb.1 (by omega) (by omega)
 have h2:=λ q q'=>nF N.toc6 a b q q' ha.1 hb.1 (by omega) (by omega)
 have h3:=λ q q'=>nF N.toc6 b a q q' hb.1 ha.1 (by omega) (by omega)
 have m5:=λ q q'=>WC N.toc6 a b q q' ha.1 hb.1 (by omega) (by omega)
 have z1:=KB (val a+val b);have z2:=KB (val a-val b);have z3:=KB (val b-val a);refine Ev.x N.RF rfl rfl ?_;by_cases l8:val a<val b
 ·have hn:E4 (val a) (val b) = -1:=(OU (by omega)).symm
  rw[hn]at m5;cases n1<;>cases n2<;>simp only[G1,U2]
  ·(repeat' ((first|apply A7|refine AY (h1 _ _) ?_)<;>conv=>whnf))
   refine FN 1000 N.DT rfl rfl ?_;(repeat' (apply A7<;>conv=>whnf))
   all_goals (refine ⟨rfl,?_⟩;(conv=>whnf);skip)
   exact BU (G6 (by omega) (H0 (by omega))) (FQ _)
  ·(repeat' ((first|(apply BB<;>intro hc<;>try omega)|apply A7|refine AY (h3 _ _) ?_|refine AY (m5 _ _) ?_)<;>conv=>whnf))
   refine FN 1000 N.DT rfl rfl ?_;(repeat' ((first|(apply BB<;>intro hc<;>try omega)|apply BR|apply A7)<;>conv=>whnf))
   all_goals (refine ⟨rfl,?_⟩;(conv=>whnf);skip)
   ·exact BU (G6 (by omega) (P5 (by omega))) (FQ _)
  ·(repeat' ((first|(apply BB<;>intro hc<;>try omega)|apply A7|refine AY (h3 _ _) ?_|refine AY (m5 _ _) ?_)<;>conv=>whnf))
   refine FN 1000 N.DT rfl rfl ?_;(repeat' (apply A7<;>conv=>whnf))
   all_goals (refine ⟨rfl,?_⟩;(conv=>whnf);skip)
   ·exact BU (G6 (by omega) (H0 (by omega))) (FQ _)
  ·(repeat' ((first|apply A7|refine AY (h1 _ _) ?_)<;>conv=>whnf))
   refine FN 1000 N.DT rfl rfl ?_;(repeat' ((first|(apply BB<;>intro hc<;>try omega)|apply BR|apply A7)<;>conv=>whnf))
   all_goals (refine ⟨rfl,?_⟩;(conv=>whnf);skip)
   ·exact BU (G6 (by omega) (P5 (by omega))) (FQ _)
 ·have hn:E4 (val a) (val b) ≠ -1:=by unfold E4;split<;>(try split)<;>omega
  generalize E4 (val a) (val b)=cm at *;cases n1<;>cases n2<;>simp only[G1,U2]
  ·(repeat' ((first|apply A7|refine AY (h1 _ _) ?_)<;>conv=>whnf))
   refine FN 1000 N.DT rfl rfl ?_;(repeat' (apply A7<;>conv=>whnf))
   all_goals (refine ⟨rfl,?_⟩;(conv=>whnf);skip)
   exact BU (G6 (by omega) (H0 (by omega))) (FQ _)
  ·(repeat' ((first|(apply BB<;>intro hc<;>try omega)|apply A7|refine AY (h2 _ _) ?_|refine AY (m5 _ _) ?_)<;>conv=>whnf))
   refine FN 1000 N.DT rfl rfl ?_;(repeat' (apply A7<;>conv=>whnf))
   all_goals (refine ⟨rfl,?_⟩;(conv=>whnf);skip)
   exact BU (G6 (by omega) (H0 (by omega))) (FQ _)
  ·(repeat' ((first|(apply BB<;>intro hc<;>try omega)|apply A7|refine AY (h2 _ _) ?_|refine AY (m5 _ _) ?_)<;>conv=>whnf))
   refine FN 1000 N.DT rfl rfl ?_;(repeat' ((first|(apply BB<;>intro hc<;>try omega)|apply BR|apply A7)<;>conv=>whnf))
   all_goals (refine ⟨rfl,?_⟩;(conv=>whnf);skip)
   ·exact BU (G6 (by omega) (P5 (by omega))) (FQ _)
   ·exact BU (G6 (by omega) (H0 (by omega))) (FQ _)
  ·(repeat' ((first|apply A7|refine AY (h1 _ _) ?_)<;>conv=>whnf))
   refine FN 1000 N.DT rfl rfl ?_;(repeat' ((first|(apply BB<;>intro hc<;>try omega)|apply BR|apply A7)<;>conv=>whnf))
   all_goals (refine ⟨rfl,?_⟩;(conv=>whnf);skip)
   ·exact BU (G6 (by omega) (P5 (by omega))) (FQ _)
   ·exact BU (G6 (by omega) (H0 (by omega))) (FQ _)
theorem YK (N:b7 L) (n1 n2 q1 q2:Bool) (a b:List Nat) (ha:BZ a) (hb:BZ b) (hl:a.length+b.length<=1099511627776):Ev L 88 [.agg (rZ q1 n1 a),.agg (rZ q2 n2 b)] (.agg (eZ (zv n1 a*zv n2 b))):=by
 have h1:=λ q q'=>nE N.toc6 a b q q' ha hb hl
 have z1:=KB (val a*val b);have Is:(zv n1 a*zv n2 b).natAbs=val a*val b:=by rw[Int.natAbs_mul,HM,HM]
 refine Ev.x N.RI rfl rfl ?_;have e:zv n1 a*zv n2 b=bif n1 == n2 then ((val a*val b:Nat):Int) else -((val a*val b:Nat):Int):=by
  cases n1<;>cases n2<;>simp [G1,U2,Int.mul_neg,Int.neg_mul]
 rw[e]at Is ⊢;generalize val a*val b=V at *;cases n1<;>cases n2<;>simp only[beq_self_eq_true,cond_true,show (false == true)=false from rfl,show (true == false)=false from rfl,cond_false]
 ·(repeat' ((first|apply A7|refine AY (h1 _ _) ?_)<;>conv=>whnf))
  refine FN 1000 N.DT rfl rfl ?_;(repeat' (apply A7<;>conv=>whnf))
  all_goals (refine ⟨rfl,?_⟩;(conv=>whnf);skip)
  exact BU (G6 (by omega) (H0 (by omega))) (FQ _)
 ·(repeat' ((first|apply A7|refine AY (h1 _ _) ?_)<;>conv=>whnf))
  refine FN 1000 N.DT rfl rfl ?_;(repeat' ((first|(apply BB<;>intro hc<;>try omega)|apply BR|apply A7)<;>conv=>whnf))
  all_goals (refine ⟨rfl,?_⟩;(conv=>whnf);skip)
  ·exact BU (G6 (by omega) (P5 (by omega))) (FQ _)
  ·exact BU (G6 (by omega) (H0 (by omega))) (FQ _)
 ·(repeat' ((first|apply A7|refine AY (h1 _ _) ?_)<;>conv=>whnf))
  refine FN 1000 N.DT rfl rfl ?_;(repeat' ((first|(apply BB<;>intro hc<;>try omega)|apply BR|apply A7)<;>conv=>whnf))
  all_goals (refine ⟨rfl,?_⟩;(conv=>whnf);skip)
  ·exact BU (G6 (by omega) (P5 (by omega))) (FQ _)
  ·exact BU (G6 (by omega) (H0 (by omega))) (FQ _)
 ·(repeat' ((first|apply A7|refine AY (h1 _ _) ?_)<;>conv=>whnf))
  refine FN 1000 N.DT rfl rfl ?_;(repeat' (apply A7<;>conv=>whnf))
  all_goals (refine ⟨rfl,?_⟩;(conv=>whnf);skip)
  exact BU (G6 (by omega) (H0 (by omega))) (FQ _)
theorem mI:dg 1=[1]:=by rw[PF (by omega)];simp [HP]
theorem Afw (N:b7 L) (V:Nat) (q:Bool):Ev L 90 [.sl q ((dg V).map BG)] (.bool (decide (V=1))):=by
 have hv:=CX V;have hD:=GA V;have h1:V=1->dg V=[1]:=λ h=>by rw[h,mI]
 generalize dg V=l at *;refine Ev.x N.S2 rfl rfl ?_;by_cases hl:l.length=1
 ·obtain ⟨d,rfl⟩:=List.length_eq_one_iff.1 hl
  have e:V=d:=by rw[<-hv];simp [val]
  subst e;have hd:[V][(0:Int).toNat]? = some V:=rfl;(repeat' ((first|(apply BB<;>intro hc<;>try omega)|apply BR|(refine CT (by assumption) ?_ rfl ?_;omega)|apply A7)<;>conv=>whnf))
  ·exact VY (by omega)
  ·exact QF (by omega)
 ·(repeat' ((first|(apply BB<;>intro hc<;>try omega)|apply BR|apply A7)<;>conv=>whnf))
  exact QF (λ h=>by rw[h1 h]at hl;simp at hl)
theorem ZX (N:b7 L) (n q1 q2:Bool) (m d:List Nat) (hm:Sm 549755813888 m) (hd:Sm 549755813888 d) (h0:val d≠0):Ev L 94 [.agg (rQ q1 q2 n m d)] (.agg (eQ (qv n m d))):=by
 have Ci:=λ q q'=>gT N.toc6 m d q q' hm.1 hd.1 hm.2 hd.2 h0
 have Hm:=HM n m;have sq:Sm 549755813888 (dg (val m/val d)):=hm.low (Nat.div_le_self _ _);have sr:Sm 549755813888 (dg (val m%val d)):=hd.low (Nat.le_of_lt (Nat.mod_lt _ (by omega)));have hT:=λ q=>wF N n q _ sq
 have hG:=λ q q'=>Afz N.toc6 d (dg (val m%val d)) q q' hd.1 sr.1 hd.2 sr.2
 rw[CX,show Nat.gcd (val d) (val m%val d)=Nat.gcd (val d) (zv n m).natAbs by rw[Hm,dF,Nat.gcd_comm]]at hG;have Jq:=yB (zv n m).natAbs h0;have Ct:=Nat.gcd_le_left (zv n m).natAbs (show 0<val d by omega);have hz:=KB (val m%val d);obtain ⟨e1,e2,e3⟩:=pJ (z:=zv n m) h0;unfold qv;generalize hGG:Nat.gcd (val d) (zv n m).natAbs=g at *;have h1:=λ q=>Afw N g q
 refine Ev.x N.S4 rfl rfl ?_;by_cases su:val m%val d=0
 ·(repeat' ((first|(apply BB<;>intro hc<;>try omega)|apply BR|apply A7|refine AY (Ci _ _) ?_|refine AY (hT _) ?_)<;>conv=>whnf))
  refine FN 1000 N.NZ rfl rfl ?_;(repeat' (apply A7<;>conv=>whnf))
  refine ⟨rfl,?_⟩;(conv=>whnf)
  (repeat' (refine PC rfl ?_<;>conv=>whnf))
  have mz:g=val d:=by
   rw[<-hGG,Hm];exact Nat.gcd_eq_left (Nat.dvd_of_mod_eq_zero su)
  have hv:=CX (val m/val d);refine BU ?_ ?_
  ·show _=AV.agg (rQ _ _ _ _ _)
   rw[e1,e2,e3,Hm,mz,Nat.div_self (by omega),HM,hv,mI];have hs:decide (zv n (dg (val m/val d))<0)=decide (zv n m<0):=by
    cases n
    ·rw[G1,G1];simp;omega
    ·rw[U2,U2,hv]
     congr 1;rw[eq_iff_iff];have h5:=Nat.div_add_mod (val m) (val d);rw[su,Nat.add_zero]at h5;constructor
     ·intro h6
      have h7:val m/val d≠0:=by omega
      have:val m≠0:=λ h8=>h7 (by rw[h8,Nat.zero_div])
      omega
     ·intro h6
      have h7:val m/val d≠0:=λ h8=>by rw[h8,Nat.mul_zero]at h5;omega
      omega
   rw[hs];rfl
  ·exact G7 _
 ·by_cases Bg:g=1
  ·have hT1:=λ q=>wF N n q m hm
   have Gl:=λ q=>cS N.toc6 d q hd.1 (by have:=hd.2;omega)
   (repeat' ((first|(apply BB<;>intro hc<;>try omega)|apply BR|apply A7|refine AY (Ci _ _) ?_|refine AY (hG _ _) ?_|refine FI (h1 _) (λ hf => ?_) (λ hf => ?_)|refine AY (hT1 _) ?_|refine AY (Gl _) ?_)<;>conv=>whnf))
   ·refine BU ?_ (gA _ _ _)
    show _=AV.agg (rQ _ _ _ _ _);rw[e1,e2,e3,Bg,Nat.div_one,Nat.div_one]
   ·exact absurd Bg hf
  ·have sg:Sm 549755813888 (dg g):=hd.low Ct
   have tu:=λ q q'=>gT N.toc6 m (dg g) q q' hm.1 sg.1 hm.2 sg.2 (by rw[CX];omega)
   have tv:=λ q q'=>gT N.toc6 d (dg g) q q' hd.1 sg.1 hd.2 sg.2 (by rw[CX];omega)
   rw[CX]at tu tv;(repeat' ((first|(apply BB<;>intro hc<;>try omega)|apply BR|apply A7|refine AY (Ci _ _) ?_|refine AY (hG _ _) ?_|refine FI (h1 _) (λ hf => ?_) (λ hf => ?_)|refine AY (tu _ _) ?_|refine AY (tv _ _) ?_)<;>conv=>whnf))
   ·exact absurd hf Bg
   ·refine BU ?_ (gA _ _ _)
    show _=AV.agg (rQ _ _ _ _ _);rw[e1,e2,e3,Hm];have hs:n=decide (zv n m<0):=by
     have:val m≠0:=λ h=>su (by rw[h,Nat.zero_mod])
     cases n
     ·exact H0 (by rw[G1];omega)
     ·exact P5 (by rw[U2];omega)
    rw[<-hs]
theorem YL (N:b7 L) (m:List Nat):Ev L 91 [.sl false (m.map BG)] (.agg [.bool false,.sl false (m.map BG)]):=by
 refine Ev.x N.S3 rfl rfl ?_;(repeat' (apply A7<;>conv=>whnf))
 exact BU rfl (Adv _ _)
def Wb (n:Bool) (m d:List Nat) (n':Bool) (m' d':List Nat) (w:Bool) (k:Nat):Prop:=Sm k m'/\Sm k d'/\val d'≠0/\(w=true->val d'=1)/\qv n m d=mkRat (zv n' m') (val d')
theorem Q3 (N:b7 L) (n:Bool) (m d:List Nat) (k:Nat) (hk:1<=k/\k<=549755813888) (hm:Sm k m) (hd:Sm k d) : ∃ n' m' d' w,Ev L 89 [.agg (rQ false false n m d)] (.agg [.bool n',.sl false (m'.map BG),.sl false (d'.map BG),.bool w])/\Wb n m d n' m' d' w k:=by
 have m5:=λ q q'=>WC N.toc6 d [] q q' hd.1 ZU (by have:=hd.2;omega) (by simp)
 rw[O8]at m5;by_cases h1:d=[1]
 ·subst h1
  refine ⟨n,m,[1],true,?_,hm,hd,by decide,λ_=>rfl,rfl⟩;refine Ev.x N.OZ rfl rfl ?_;have hd:[1][(0:Int).toNat]? = some 1:=rfl;have xq:([1]:List Nat).length=1:=rfl;(repeat' ((first|(apply BB<;>intro hc<;>try omega)|apply BR|(refine CT (by assumption) ?_ rfl ?_;omega)|apply A7)<;>conv=>whnf))
  exact BU rfl (cD _ _ _ _)
 have m7 : ∀ x,d[(0:Int).toNat]? = some x->(d.length:Int)=1->(x:Int)≠1:=λ x hx hl h=>by
  obtain ⟨y,rfl⟩:=List.length_eq_one_iff.1 (show d.length=1 by omega);simp at hx;apply h1;congr 1;omega
 by_cases h0:val d=0
 ·refine ⟨false,[],[1],true,?_,Lu _,qN hk.1 (by omega),by decide,λ_=>rfl,by unfold qv;rw[h0,Rat.mkRat_zero,Pq,Rat.zero_mkRat]⟩
  have hn:E4 (val d) (0:Nat)=0:=(YC (by omega)).symm;rw[hn]at m5;refine Ev.x N.OZ rfl rfl ?_;have hD:=hd.1;(repeat' ((first|(apply BB<;>intro hc<;>try omega)|apply BR|(refine W3 (by assumption) ?_ (λ e he hb => ?_);omega)|refine PC rfl ?_|apply A7|refine AY (m5 _ _) ?_)<;>conv=>whnf))
  all_goals first
   | exact BU rfl (cD _ _ _ _)
   | exact BU rfl (cD false true [] [1])
   | exact absurd (by assumption) (m7 _ he (by assumption))
 ·refine ⟨n,m,d,false,?_,hm,hd,h0,(λ h=>by cases h),rfl⟩
  have hn:E4 (val d) (0:Nat)=1:=(VC (by omega)).symm;rw[hn]at m5;have hD:=hd.1;refine Ev.x N.OZ rfl rfl ?_;(repeat' ((first|(apply BB<;>intro hc<;>try omega)|apply BR|(refine W3 (by assumption) ?_ (λ e he hb => ?_);omega)|apply A7|refine AY (m5 _ _) ?_)<;>conv=>whnf))
  all_goals first
   | exact BU rfl (cD _ _ _ _)
   | exact BU rfl (cD false true [] [1])
   | exact absurd (by assumption) (m7 _ he (by assumption))
theorem nO (N:b7 L) (n q1 q2:Bool) (m d:List Nat) (hm:Sm 549755813888 m) (hd:Sm 549755813888 d):Ev L 95 [.agg (rQ q1 q2 n m d)] (.agg (eQ (qv n m d))):=by
 obtain ⟨n',m',d',w,hr,s1,s2,s3,s4,s5⟩:=Q3 N n m d 549755813888 (by omega) hm hd;have hl:=λ q1 q2=>ZX N n' q1 q2 m' d' s1 s2 s3
 rw[s5];unfold qv at hl;refine Ev.x N.S0 rfl rfl ?_;(repeat' ((first|apply J7|apply A7|refine AY (hr) ?_|refine AY (hl _ _) ?_)<;>conv=>whnf))
 exact BU rfl (G7 _)
theorem Af1 (N:b7 L) (n q1 q2:Bool) (m d:List Nat) (hm:Sm 549755813888 m) (hd:Sm 549755813888 d):Ev L 97 [.agg (rQ q1 q2 n m d)] (.int .i64 (u6 (qv n m d).num)):=by
 obtain ⟨n',m',d',w,hr,s1,s2,s3,s4,s5⟩:=Q3 N n m d 549755813888 (by omega) hm hd;have hl:=λ q=>gR N n' q m' s1
 rw[s5,Nw s3];refine Ev.x N.SW rfl rfl ?_;(repeat' ((first|apply J7|apply A7|refine AY (hr) ?_|refine AY (hl _) ?_)<;>conv=>whnf))
 exact DY rfl
theorem kV (z:Int):AV.agg [.bool (decide (z<0)),.sl false ((dg z.natAbs).map BG),.sl false [[.int .u32 1]]] = .agg (eQ (z:Rat)):=by
 show _=AV.agg (rQ _ _ _ _ _);rw[Rat.num_intCast,Rat.den_intCast,mI];rfl
theorem Q2 (N:b7 L) (z:Int) (hz : -9223372036854775808<=z/\z<=9223372036854775807):Ev L 96 [.int .i64 z] (.agg (eQ (z:Rat))):=by
 have h1:=nB N z hz;refine Ev.x N.SV rfl rfl ?_;(repeat' ((first|apply A7|refine AY (h1) ?_)<;>conv=>whnf))
 refine FN 1000 N.NZ rfl rfl ?_;(repeat' (apply A7<;>conv=>whnf))
 refine ⟨rfl,?_⟩;(conv=>whnf)
 (repeat' (refine PC rfl ?_<;>conv=>whnf))
 exact BU (kV z) (G7 _)
theorem Y7 {k l:Nat} {n1 n2:Bool} {a b:List Nat} (ha:Sm k a) (hb:Sm l b):Sm (k+l) (dg (zv n1 a*zv n2 b).natAbs):=ha.mul hb (by rw[Int.natAbs_mul,HM,HM])
theorem Lw {k:Nat} {x y:Int} (ha:Sm k (dg x.natAbs)) (hb:Sm k (dg y.natAbs)):Sm (k+1) (dg (x+y).natAbs):=ha.add hb (by rw[CX,CX];omega)
theorem wV (N:b7 L) (k:Nat) (hk:1<=k/\k<=68719476736) (n1 n2 q1 q2 q3 q4:Bool) (m1 d1 m2 d2:List Nat) (lg:Sm k m1) (nt:Sm k d1) (je:Sm k m2) (rb:Sm k d2) :
  Ev L 98 [.agg (rQ q1 q2 n1 m1 d1),.agg (rQ q3 q4 n2 m2 d2)] (.agg (eQ (qv n1 m1 d1+qv n2 m2 d2))):=by
 obtain ⟨a1,a2,a3,w1,ek,s1,s2,s3,s4,s5⟩:=Q3 N n1 m1 d1 k (by omega) lg nt;obtain ⟨b1,b2,b3,w2,db,t1,t2,t3,t4,t5⟩:=Q3 N n2 m2 d2 k (by omega) je rb;rw[s5,t5];have hA:=λ q q'=>wD N a1 b1 q q' a2 b2 (s1.le (by omega)) (t1.le (by omega))
 have vf:Sm (k+1) (dg (zv a1 a2+zv b1 b2).natAbs):=Lw (by rw[HM];exact s1.wj) (by rw[HM];exact t1.wj);by_cases hw:w1=true/\w2=true
 ·obtain ⟨rfl,rfl⟩:=hw
  rw[s4 rfl,t4 rfl,zY (by omega),Nv];generalize zv a1 a2+zv b1 b2=z at *;refine Ev.x N.OY rfl rfl ?_;(repeat' ((first|apply J7|apply A7|refine AY (ek) ?_|refine AY (db) ?_|refine AY (hA _ _) ?_)<;>conv=>whnf))
  refine FN 1000 N.NZ rfl rfl ?_;(repeat' (apply A7<;>conv=>whnf))
  refine ⟨rfl,?_⟩;(conv=>whnf)
  (repeat' (refine PC rfl ?_<;>conv=>whnf))
  exact BU (kV z) (G7 _)
 ·have m5:=λ q q'=>WC N.toc6 a3 b3 q q' s2.1 t2.1 (by have:=s2.2;omega) (by have:=t2.2;omega)
  by_cases hde:val a3=val b3
  ·have hn:E4 (val a3) (val b3)=0:=(YC (by omega)).symm
   rw[hn]at m5;rw[<-hde,zY s3];generalize zv a1 a2+zv b1 b2=z at *;have hl:=λ q1 q2=>ZX N (decide (z<0)) q1 q2 (dg z.natAbs) a3 (vf.le (by omega)) (s2.le (by omega)) s3
   unfold qv at hl;rw[IG]at hl;refine Ev.x N.OY rfl rfl ?_;cases w1<;>cases w2
   ·(repeat' ((first|(apply BB<;>intro hc<;>try omega)|apply J7|apply A7|refine AY (ek) ?_|refine AY (db) ?_|refine AY (hA _ _) ?_|refine AY (m5 _ _) ?_|refine AY (hl _ _) ?_)<;>conv=>whnf))
    exact BU rfl (G7 _)
   ·(repeat' ((first|(apply BB<;>intro hc<;>try omega)|apply J7|apply A7|refine AY (ek) ?_|refine AY (db) ?_|refine AY (hA _ _) ?_|refine AY (m5 _ _) ?_|refine AY (hl _ _) ?_)<;>conv=>whnf))
    exact BU rfl (G7 _)
   ·(repeat' ((first|(apply BB<;>intro hc<;>try omega)|apply J7|apply A7|refine AY (ek) ?_|refine AY (db) ?_|refine AY (hA _ _) ?_|refine AY (m5 _ _) ?_|refine AY (hl _ _) ?_)<;>conv=>whnf))
    exact BU rfl (G7 _)
   ·exact absurd ⟨rfl,rfl⟩ hw
  ·have hn:E4 (val a3) (val b3)≠0:=by unfold E4;split<;>(try split)<;>omega
   generalize E4 (val a3) (val b3)=cm at *;have kj:=λ q q'=>YK N a1 false q q' a2 b3 s1.1 t2.1 (by have:=s1.2;have:=t2.2;omega)
   have qm:=λ q q'=>YK N b1 false q q' b2 a3 t1.1 s2.1 (by have:=t1.2;have:=s2.2;omega)
   have qo:=λ q q'=>nE N.toc6 a3 b3 q q' s2.1 t2.1 (by have:=s2.2;have:=t2.2;omega)
   have uw:=YL N a3;have ux:=YL N b3;have g1:Sm (k+k) (dg (zv a1 a2*zv false b3).natAbs):=Y7 s1 t2;have g2:Sm (k+k) (dg (zv b1 b2*zv false a3).natAbs):=Y7 t1 s2;have g3:=Lw g1 g2;have g4:Sm (k+k) (dg (val a3*val b3)):=s2.mul t2 rfl;rw[iF s3 t3,<-G1 b3,<-G1 a3];have Bb:val a3*val b3≠0:=Nat.mul_ne_zero s3 t3;generalize zv a1 a2*zv false b3=x at *;generalize zv b1 b2*zv false a3=y at *;generalize val a3*val b3=D at *;have Gk:=λ q q'=>wD N (decide (x<0)) (decide (y<0)) q q' (dg x.natAbs) (dg y.natAbs) (g1.le (by omega)) (g2.le (by omega))
   rw[IG,IG]at Gk;generalize x+y=z at *;have hl:=λ q1 q2=>ZX N (decide (z<0)) q1 q2 (dg z.natAbs) (dg D) (g3.le (by omega)) (g4.le (by omega)) (by rw[CX];exact Bb)
   unfold qv at hl;rw[IG,CX]at hl;refine Ev.x N.OY rfl rfl ?_;cases w1<;>cases w2
   ·(repeat' ((first|(apply BB<;>intro hc<;>try omega)|apply J7|apply WZ|apply A7|refine AY (ek) ?_|refine AY (db) ?_|refine AY (m5 _ _) ?_|refine AY (uw) ?_|refine AY (ux) ?_|refine AY (kj _ _) ?_|refine AY (qm _ _) ?_|refine AY (Gk _ _) ?_|refine AY (qo _ _) ?_|refine AY (hl _ _) ?_)<;>conv=>whnf))
    exact BU rfl (G7 _)
   ·(repeat' ((first|(apply BB<;>intro hc<;>try omega)|apply J7|apply WZ|apply A7|refine AY (ek) ?_|refine AY (db) ?_|refine AY (m5 _ _) ?_|refine AY (uw) ?_|refine AY (ux) ?_|refine AY (kj _ _) ?_|refine AY (qm _ _) ?_|refine AY (Gk _ _) ?_|refine AY (qo _ _) ?_|refine AY (hl _ _) ?_)<;>conv=>whnf))
    exact BU rfl (G7 _)
   ·(repeat' ((first|(apply BB<;>intro hc<;>try omega)|apply J7|apply WZ|apply A7|refine AY (ek) ?_|refine AY (db) ?_|refine AY (m5 _ _) ?_|refine AY (uw) ?_|refine AY (ux) ?_|refine AY (kj _ _) ?_|refine AY (qm _ _) ?_|refine AY (Gk _ _) ?_|refine AY (qo _ _) ?_|refine AY (hl _ _) ?_)<;>conv=>whnf))
    exact BU rfl (G7 _)
   ·exact absurd ⟨rfl,rfl⟩ hw
theorem Af0 (N:b7 L) (k:Nat) (hk:1<=k/\k<=68719476736) (n1 n2 q1 q2 q3 q4:Bool) (m1 d1 m2 d2:List Nat) (lg:Sm k m1) (nt:Sm k d1) (je:Sm k m2) (rb:Sm k d2) :
  Ev L 99 [.agg (rQ q1 q2 n1 m1 d1),.agg (rQ q3 q4 n2 m2 d2)] (.agg (eQ (qv n1 m1 d1*qv n2 m2 d2))):=by
 obtain ⟨a1,a2,a3,w1,ek,s1,s2,s3,s4,s5⟩:=Q3 N n1 m1 d1 k (by omega) lg nt;obtain ⟨b1,b2,b3,w2,db,t1,t2,t3,t4,t5⟩:=Q3 N n2 m2 d2 k (by omega) je rb;rw[s5,t5,pH];have kj:=λ q q'=>YK N a1 b1 q q' a2 b2 s1.1 t1.1 (by have:=s1.2;have:=t1.2;omega)
 have qo:=λ q q'=>nE N.toc6 a3 b3 q q' s2.1 t2.1 (by have:=s2.2;have:=t2.2;omega)
 have g1:Sm (k+k) (dg (zv a1 a2*zv b1 b2).natAbs):=Y7 s1 t1;have g4:Sm (k+k) (dg (val a3*val b3)):=s2.mul t2 rfl;have Bb:val a3*val b3≠0:=Nat.mul_ne_zero s3 t3;generalize zv a1 a2*zv b1 b2=z at *;by_cases hw:w1=true/\w2=true
 ·obtain ⟨rfl,rfl⟩:=hw
  rw[s4 rfl,t4 rfl,Nat.one_mul,Nv];refine Ev.x N.PZ rfl rfl ?_;(repeat' ((first|apply J7|apply A7|refine AY (ek) ?_|refine AY (db) ?_|refine AY (kj _ _) ?_)<;>conv=>whnf))
  refine FN 1000 N.NZ rfl rfl ?_;(repeat' (apply A7<;>conv=>whnf))
  refine ⟨rfl,?_⟩;(conv=>whnf)
  (repeat' (refine PC rfl ?_<;>conv=>whnf))
  exact BU (kV z) (G7 _)
 ·generalize val a3*val b3=D at *
  have hl:=λ q1 q2=>ZX N (decide (z<0)) q1 q2 (dg z.natAbs) (dg D) (g1.le (by omega)) (g4.le (by omega)) (by rw[CX];exact Bb)
  unfold qv at hl;rw[IG,CX]at hl;refine Ev.x N.PZ rfl rfl ?_;cases w1<;>cases w2
  ·(repeat' ((first|apply J7|apply A7|refine AY (ek) ?_|refine AY (db) ?_|refine AY (kj _ _) ?_|refine AY (qo _ _) ?_|refine AY (hl _ _) ?_)<;>conv=>whnf))
   exact BU rfl (G7 _)
  ·(repeat' ((first|apply J7|apply A7|refine AY (ek) ?_|refine AY (db) ?_|refine AY (kj _ _) ?_|refine AY (qo _ _) ?_|refine AY (hl _ _) ?_)<;>conv=>whnf))
   exact BU rfl (G7 _)
  ·(repeat' ((first|apply J7|apply A7|refine AY (ek) ?_|refine AY (db) ?_|refine AY (kj _ _) ?_|refine AY (qo _ _) ?_|refine AY (hl _ _) ?_)<;>conv=>whnf))
   exact BU rfl (G7 _)
  ·exact absurd ⟨rfl,rfl⟩ hw
theorem Adw (x:Rat) (e:Int):B4 (.g8 [.agg (eQ x),.int .i64 e]):=by
 simp only[B4,DN,and_true,true_and];exact ⟨EI _,EI _⟩
theorem AfZ (N:b7 L) (k:Nat) (hk:1<=k/\k<=68719476736) (n1 n2 q1 q2 q3 q4:Bool) (m1 d1 m2 d2:List Nat) (lg:Sm k m1) (nt:Sm k d1) (je:Sm k m2) (rb:Sm k d2) (h0:qv n2 m2 d2≠0) :
  Ev L 100 [.agg (rQ q1 q2 n1 m1 d1),.agg (rQ q3 q4 n2 m2 d2)] (.g8 [.agg (eQ (qv n1 m1 d1/qv n2 m2 d2)),.int .i64 0]):=by
 obtain ⟨a1,a2,a3,w1,ek,s1,s2,s3,s4,s5⟩:=Q3 N n1 m1 d1 k (by omega) lg nt;obtain ⟨b1,b2,b3,w2,db,t1,t2,t3,t4,t5⟩:=Q3 N n2 m2 d2 k (by omega) je rb;rw[t5]at h0;rw[s5,t5];have Cq:zv b1 b2≠0:=λ h=>h0 ((pI t3).2 h)
 rw[AhC s3 t3 Cq];have hS:=λ q=>gR N b1 q b2 (t1.le (by omega))
 have Hf:u6 (zv b1 b2)≠0:=by unfold u6;split<;>(try split)<;>omega
 have kj:=λ q q'=>YK N a1 false q q' a2 b3 s1.1 t2.1 (by have:=s1.2;have:=t2.2;omega)
 have qm:=λ q q'=>YK N false b1 q q' a3 b2 s2.1 t1.1 (by have:=t1.2;have:=s2.2;omega)
 have uw:=YL N a3;have ux:=YL N b3;have g1:Sm (k+k) (dg (zv a1 a2*zv false b3).natAbs):=Y7 s1 t2;have g2:Sm (k+k) (dg (zv false a3*zv b1 b2).natAbs):=Y7 s2 t1;have hd:(zv false a3*zv b1 b2).natAbs=val a3*(zv b1 b2).natAbs:=by rw[Int.natAbs_mul,HM]
 have Bc:(zv false a3*zv b1 b2).sign=(zv b1 b2).sign:=by
  rw[Int.sign_mul,G1,Int.sign_eq_one_of_pos (by omega),Int.one_mul]
 have pc:zv false a3*zv b1 b2≠0:=by
  intro h;rw[h]at Bc;exact Cq (by simpa using Bc.symm)
 rw[<-hd,<-Bc,<-G1 b3];generalize zv a1 a2*zv false b3=x at *;generalize zv false a3*zv b1 b2=y at *;generalize u6 (zv b1 b2)=sg at *;have hl:=λ q1 q2=>ZX N (decide (x<0) != decide (y<0)) q1 q2 (dg x.natAbs) (dg y.natAbs) (g1.le (by omega)) (g2.le (by omega)) (by rw[CX];omega)
 unfold qv at hl;rw[Pr pc,CX]at hl;refine Ev.x N.SR rfl rfl ?_;(repeat' ((first|(apply BB<;>intro hc<;>try omega)|apply J7|apply WZ|apply A7|refine AY (ek) ?_|refine AY (db) ?_|refine AY (hS _) ?_|refine AY (uw) ?_|refine AY (ux) ?_|refine AY (kj _ _) ?_|refine AY (qm _ _) ?_)<;>conv=>whnf))
 refine FN 1000 N.P0 rfl rfl ?_;(repeat' (apply A7<;>conv=>whnf))
 generalize decide (x<0)=p at *;generalize decide (y<0)=r at *;cases p<;>cases r;all_goals
  (conv=>whnf)
  refine ⟨rfl,?_⟩;(conv=>whnf)
  (repeat' (refine AY (hl _ _) ?_<;>conv=>whnf))
  exact BU rfl (Adw _ _)
def aI (v:Int):Rat:=Rat.divInt (v%25-12) (1+v/25%8)
def S6 (l:List Int) (n:Nat):List Rat:=(List.range n).map λ i:Nat=>aI (HT (J9 l (i:Int)) 2000)
theorem qA (l:List Int) (n:Nat):(S6 l n).length=n:=by simp [S6]
theorem Ail (l:List Int) (n:Nat):S6 l (n+1)=S6 l n++[aI (HT (J9 l (n:Int)) 2000)]:=by simp [S6,List.range_succ]
theorem Aij {v:Int} (h:0<=v):Bt 4 (aI v):=by
 unfold aI;obtain ⟨d,hd⟩:=Int.eq_ofNat_of_zero_le (show 0<=1+v/25%8 by omega);rw[hd,Rat.divInt_ofNat];refine Bt.mk ?_ ?_
 ·show _<=16;omega
 ·show _<=16;omega
theorem Aik (l:List Int) (n:Nat):Bs 4 (S6 l n):=by
 intro x hx;simp only[S6,List.mem_map]at hx;obtain ⟨i,_,rfl⟩:=hx;refine Aij ?_;unfold HT;split<;>omega
def qG (X:List Rat) (n j:Nat):List Rat:=(X.take (j*n+n)).drop (j*n)
def Mv (X:List Rat) (n i:Nat):List (List Rat):=(List.range i).map (qG X n)
theorem Bt.sm {k:Nat} {x:Rat} (h:Bt k x) (hk:k<2199023255552):Sm 68719476736 (dg x.num.natAbs)/\Sm 68719476736 (dg x.den):=h.Rc (by omega)
theorem mU (N:b7 L) {x y:Rat} {k l:Nat} (hx:Bt k x) (hy:Bt l y) (hk:k<2199023255552) (hl:l<2199023255552):Ev L 98 [.agg (eQ x),.agg (eQ y)] (.agg (eQ (x+y))):=by
 have:=wV N 68719476736 (by omega) (decide (x.num<0)) (decide (y.num<0)) false false false false _ _ _ _ (hx.sm hk).1 (hx.sm hk).2 (hy.sm hl).1 (hy.sm hl).2
 rw[IV,IV]at this;exact this
theorem nC (N:b7 L) {x y:Rat} {k l:Nat} (hx:Bt k x) (hy:Bt l y) (hk:k<2199023255552) (hl:l<2199023255552):Ev L 99 [.agg (eQ x),.agg (eQ y)] (.agg (eQ (x*y))):=by
 have:=Af0 N 68719476736 (by omega) (decide (x.num<0)) (decide (y.num<0)) false false false false _ _ _ _ (hx.sm hk).1 (hx.sm hk).2 (hy.sm hl).1 (hy.sm hl).2
 rw[IV,IV]at this;exact this
theorem Afn (N:b7 L) {x y:Rat} {k l:Nat} (hx:Bt k x) (hy:Bt l y) (hk:k<2199023255552) (hl:l<2199023255552) (h0:y≠0):Ev L 100 [.agg (eQ x),.agg (eQ y)] (.g8 [.agg (eQ (x/y)),.int .i64 0]):=by
 have:=AfZ N 68719476736 (by omega) (decide (x.num<0)) (decide (y.num<0)) false false false false _ _ _ _ (hx.sm hk).1 (hx.sm hk).2 (hy.sm hl).1 (hy.sm hl).2 (by rw[IV];exact h0)
 rw[IV,IV]at this;exact this
theorem cU (N:b7 L) {x:Rat} {k:Nat} (hx:Bt k x) (hk:k<2199023255552):Ev L 95 [.agg (eQ x)] (.agg (eQ x)):=by
 have:=nO N (decide (x.num<0)) false false _ _ ((hx.sm hk).1.le (by omega)) ((hx.sm hk).2.le (by omega))
 rw[IV]at this;exact this
theorem cT (N:b7 L) {x:Rat} {k:Nat} (hx:Bt k x) (hk:k<2199023255552):Ev L 97 [.agg (eQ x)] (.int .i64 (u6 x.num)):=by
 have:=Af1 N (decide (x.num<0)) false false _ _ ((hx.sm hk).1.le (by omega)) ((hx.sm hk).2.le (by omega))
 rw[IV]at this;exact this
theorem jF {x:Rat}:u6 x.num=0↔x=0:=by
 rw[<-Rat.num_eq_zero];unfold u6;split
 ·omega
 ·split<;>omega
theorem Ml (n:Bool) (m d:List Nat):qv (!n) m d = -(qv n m d):=by
 unfold qv;have h:zv (!n) m = -(zv n m):=by cases n<;>simp [zv]
 rw[h,Rat.neg_mkRat]
theorem Zo (n:Bool) (m d:List Nat):B4 (.agg (rQ false false n m d)):=by
 simp only[B4,DN,and_true,true_and];exact ⟨EI _,EI _⟩
theorem wC (N:af L) (n:Bool) (m d:List Nat):Ev L 149 [.agg (rQ false false n m d)] (.agg (rQ false false (!n) m d)):=by
 refine Ev.x N.S1 rfl rfl ?_;cases n;all_goals
  (repeat' (apply A7<;>conv=>whnf))
  exact BU rfl (Zo _ _ _)
theorem Af9 (N:af L) {x y:Rat} {k l:Nat} (hx:Bt k x) (hy:Bt l y) (hk:k<2199023255552) (hl:l<2199023255552):Ev L 150 [.agg (eQ x),.agg (eQ y)] (.agg (eQ (x-y))):=by
 have hF:=wC N (decide (y.num<0)) (dg y.num.natAbs) (dg y.den);have hA:=λ q3 q4=>wV N.tob7 68719476736 (by omega) (decide (x.num<0)) (!decide (y.num<0)) false false q3 q4 _ _ _ _ (hx.sm hk).1 (hx.sm hk).2 (hy.sm hl).1 (hy.sm hl).2
 rw[Ml,IV,IV,<-Rat.sub_eq_add_neg]at hA;refine Ev.x N.SZ rfl rfl ?_;(repeat' ((first|apply sG|apply A7|refine AY (hF) ?_|refine AY (hA _ _) ?_)<;>conv=>whnf))
 exact BU rfl (G7 _)
theorem AhD {x y:Int} (h:y≠0):mkRat (y.sign*x) y.natAbs=Rat.divInt x y:=by
 obtain ⟨d,hd|hd⟩:=Int.eq_nat_or_neg y
 ·subst hd
  rw[Int.sign_eq_one_of_pos (by omega),Int.one_mul,Int.natAbs_natCast,Rat.divInt_ofNat]
 ·subst hd
  rw[Int.sign_eq_neg_one_of_neg (by omega),Int.natAbs_neg,Int.natAbs_natCast,Rat.divInt_neg',Rat.divInt_ofNat,Int.neg_one_mul]
theorem Afd (N:af L) (x y:Int) (hx : -9223372036854775808<=x/\x<=9223372036854775807) (hy : -9223372036854775808<=y/\y<=9223372036854775807) (h0:y≠0):Ev L 151 [.int .i64 x,.int .i64 y] (.agg (eQ (Rat.divInt x y))):=by
 have h1:=nB N.tob7 x hx;have h2:=nB N.tob7 y hy;have g1:Sm 2 (dg x.natAbs):=Sm.dg (by omega);have g2:Sm 2 (dg y.natAbs):=Sm.dg (by omega);have hl:=λ q1 q2=>ZX N.tob7 (decide (x<0) != decide (y<0)) q1 q2 (dg x.natAbs) (dg y.natAbs) (g1.le (by omega)) (g2.le (by omega)) (by rw[CX];omega)
 unfold qv at hl;rw[Pr h0,CX,AhD h0]at hl;refine Ev.x N.ST rfl rfl ?_;(repeat' ((first|(apply BB<;>intro hc<;>try omega)|apply A7|refine AY (h1) ?_|refine AY (h2) ?_)<;>conv=>whnf))
 refine FN 1000 N.P0 rfl rfl ?_;(repeat' (apply A7<;>conv=>whnf))
 generalize decide (x<0)=p at *;generalize decide (y<0)=r at *;cases p<;>cases r;all_goals
  (conv=>whnf)
  refine ⟨rfl,?_⟩;(conv=>whnf)
  (repeat' (refine AY (hl _ _) ?_<;>conv=>whnf))
  exact BU rfl (G7 _)
theorem xZ {l:List Rat} {i:Nat} {x:Rat} (h:l[i]? = some x):l.getD i 0=x:=by rw[List.getD_eq_getElem?_getD,h];rfl
theorem Agr {l:List Rat} {i:Nat} (h:l.length<=i):l.getD i 0=0:=by rw[List.getD_eq_getElem?_getD,List.getElem?_eq_none h];rfl
theorem VI {l:List Rat} {k:Nat} (h:Bs k l) (i:Nat):Bt k (l.getD i 0):=by
 rw[List.getD_eq_getElem?_getD];cases e:l[i]? with
 | none=>exact Bt.zero k
 | some x=>exact h.at e
theorem Nq (z:Int):u6 z = -1/\z<0\/u6 z=0/\z=0\/u6 z=1/\0<z:=by
 unfold u6;split
 ·exact Or.inl ⟨rfl,by omega⟩
 ·split
  ·exact Or.inr (Or.inr ⟨rfl,by omega⟩)
  ·exact Or.inr (Or.inl ⟨rfl,by omega⟩)
theorem Zu {a b:Nat} {z:Int} (h:z=(a:Int)-b):E4 a b=u6 z:=by
 unfold E4 u6;subst h;repeat' split
 all_goals omega
theorem wE (N:v5 L) (n1 n2 q1 q2:Bool) (a b:List Nat) (ha:Sm 549755813888 a) (hb:Sm 549755813888 b):Ev L 197 [.agg (rZ q1 n1 a),.agg (rZ q2 n2 b)] (.int .i64 (u6 (zv n1 a-zv n2 b))):=by
 have h1:=λ q=>gR N.tob7 n1 q a ha
 have h2:=λ q=>gR N.tob7 n2 q b hb
 have h3:=λ q q'=>WC N.toc6 a b q q' ha.1 hb.1 (by have:=ha.2;omega) (by have:=hb.2;omega)
 have h4:=λ q q'=>WC N.toc6 b a q q' hb.1 ha.1 (by have:=hb.2;omega) (by have:=ha.2;omega)
 have za:=HM n1 a;have zb:=HM n2 b;generalize zv n1 a=x at *;generalize zv n2 b=y at *;rcases Nq x with ⟨e1,g1⟩|⟨e1,g1⟩|⟨e1,g1⟩<;>rcases Nq y with ⟨e2,g2⟩|⟨e2,g2⟩|⟨e2,g2⟩
 all_goals
  rw[e1]at h1;rw[e2]at h2;refine Ev.x N.RH rfl rfl ?_;(repeat' ((first|(apply BB<;>intro hc<;>try omega)|apply A7|refine AY (h1 _) ?_|refine AY (h2 _) ?_|refine AY (h3 _ _) ?_|refine AY (h4 _ _) ?_)<;>conv=>whnf))
  first
   | exact DY (jE (by omega))
   | exact DY (qL (by omega))
   | exact DY (Zu (by omega))
theorem AfY (N:v5 L) (k:Nat) (hk:1<=k/\k<=68719476736) (n1 n2:Bool) (m1 d1 m2 d2:List Nat) (lg:Sm k m1) (nt:Sm k d1) (je:Sm k m2) (rb:Sm k d2) :
  Ev L 198 [.agg (rQ false false n1 m1 d1),.agg (rQ false false n2 m2 d2)] (.int .i64 (u6 (qv n1 m1 d1-qv n2 m2 d2).num)):=by
 obtain ⟨a1,a2,a3,w1,ek,s1,s2,s3,s4,s5⟩:=Q3 N.tob7 n1 m1 d1 k (by omega) lg nt;obtain ⟨b1,b2,b3,w2,db,t1,t2,t3,t4,t5⟩:=Q3 N.tob7 n2 m2 d2 k (by omega) je rb;rw[s5,t5,<-zZ s3 t3];by_cases hw:w1=true/\w2=true
 ·obtain ⟨rfl,rfl⟩:=hw
  have hC:=λ q q'=>wE N a1 b1 q q' a2 b2 (s1.le (by omega)) (t1.le (by omega))
  rw[s4 rfl,t4 rfl];rw[show zv a1 a2*((1:Nat):Int)-zv b1 b2*((1:Nat):Int)=zv a1 a2-zv b1 b2 by omega];refine Ev.x N.PY rfl rfl ?_;(repeat' ((first|apply J7|apply A7|refine AY (ek) ?_|refine AY (db) ?_|refine AY (hC _ _) ?_)<;>conv=>whnf))
  exact DY rfl
 ·have kj:=λ q q'=>YK N.tob7 a1 false q q' a2 b3 s1.1 t2.1 (by have:=s1.2;have:=t2.2;omega)
  have qm:=λ q q'=>YK N.tob7 b1 false q q' b2 a3 t1.1 s2.1 (by have:=t1.2;have:=s2.2;omega)
  have uw:=YL N.tob7 a3;have ux:=YL N.tob7 b3;have g1:Sm (k+k) (dg (zv a1 a2*zv false b3).natAbs):=Y7 s1 t2;have g2:Sm (k+k) (dg (zv b1 b2*zv false a3).natAbs):=Y7 t1 s2;have hC:=λ q q'=>wE N (decide (zv a1 a2*zv false b3<0)) (decide (zv b1 b2*zv false a3<0)) q q' _ _ (g1.le (by omega)) (g2.le (by omega))
  rw[IG,IG]at hC;rw[<-G1 b3,<-G1 a3];generalize zv a1 a2*zv false b3=x at *;generalize zv b1 b2*zv false a3=y at *;refine Ev.x N.PY rfl rfl ?_;cases w1<;>cases w2
  ·(repeat' ((first|apply J7|apply WZ|apply A7|refine AY (ek) ?_|refine AY (db) ?_|refine AY (uw) ?_|refine AY (ux) ?_|refine AY (kj _ _) ?_|refine AY (qm _ _) ?_|refine AY (hC _ _) ?_)<;>conv=>whnf))
   exact DY rfl
  ·(repeat' ((first|apply J7|apply WZ|apply A7|refine AY (ek) ?_|refine AY (db) ?_|refine AY (uw) ?_|refine AY (ux) ?_|refine AY (kj _ _) ?_|refine AY (qm _ _) ?_|refine AY (hC _ _) ?_)<;>conv=>whnf))
   exact DY rfl
  ·(repeat' ((first|apply J7|apply WZ|apply A7|refine AY (ek) ?_|refine AY (db) ?_|refine AY (uw) ?_|refine AY (ux) ?_|refine AY (kj _ _) ?_|refine AY (qm _ _) ?_|refine AY (hC _ _) ?_)<;>conv=>whnf))
   exact DY rfl
  ·exact absurd ⟨rfl,rfl⟩ hw
theorem Afm (N:v5 L) {x y:Rat} {k l:Nat} (hx:Bt k x) (hy:Bt l y) (hk:k<2199023255552) (hl:l<2199023255552):Ev L 198 [.agg (eQ x),.agg (eQ y)] (.int .i64 (u6 (x-y).num)):=by
 have:=AfY N 68719476736 (by omega) (decide (x.num<0)) (decide (y.num<0)) _ _ _ _ (hx.sm hk).1 (hx.sm hk).2 (hy.sm hl).1 (hy.sm hl).2
 rw[IV,IV]at this;exact this
theorem AfG (N:v5 L) {x:Rat} {k:Nat} (hx:Bt k x) (hk:k<2199023255552):Ev L 199 [.agg (eQ x)] (.agg (eQ (-x))):=by
 have hF:=wC N.toaf (decide (x.num<0)) (dg x.num.natAbs) (dg x.den);have hT:=λ q1 q2=>nO N.tob7 (!decide (x.num<0)) q1 q2 _ _ ((hx.sm hk).1.le (by omega)) ((hx.sm hk).2.le (by omega))
 rw[Ml,IV]at hT;refine Ev.x N.SU rfl rfl ?_;(repeat' ((first|apply sG|apply A7|refine AY (hF) ?_|refine AY (hT _ _) ?_)<;>conv=>whnf))
 exact BU rfl (G7 _)
theorem wN (N:v5 L) (q:Bool) (l:List Rat) (k:Nat) (hl:Bs k l) (hk:k<2199023255552) (hn:l.length<=1000000):Ev L 200 [.sl q (l.map eQ)] (.int .i64 ((OB l l.length:Int)-1)):=by
 refine Ev.x N.SL rfl rfl ?_;(repeat' (apply A7<;>conv=>whnf))
 refine OO 1000 N.SM rfl rfl ?_;(repeat' ((first|apply BR|apply A7)<;>conv=>whnf))
 refine HC (λ n=>n) (λ(n:Nat)=>n<=l.length/\OB l l.length=OB l n) (λ n=>[(3,.int .i64 n)]) (λ_=>[]) l.length ⟨Nat.le_refl _,rfl⟩ ?_;intro n ⟨p1,p2⟩ ih;have done : ∀ {n:Nat},OB l l.length=n->VW l=l.take n:=λ h=>by rw[VW,h]
 by_cases hz:n=0\/(∃ m x,n=m+1/\l[m]? = some x/\x≠0)
 ·have Ep:OB l l.length=n:=by
   rw[p2];rcases hz with rfl|⟨m,x,rfl,h1,h2⟩
   ·rfl
   ·rw[OB,if_neg]
    rw[List.getD_eq_getElem?_getD,h1];exact h2
  have htq:=done Ep;have wh:(l.take n).length=n:=by rw[List.length_take];omega
  clear ih Ep p2 done;rcases hz with h0|⟨m,x,hnm,h1,h2⟩
  case' inl=>(repeat' ((first|(apply BB<;>intro hc<;>try omega)|apply A7)<;>conv=>whnf))
  case' inr =>
   have As:l[((n:Int)-1).toNat]? = some x:=by rw[show ((n:Int)-1).toNat=m by omega];exact h1
   have Ej:=cT N.tob7 (hl.at h1) (by omega);have hs:=jF (x:=x);generalize u6 x.num=s at *;have hS : ∀ v,l[((n:Int)-1).toNat]? = some v->Ev L 97 [.agg (eQ v)] (.int .i64 s):=λ v h=>by
    obtain rfl:=Option.some.inj (As.symm.trans h);exact Ej
   have Ku:s≠0:=λ h=>h2 (hs.1 h)
   (repeat' ((first|(apply BB<;>intro hc<;>try omega)|(apply DC;omega)|(refine CT (by assumption) ?_ rfl ?_;omega)|apply A7|refine AY (Ej) ?_)<;>conv=>whnf))
  all_goals
   refine X3 (enc:=eQ) (λ_=>rfl) p1 ?_;(conv=>whnf)
   skip
   refine ⟨rfl,_,rfl,?_⟩;(conv=>whnf)
   (repeat' ((first|(apply DC;omega)|apply BR)<;>conv=>whnf))
   have Er:OB l l.length=n:=by rw[<-Qv,htq,wh]
   rw[Er];exact DY (by rw[wh])
 ·obtain ⟨m,rfl⟩ : ∃ m,n=m+1:=⟨n-1,by omega⟩
  obtain ⟨x,hx⟩ : ∃ x,l[m]? = some x:=⟨_,zE (by omega)⟩;have rl:x=0:=by
   rcases Classical.em (x=0) with h|h
   ·exact h
   ·exact (hz (Or.inr ⟨m,x,rfl,hx,h⟩)).elim
  have Hk:l[((m+1:Nat)-1:Int).toNat]? = some x:=by rw[show ((m+1:Nat)-1:Int).toNat=m by omega];exact hx
  have Ej:=cT N.tob7 (hl.at hx) (by omega);have hs:=jF (x:=x);generalize u6 x.num=s at *;have hS : ∀ v,l[((m+1:Nat)-1:Int).toNat]? = some v->Ev L 97 [.agg (eQ v)] (.int .i64 s):=λ v h=>by
   obtain rfl:=Option.some.inj (Hk.symm.trans h);exact Ej
  have Ku:=hs.2 rl;(repeat' ((first|(apply BB<;>intro hc<;>try omega)|(apply DC;omega)|(refine CT (by assumption) ?_ rfl ?_;omega)|apply A7|refine AY (Ej) ?_)<;>conv=>whnf))
  rw[show ((m+1:Nat):Int)-1=(m:Int) by omega];exact D0 [] (ih m (by omega) ⟨by omega,by rw[p2,OB,if_pos (by rw[List.getD_eq_getElem?_getD,hx];exact rl)]⟩)
end Go.e6
namespace Go.e6
open F
attribute [local irreducible] AH A8 BT A5 EW BJ CS CR EU DK EE II C8 B5 DB FG AP CG BF pw HE FL HO HG HN G2 G5 DG FF
variable {L:Lib} (n:Nt)
set_option maxHeartbeats 1000000
end Go.e6

namespace Go.e6
open F
attribute [local irreducible] AH A8 BT A5 EW BJ CS CR EU DK EE II C8 B5 DB FG AP CG BF pw HE FL HO HG HN G2 G5 DG FF
variable {L:Lib}
set_option maxHeartbeats 8000000
def H3 (n:Nt):List (List (Int × Int)):=n.nodes.map Nd.ts
def DZ (n:Nt) (src ex:Int):List Rat:=IP ((pw n.c.f:Int):Rat) ex 0 (F4 (1+n.s).toNat src) (H3 n)
theorem Oh {c:Wd} {s:Int} : ∀ {l:List Nd} {k j:Nat} {nd:Nd},PW c s k l=true->l[j]? = some nd->nd.ts.all (VV c s (k+j))=true
 | [],_,_,_,_,h=>by simp at h
 | e::l,k,0,nd,hb,h=>by
  simp only[List.getElem?_cons_zero,Option.some.injEq]at h;subst h;simp only[PW,Bool.and_eq_true]at hb;exact hb.1.2
 | e::l,k,j+1,nd,hb,h=>by
  simp only[List.getElem?_cons_succ]at h;simp only[PW,Bool.and_eq_true]at hb;rw[show k+(j+1)=k+1+j by omega];exact Oh hb.2 h
theorem rN (m p:Nat):(List.replicate m (0:Rat)).set p 1=F4 m p:=by
 refine List.ext_getElem? λ j => ?_
 simp only[F4,List.getElem?_set,List.getElem?_map,List.getElem?_replicate,List.length_replicate];by_cases h:j<m
 ·rw[List.getElem?_range h]
  by_cases e:p=j
  ·subst e;simp [h]
  ·simp [h,e];intro h3;omega
 ·rw[List.getElem?_eq_none (by simpa using h)]
  simp [h];intro e;omega
theorem Bs.unit (k m:Nat) (p:Int):Bs k (F4 m p):=by
 intro x hx;simp only[F4,List.mem_map]at hx;obtain ⟨a,_,rfl⟩:=hx;split
 ·exact Bt.one k
 ·exact Bt.zero k
theorem xF (N:ax L) (m:Nat) (hm:m<=65536):PO L 131 [.int .i64 (m:Int)] 3 ((List.replicate m (0:Rat)).map eQ):=by
 have hO:=Q2 N.tob7 0 (by omega);refine PO.x N.SH rfl rfl ?_;(repeat' (apply A7<;>conv=>whnf))
 refine NQ (enc:=eO) none m rfl rfl (by omega) ?_;(conv=>whnf)
 skip
 refine QV (λ i=>m-i) (λ(i:Nat)=>i<=m) (λ i=>[(9,.int .i64 i)]) (λ i=>[(131006,131006,.rw 3 ((Q6 (List.replicate i 0) m).map eO))]) [] [] 0 (by first|exact (by (conv=>whnf);exact ⟨rfl,rfl,rfl⟩)|(rw[<-xQ];exact (by (conv=>whnf);exact ⟨rfl,rfl,rfl⟩))) (by omega) ?_;intro i p1 ih;by_cases hi:i<m
 ·have hl:=xP (l:=List.replicate i (0:Rat)) (m:=m) (by simp;omega)
  have hs:=xR (l:=List.replicate i (0:Rat)) (m:=m) (x:=0) (by simp;omega);rw[List.length_replicate]at hs;(repeat' ((first|(apply BB<;>intro hc<;>try omega)|(apply B7;omega)|apply A7|refine AY (hO) ?_)<;>conv=>whnf))
  refine W5 (enc:=eO) (some 0) rfl (λ e=>by cases e<;>rfl) (by omega) ?_;(conv=>whnf)
  (repeat' ((first|(apply BS;omega)|fail)<;>conv=>whnf))
  rw[hs];rw[show List.replicate i (0:Rat)++[0]=List.replicate (i+1) 0 by rw[List.replicate_succ']];exact D0 [] (ih (i+1) (by omega) (by omega))
 obtain rfl:i=m:=by omega
 clear ih;rw[xO (by simp)];(repeat' ((first|(apply BB<;>intro hc<;>try omega)|apply A7)<;>conv=>whnf))
 exact ⟨rfl,rfl,by simp,rfl,YA _⟩
theorem Af8 (N:y8 L) (n:Nt) (src ex:Int) (hv:XL n=true) (cp:bM (H3 n)) (nc:n.nodes.length<=4) (hs : -1<=src/\src<=n.s) (hex:JR ex):Ev L 144 [.agg (HJ n),.int .i64 src,.int .i64 ex] (.sl false ((DZ n src ex).map eQ)):=by
 rw[WL]at hv;obtain ⟨h1,h2,h3,h4,h5,h6⟩:=hv;have hwf:0<=n.c.f/\n.c.f<=62:=by unfold WV at h2;omega
 have hP:=Q2 N.tob7 (pw n.c.f) (by have:=PX n.c.f;have:=pV hwf.2;omega);have hO:=Q2 N.tob7 0 (by omega);have hI:=Q2 N.tob7 1 (by omega);refine Ev.x N.SE rfl rfl ?_;(repeat' ((first|(apply BS;omega)|apply A7)<;>conv=>whnf))
 obtain ⟨m,hm⟩ : ∃ m:Nat,1+n.s=m:=⟨_,(Int.toNat_of_nonneg (by omega)).symm⟩;rw[hm];have hZ:=xF N.toax m (by omega);refine OP (enc:=eQ) m hZ (by simp) ?_;(conv=>whnf)
 have Df:=PX n.c.f;have sv:(pw n.c.f).natAbs<=2^24:=by
  have hf:n.c.f<24:=by unfold WV at h2;omega
  have h9:(2:Nat)^n.c.f.toNat<=2^24:=Nat.pow_le_pow_right (by omega) (by omega);rw[pw];exact_mod_cast h9
 have La:((pw n.c.f:Int):Rat)≠0:=by
  intro e;have:pw n.c.f=0:=by exact_mod_cast e
  omega
 have l8:(H3 n).length=n.nodes.length:=by simp [H3]
 have Ga : ∀ j,j<=n.nodes.length->Bs 23400 (IP ((pw n.c.f:Int):Rat) ex 0 (F4 m src) ((H3 n).take j)):=by
  intro j hj;have h:=nT (ex:=ex) Df sv ((H3 n).take j) 0 (F4 m src) ⟨λ ts h=>cp.len ts (List.mem_of_mem_take h),λ ts h=>cp.cf ts (List.mem_of_mem_take h)⟩ (Bs.unit _ _ _);have e:0+((H3 n).take j).length=j:=by rw[List.length_take,l8];omega
  rw[e]at h;intro x hx;refine (h x hx).le ?_;rcases j with _|_|_|_|_|j
  ·decide
  ·decide
  ·decide
  ·decide
  ·decide
  ·omega
 have nj : ∀ j,j<=n.nodes.length->(IP ((pw n.c.f:Int):Rat) ex 0 (F4 m src) ((H3 n).take j)).length=m+j:=by
  intro j hj;rw[nU,aT,List.length_take,l8];omega
 have m9:=Agf ((pw n.c.f:Int):Rat) ex (F4 m src) (H3 n);have jq:DZ n src ex=IP ((pw n.c.f:Int):Rat) ex 0 (F4 m src) ((H3 n).take n.nodes.length):=by
  rw[DZ,hm,Int.toNat_natCast,<-l8,List.take_length]
 rw[jq];clear jq;(repeat' ((first|(apply BB<;>intro hc<;>try omega)|(refine JN ?_ (λ_ _ => ?_);omega))<;>conv=>whnf))
 obtain ⟨p,rfl⟩ : ∃ p:Nat,src=p:=⟨_,(Int.toNat_of_nonneg (by omega)).symm⟩;(repeat' ((first|(apply B7;omega)|refine AY (hI) ?_)<;>conv=>whnf))
 refine bV (enc:=eQ) p 1 (by omega) rfl (λ_=>rfl) (by simp;omega) ?_;(conv=>whnf)
 rw[rN];rotate_left
 obtain rfl:src = -1:=by omega
 rw[<-Ajh];all_goals
  (repeat' ((first|(refine JN ?_ (λ_ _ => ?_);omega)|apply BR|refine AY (hP) ?_)<;>conv=>whnf))
  generalize F4 m _=w at *;refine HC (λ j=>n.nodes.length-j) (λ(j:Nat)=>j<=n.nodes.length) (λ j=>[(34,.int .i64 j),(7,.row 19 0 3 0 (m+j:Nat))]) (λ j=>[(19,19,.rw 3 ((IP ((pw n.c.f:Int):Rat) ex 0 w ((H3 n).take j)).map eQ))]) 0 (by omega) ?_;intro j p2 ih;by_cases hj:j<n.nodes.length
  ·obtain ⟨nd,hnd⟩ : ∃ nd,n.nodes[j]? = some nd:=⟨_,zE hj⟩
   have Ap8:n.nodes[(j:Int).toNat]? = some nd:=hnd;have De:(H3 n)[j]? = some nd.ts:=by simp [H3,hnd]
   have Rp:=Ga j p2;have iq:=nj j p2;have vd:=m9 j nd.ts De;have Hg:=Oh h4 hnd;have hL:nd.ts.length<=5:=cp.len _ (zM De);have hC:=cp.cf _ (zM De);generalize hV:IP ((pw n.c.f:Int):Rat) ex 0 w ((H3 n).take j)=V at *;(repeat' ((first|(apply BB<;>intro hc<;>try omega)|apply BR|(refine CT (by assumption) ?_ rfl ?_;omega)|apply A7|refine AY (hO) ?_)<;>conv=>whnf))
   refine PL (λ t _=>nd.ts.length-t) (λ(t:Nat) (acc:Rat)=>t<=nd.ts.length/\acc=IC V (nd.ts.take t)) (λ t acc=>[(43,.int .i64 t)]) (λ t acc=>[(11,11,.bx (eQ acc))]) 0 (0:Rat) ⟨by omega,rfl⟩ ?_;intro t acc ⟨p3,p4⟩ jh;have vf:Bt 117200 acc:=by
    rw[p4];have a1:=Rp.sum (nd.ts.take t) (j:=24) (λ e he=>Bt.ofInt (hC e (List.mem_of_mem_take he)));refine a1.le (Nat.le_trans (zR _ (show (nd.ts.take t).length<=5 by rw[List.length_take];omega)) (by decide))
   by_cases ht:t<nd.ts.length
   ·obtain ⟨e,he⟩ : ∃ e,nd.ts[t]? = some e:=⟨_,zE ht⟩
    have iw:nd.ts[(t:Int).toNat]? = some e:=he;have Sg:=zM he;have j9:=List.all_eq_true.1 Hg e Sg;simp only[VV,decide_eq_true_eq]at j9;have Rq:=hC e Sg;obtain ⟨x,hx⟩ : ∃ x,V[e.1.toNat]? = some x:=⟨_,zE (by omega)⟩;have yi:V.getD e.1.toNat 0=x:=by rw[List.getD_eq_getElem?_getD,hx];rfl
    have qw:=Rp.at hx;have yh:=Aja (vals:=V) he;rw[yi]at yh;have zi:=cT N.tob7 qw (by omega);have hE:=Q2 N.tob7 e.2 (by have:(2:Nat)^24=16777216:=rfl;omega);have hM:=nC N.tob7 (Bt.ofInt Rq) qw (by omega) (by omega);have hA:=mU N.tob7 vf ((Bt.ofInt Rq).mul qw) (by omega) (by omega);have z1:=jF (x:=x);generalize u6 x.num=sx at *;by_cases q1:e.2=0
    ·(repeat' ((first|(apply BB<;>intro hc<;>try omega)|(apply BS;omega)|(refine CT (by assumption) ?_ rfl ?_;omega)|apply A7)<;>conv=>whnf))
     exact D0 [] (jh (t+1) acc (by omega) ⟨by omega,by rw[yh,q1,show ((0:Int):Rat)=0 from rfl,Rat.zero_mul,Rat.add_zero];exact p4⟩)
    ·by_cases q2:sx=0
     ·have rl:=z1.1 q2
      (repeat' ((first|(apply BB<;>intro hc<;>try omega)|(apply B7;omega)|(refine CT (by assumption) ?_ rfl ?_;omega)|(refine PA ?_ (λ_=>rfl) (λ v hv => ?_);omega)|apply A7)<;>conv=>whnf))
      cases hx.symm.trans hv;(repeat' ((first|(apply BB<;>intro hc<;>try omega)|(apply BS;omega)|refine AY (zi) ?_)<;>conv=>whnf))
      exact D0 [] (jh (t+1) acc (by omega) ⟨by omega,by rw[yh,rl,Rat.mul_zero,Rat.add_zero];exact p4⟩)
     ·(repeat' ((first|(apply BB<;>intro hc<;>try omega)|(apply B7;omega)|(refine CT (by assumption) ?_ rfl ?_;omega)|(refine PA ?_ (λ_=>rfl) (λ v hv => ?_);omega)|apply A7)<;>conv=>whnf))
      cases hx.symm.trans hv;(repeat' ((first|(apply BB<;>intro hc<;>try omega)|(apply B7;omega)|(refine PA ?_ (λ_=>rfl) (λ v hv => ?_);omega)|refine AY (zi) ?_|refine AY (hE) ?_)<;>conv=>whnf))
      cases hx.symm.trans hv;(repeat' ((first|(apply BS;omega)|refine AY (hM) ?_|refine AY (hA) ?_)<;>conv=>whnf))
      exact D0 [] (jh (t+1) (acc+((e.2:Int):Rat)*x) (by omega) ⟨by omega,by rw[yh,<-p4]⟩)
   ·obtain rfl:t=nd.ts.length:=by omega
    clear jh;rw[List.take_length]at p4;have hD:=Afn N.tob7 vf (Bt.ofInt sv) (by omega) (by omega) La;rw[<-p4]at vd;by_cases q5:(j:Int)=ex
    ·have Ih:=mU N.tob7 (vf.Dw Df sv) (Bt.ofInt (k:=0) (z:=1) (by decide)) (by omega) (by omega)
     rw[if_pos q5]at vd;(repeat' ((first|(apply BB<;>intro hc<;>try omega)|apply FM|apply A7|refine AY (hD) ?_|refine AY (hI) ?_|refine AY (Ih) ?_)<;>conv=>whnf))
     refine G3 (enc:=eQ) (acc/((pw n.c.f:Int):Rat)+((1:Int):Rat)) rfl iq.symm rfl (by omega) (by omega) ?_;rw[show ((1:Int):Rat)=1 from rfl,<-vd,nj (j+1) (by omega)];(repeat' ((first|(apply BS;omega)|fail)<;>conv=>whnf))
     exact D0 [(19,86)] (ih (j+1) (by omega) (by omega))
    ·rw[if_neg q5,Rat.add_zero]at vd
     (repeat' ((first|(apply BB<;>intro hc<;>try omega)|apply FM|apply A7|refine AY (hD) ?_)<;>conv=>whnf))
     refine G3 (enc:=eQ) (acc/((pw n.c.f:Int):Rat)) rfl iq.symm rfl (by omega) (by omega) ?_;rw[<-vd,nj (j+1) (by omega)];(repeat' ((first|(apply BS;omega)|fail)<;>conv=>whnf))
     exact D0 [(19,86)] (ih (j+1) (by omega) (by omega))
  ·obtain rfl:j=n.nodes.length:=by omega
   clear ih;(repeat' ((first|(apply BB<;>intro hc<;>try omega)|apply A7)<;>conv=>whnf))
   have iq:=nj n.nodes.length p2;refine GR (enc:=eQ) (λ_=>rfl) rfl (by omega) ?_;exact BU rfl (by simp only[B4,true_and];exact YA _)
def FS (n:Nt):EV where
 a:=n.next.map λ e=>(List.range n.s.toNat).map λ(j:Nat)=>(DZ n ((j:Int)+1) (-1)).getD e.toNat 0
 b:=n.next.map λ e=>(DZ n 0 (-1)).getD e.toNat 0
 c:=(List.range n.s.toNat).map λ(j:Nat)=>(DZ n ((j:Int)+1) (-1)).getD n.out.toNat 0
 d:=(DZ n 0 (-1)).getD n.out.toNat 0
abbrev eC:Option (List Rat)->List AV
 | none=>[.nil]
 | some l=>[.sl false (l.map eQ)]
def Q5 (l:List (List Rat)) (m:Nat):List (Option (List Rat)):=l.map some++List.replicate (m-l.length) none
theorem Agj {l:List (List Rat)} {m:Nat} (h:l.length<=m):(Q5 l m).length=m:=by simp [Q5];omega
theorem Agk {l:List (List Rat)} {m:Nat} {x:List Rat} (h:l.length<m):(Q5 l m).set l.length (some x)=Q5 (l++[x]) m:=by
 unfold Q5;rw[List.set_append_right _ _ (by simp)];obtain ⟨k,hk⟩ : ∃ k,m-l.length=k+1:=⟨m-l.length-1,by omega⟩;rw[hk,List.length_map,Nat.sub_self,List.replicate_succ,List.set_cons_zero,List.length_append,List.length_singleton,show m-(l.length+1)=k by omega];simp
theorem Agl {α:Type} (a b:α) {t m:Nat} (_:t<=m) (h:t<m):(List.replicate t a++List.replicate (m-t) b).set t a=List.replicate (t+1) a++List.replicate (m-(t+1)) b:=by
 obtain ⟨k,hk⟩ : ∃ k,m-t=k+1:=⟨m-t-1,by omega⟩;rw[List.set_append_right _ _ (by simp),hk,List.length_replicate,Nat.sub_self,List.replicate_succ,List.set_cons_zero,show m-(t+1)=k by omega,List.replicate_succ',List.append_assoc];rfl
def fz {α:Type} (z:α) (l:List α) (m:Nat):List α:=l++List.replicate (m-l.length) z
theorem dD {α:Type} {z:α} {l:List α} {m:Nat} (h:l.length<=m):(fz z l m).length=m:=by simp [fz];omega
theorem Agq {α:Type} (z:α) (l:List α) (m:Nat):(fz z l m).length=l.length+(m-l.length):=by simp [fz]
theorem dE {α:Type} {z x:α} {l:List α} {m:Nat} (h:l.length<m):(fz z l m).set l.length x=fz z (l++[x]) m:=by
 unfold fz;obtain ⟨k,hk⟩ : ∃ k,m-l.length=k+1:=⟨m-l.length-1,by omega⟩;rw[List.set_append_right _ _ (by simp),hk,Nat.sub_self,List.replicate_succ,List.set_cons_zero,List.length_append,List.length_singleton,show m-(l.length+1)=k by omega,List.append_assoc];rfl
theorem Agp {α:Type} {z:α} {l:List α} {m:Nat} (h:l.length<m):(fz z l m)[l.length]? = some z:=by
 unfold fz;rw[List.getElem?_append_right (by omega),Nat.sub_self,List.getElem?_replicate,if_pos (by omega)]
theorem dC {α:Type} {z:α} {l:List α} {m:Nat} (h:l.length=m):fz z l m=l:=by simp [fz,h]
theorem Agi (l:List (List Rat)):(Q5 l l.length).map eC=l.map λ c=>[AV.sl false (c.map eQ)]:=by
 simp [Q5,Function.comp_def]
def PD (n:Nt) (i:Nat):List (List Rat):=(List.range i).map λ(j:Nat)=>DZ n (j:Int) (-1)
theorem Zw (n:Nt) (i:Nat):PD n (i+1)=PD n i++[DZ n (i:Int) (-1)]:=by simp [PD,List.range_succ]
theorem cI (n:Nt) (i:Nat):(PD n i).length=i:=by simp [PD]
theorem Ahs {α:Type} {l:List α} {i:Nat} {x:α} (h:l[i]? = some x):l.set i x=l:=by
 refine List.ext_getElem? λ j => ?_
 rw[List.getElem?_set];split
 ·rename_i e;subst e
  rw[h];split
  ·rfl
  ·rename_i h2;rw[List.getElem?_eq_none (by omega)]at h;cases h
 ·rfl
theorem rG {α:Type} {l:List α} {i:Nat} {x:α} (h:l[i]? = some x):l.take (i+1)=l.take i++[x]:=by
 rw[List.take_add_one,h];rfl
theorem jR (n:Nt) (src ex:Int):(DZ n src ex).length=(1+n.s).toNat+n.nodes.length:=by
 simp only[DZ,nU,aT,H3,List.length_map]
theorem jQ (n:Nt) (src ex:Int) (h2:WV n.c) (cp:bM (H3 n)) (nc:n.nodes.length<=4):Bs 23400 (DZ n src ex):=by
 have l8:(H3 n).length=n.nodes.length:=by simp [H3]
 have Df:=PX n.c.f;have sv:(pw n.c.f).natAbs<=2^24:=by
  have hf:n.c.f<24:=by unfold WV at h2;omega
  have h9:(2:Nat)^n.c.f.toNat<=2^24:=Nat.pow_le_pow_right (by omega) (by omega);rw[pw];exact_mod_cast h9
 have h:=nT (ex:=ex) Df sv (H3 n) 0 (F4 (1+n.s).toNat src) cp (Bs.unit _ _ _);rw[l8,Nat.zero_add]at h;intro x hx;refine (h x hx).le ?_;generalize n.nodes.length=j at nc;rcases j with _|_|_|_|_|j
 ·decide
 ·decide
 ·decide
 ·decide
 ·decide
 ·omega
theorem xj (n:Nt) (t:Nat) (j:Int) (h:0<=j/\j<=t):(PD n (t+1))[j.toNat]? = some (DZ n j (-1)):=by
 unfold PD;rw[List.getElem?_map,List.getElem?_range (by omega),Option.map_some,Int.toNat_of_nonneg h.1]
theorem vY (I:g9 L) (N:y8 L) (n:Nt) (hv:XL n=true) (cp:bM (H3 n)) (nc:n.nodes.length<=4):Ev L 146 [.agg (HJ n)] (.g8 [.agg (eS (FS n)),.int .i64 0]):=by
 have hV:=wM n I N.tofx;rw[hv]at hV;have hSp:=λ(j:Int) (h:0<=j/\j<=n.s)=>Af8 N n j (-1) hv cp nc (by omega) (by unfold JR;omega)
 have hO:=Q2 N.tob7 0 (by omega);rw[WL]at hv;obtain ⟨h1,h2,h3,h4,h5,h6⟩:=hv;have Bl : ∀ e∈n.next,0<=e/\e<=n.s+n.nodes.length:=λ e he=>by simpa using List.all_eq_true.1 h5 e he
 refine Ev.x N.PV rfl rfl ?_;(repeat' ((first|(apply BS;omega)|apply A7|refine AY (hV) ?_)<;>conv=>whnf))
 obtain ⟨m,hm⟩ : ∃ m:Nat,n.s=m:=⟨n.s.toNat,(Int.toNat_of_nonneg (by omega)).symm⟩;rw[hm];unfold HN;refine ⟨⟨by omega,by omega,by simp only[IW];omega,by omega⟩,?_⟩;rw[show ((m:Int)+1).toNat=m+1 by omega];(conv=>whnf)
 skip
 refine Ux 146018 146018 (m+1) rfl ?_;skip
 rw[show List.replicate (m+1) [AV.nil]=(Q5 (PD n 0) (m+1)).map eC by simp [Q5,PD]];refine HC (λ i=>m+1-i) (λ(i:Nat)=>i<=m+1) (λ i=>[(21,.int .i64 i)]) (λ i=>[(146018,146018,.rw 1 ((Q5 (PD n i) (m+1)).map eC))]) 0 (by omega) ?_;intro i p1 ih;by_cases hi:i<m+1
 ·have hl:=Agj (l:=PD n i) (m:=m+1) (by rw[cI];omega)
  have m9:=Agk (l:=PD n i) (m:=m+1) (x:=DZ n (i:Int) (-1)) (by rw[cI];omega);rw[cI,<-Zw]at m9;have hS:=hSp i (by omega);unfold HJ at hS;rw[hm]at hS;(repeat' ((first|(apply BB<;>intro hc<;>try omega)|(apply B7;omega)|apply A7|refine AY (hS) ?_)<;>conv=>whnf))
  refine W5 (enc:=eC) (some (DZ n (i:Int) (-1))) rfl (λ e=>by cases e<;>rfl) (by omega) ?_;(conv=>whnf)
  (repeat' ((first|(apply BS;omega)|fail)<;>conv=>whnf))
  rw[m9];exact D0 [] (ih (i+1) (by omega) (by omega))
 ·obtain rfl:i=m+1:=by omega
  clear ih;(repeat' ((first|(apply BB<;>intro hc<;>try omega)|apply A7)<;>conv=>whnf))
  refine FN 1000 N.SG rfl rfl ?_;(repeat' (apply A7<;>conv=>whnf))
  unfold HN;refine ⟨⟨by omega,by omega,by simp only[IW];omega,by omega⟩,?_⟩;rw[Int.toNat_natCast];(conv=>whnf)
  have hZ:=xF N.toax m (by omega);refine OP (enc:=eQ) m hZ (by simp) ?_;(conv=>whnf)
  refine OP (enc:=eQ) m hZ (by simp) ?_;(conv=>whnf)
  (repeat' (refine AY (hO) ?_<;>conv=>whnf))
  refine HC (λ t=>m-t) (λ(t:Nat)=>t<=m) (λ t=>[(16,.int .i64 t)]) (λ t=>[(145006,145006,.mx (List.replicate t (some (3,(List.replicate m (0:Rat)).map eQ))++List.replicate (m-t) none))]) 0 (by omega) ?_;intro t p4 th;by_cases ht:t<m
  ·(repeat' ((first|(apply BB<;>intro hc<;>try omega)|apply A7)<;>conv=>whnf))
   refine OP (enc:=eQ) m hZ (by simp) ?_;(conv=>whnf)
   (repeat' ((first|(apply B7;omega)|fail)<;>conv=>whnf))
   unfold BT HO;refine ⟨by simp,by simp;omega,?_⟩;(conv=>whnf)
   rw[show 0+((t:Int)).toNat=t by omega,Agl _ _ p4 ht];(repeat' ((first|(apply BS;omega)|fail)<;>conv=>whnf))
   exact D0 [] (th (t+1) (by omega) (by omega))
  obtain rfl:t=m:=by omega
  clear th;have ik:=xj n t;rw[show List.replicate t (some (3,List.map eQ (List.replicate t 0)))++List.replicate (t-t) none=NY 3 eQ (fz (List.replicate t 0) [] t) by simp [NY,fz],show List.replicate t (0:Rat)=fz 0 [] t by simp [fz],show (Q5 (PD n (t+1)) (t+1)).map eC=(PD n (t+1)).map λ c=>[AV.sl false (c.map eQ)] by rw[<-Agi,cI]];(repeat' ((first|(apply BB<;>intro hc<;>try omega)|apply A7)<;>conv=>whnf))
  refine ⟨rfl,?_⟩;(conv=>whnf)
  (repeat' (apply BR<;>conv=>whnf))
  have Sp:n.s.toNat=t:=by omega
  have xv:n.next.length=t:=by omega
  have ApK:=cI n (t+1);refine HC (λ i=>n.next.length-i) (λ(i:Nat)=>i<=n.next.length) (λ i=>[(37,.int .i64 i)]) (λ i=>[(145006,145006,.mx (NY 3 eQ (fz (List.replicate t 0) ((FS n).a.take i) t))),(145008,145008,.rw 3 ((fz 0 ((FS n).b.take i) t).map eQ))]) 0 (by omega) ?_;intro i q1 ih;by_cases hi:i<n.next.length
  ·obtain ⟨e,he⟩ : ∃ e,n.next[i]? = some e:=⟨_,zE hi⟩
   have Hk:n.next[(i:Int).toNat]? = some e:=he
   have ri:(FS n).a[i]? = some ((List.range t).map λ(j:Nat)=>(DZ n ((j:Int)+1) (-1)).getD e.toNat 0):=by
    rw[<-Sp];simp only[FS,List.getElem?_map,he,Option.map_some]
   have xh:(FS n).b[i]? = some ((DZ n 0 (-1)).getD e.toNat 0):=by
    simp only[FS,List.getElem?_map,he,Option.map_some]
   have vp:(FS n).a.length=t:=by simp [FS,xv]
   have rz:(FS n).b.length=t:=by simp [FS,xv]
   have Su:((FS n).a.take i).length=i:=by rw[List.length_take];omega
   have Fy:((FS n).b.take i).length=i:=by rw[List.length_take];omega
   have hA0:fz (List.replicate t 0) ((FS n).a.take i) t=(fz (List.replicate t 0) ((FS n).a.take i) t).set i (fz 0 [] t):=by
    have:=Agp (z:=List.replicate t (0:Rat)) (l:=(FS n).a.take i) (m:=t) (by omega)
    rw[Su]at this;rw[show fz (0:Rat) [] t=List.replicate t 0 by simp [fz]];exact (Ahs this).symm
   have Ri:=dE (z:=List.replicate t (0:Rat)) (l:=(FS n).a.take i) (m:=t) (x:=(List.range t).map λ(j:Nat)=>(DZ n ((j:Int)+1) (-1)).getD e.toNat 0) (by omega);have Ii:=dE (z:=(0:Rat)) (l:=(FS n).b.take i) (m:=t) (x:=(DZ n 0 (-1)).getD e.toNat 0) (by omega);rw[Su,<-rG ri]at Ri;rw[Fy,<-rG xh]at Ii;have hAl:=dD (z:=List.replicate t (0:Rat)) (l:=(FS n).a.take i) (m:=t) (by omega);have tt:=dD (z:=(0:Rat)) (l:=(FS n).b.take i) (m:=t) (by omega);have hen:=Bl e (zM he);generalize fz (List.replicate t 0) ((FS n).a.take i) t=A0 at *;generalize fz (0:Rat) ((FS n).b.take i) t=B0 at *;have Ih:A0=A0.set i (fz 0 ((List.range 0).map λ(j:Nat)=>(DZ n ((j:Int)+1) (-1)).getD e.toNat 0) t):=hA0;(repeat' ((first|(apply BB<;>intro hc<;>try omega)|(refine CT (by assumption) ?_ rfl ?_;omega)|apply A7)<;>conv=>whnf))
   refine QV (λ j=>t-j) (λ(j:Nat)=>j<=t) (λ j=>[(44,.int .i64 j)]) (λ j=>[(145006,145006,.mx (NY 3 eQ (A0.set i (fz 0 ((List.range j).map λ(j:Nat)=>(DZ n ((j:Int)+1) (-1)).getD e.toNat 0) t))))]) [] [] 0 (by first|exact (by (conv=>whnf);exact ⟨rfl,rfl,rfl⟩)|(rw[<-Ih];exact (by (conv=>whnf);exact ⟨rfl,rfl,rfl⟩))) (by omega) ?_;intro j q2 jh;have n8:((List.range j).map λ(j:Nat)=>(DZ n ((j:Int)+1) (-1)).getD e.toNat 0).length=j:=by simp
   by_cases hj:j<t
   ·have ou:=ik ((j:Int)+1) (by omega)
    have gn:=jR n ((j:Int)+1) (-1);have Aj:=jQ n ((j:Int)+1) (-1) h2 cp nc;obtain ⟨x,hx⟩ : ∃ x,(DZ n ((j:Int)+1) (-1))[e.toNat]? = some x:=⟨_,zE (by omega)⟩;have yi:(DZ n ((j:Int)+1) (-1)).getD e.toNat 0=x:=by rw[List.getD_eq_getElem?_getD,hx];rfl
    have hT:=cU N.tob7 (Aj.at hx) (by omega);have uf:=dE (z:=(0:Rat)) (l:=(List.range j).map λ(j:Nat)=>(DZ n ((j:Int)+1) (-1)).getD e.toNat 0) (m:=t) (x:=x) (by omega);have qz:=dD (z:=(0:Rat)) (l:=(List.range j).map λ(j:Nat)=>(DZ n ((j:Int)+1) (-1)).getD e.toNat 0) (m:=t) (by omega);rw[n8,show ((List.range j).map λ(j:Nat)=>(DZ n ((j:Int)+1) (-1)).getD e.toNat 0)++[x]=(List.range (j+1)).map λ(j:Nat)=>(DZ n ((j:Int)+1) (-1)).getD e.toNat 0 by rw[List.range_succ,List.map_append,List.map_singleton,yi]]at uf;have hrw:(A0.set i (fz 0 ((List.range j).map λ(j:Nat)=>(DZ n ((j:Int)+1) (-1)).getD e.toNat 0) t))[i]? = some (fz 0 ((List.range j).map λ(j:Nat)=>(DZ n ((j:Int)+1) (-1)).getD e.toNat 0) t):=by
     rw[List.getElem?_set,if_pos rfl,if_pos (by omega)]
    have hsl:(A0.set i (fz 0 ((List.range j).map λ(j:Nat)=>(DZ n ((j:Int)+1) (-1)).getD e.toNat 0) t)).length=t:=by rw[List.length_set];omega
    (repeat' ((first|(apply BB<;>intro hc<;>try omega)|(apply B7;omega)|(apply BS;omega)|(refine PA ?_ (λ_=>rfl) (λ v hv => ?_);omega)|(refine Yt ?_ (λ r hr => ?_);omega)|apply A7)<;>conv=>whnf))
    cases hrw.symm.trans hr;cases ou.symm.trans hv;(repeat' ((first|(refine CT (by assumption) ?_ rfl ?_;omega)|refine AY (hT) ?_)<;>conv=>whnf))
    refine B7 (by rw[List.length_map];omega) ?_;(conv=>whnf)
    (repeat' ((first|refine Ys (by assumption) ?_|fail)<;>conv=>whnf))
    refine W5 (enc:=eQ) x rfl (λ_=>rfl) (by omega) ?_;(conv=>whnf)
    rw[uf];refine Wa (by simp only[Agq , n8,List.length_map,List.length_range];omega) ?_;rw[List.set_set];(conv=>whnf)
    (repeat' ((first|(apply BS;omega)|fail)<;>conv=>whnf))
    exact D0 [] (jh (j+1) (by omega) (by omega))
   ·obtain rfl:j=t:=by omega
    clear jh;rw[dC n8,Ri];have ou:=ik 0 (by omega);have gn:=jR n 0 (-1);have Aj:=jQ n 0 (-1) h2 cp nc;obtain ⟨x,hx⟩ : ∃ x,(DZ n 0 (-1))[e.toNat]? = some x:=⟨_,zE (by omega)⟩;have yi:(DZ n 0 (-1)).getD e.toNat 0=x:=by rw[List.getD_eq_getElem?_getD,hx];rfl
    rw[yi]at Ii;have hT:=cU N.tob7 (Aj.at hx) (by omega);(repeat' ((first|(apply BB<;>intro hc<;>try omega)|(apply B7;omega)|(refine PA ?_ (λ_=>rfl) (λ v hv => ?_);omega)|apply A7)<;>conv=>whnf))
    cases ou.symm.trans hv;(repeat' ((first|(apply B7;omega)|(refine CT (by assumption) ?_ rfl ?_;omega)|refine AY (hT) ?_)<;>conv=>whnf))
    refine W5 (enc:=eQ) x rfl (λ_=>rfl) (by omega) ?_;(conv=>whnf)
    rw[Ii];(repeat' ((first|(apply BS;omega)|fail)<;>conv=>whnf))
    exact D0 [] (ih (i+1) (by omega) (by omega))
  ·obtain rfl:i=n.next.length:=by omega
   clear ih;have vp:(FS n).a.length=t:=by simp [FS,xv]
   have rz:(FS n).b.length=t:=by simp [FS,xv]
   rw[zT (show (FS n).a.length<=n.next.length by omega),zT (show (FS n).b.length<=n.next.length by omega),dC vp,dC rz];(repeat' ((first|(apply BB<;>intro hc<;>try omega)|apply A7)<;>conv=>whnf))
   refine HC (λ j=>t-j) (λ(j:Nat)=>j<=t) (λ j=>[(78,.int .i64 j)]) (λ j=>[(145010,145010,.rw 3 ((fz 0 ((List.range j).map λ(j:Nat)=>(DZ n ((j:Int)+1) (-1)).getD n.out.toNat 0) t).map eQ))]) 0 (by omega) ?_;intro j q2 jh;have n8:((List.range j).map λ(j:Nat)=>(DZ n ((j:Int)+1) (-1)).getD n.out.toNat 0).length=j:=by simp
   by_cases hj:j<t
   ·have ou:=ik ((j:Int)+1) (by omega)
    have gn:=jR n ((j:Int)+1) (-1);have Aj:=jQ n ((j:Int)+1) (-1) h2 cp nc;obtain ⟨x,hx⟩ : ∃ x,(DZ n ((j:Int)+1) (-1))[n.out.toNat]? = some x:=⟨_,zE (by omega)⟩;have yi:(DZ n ((j:Int)+1) (-1)).getD n.out.toNat 0=x:=by rw[List.getD_eq_getElem?_getD,hx];rfl
    have hT:=cU N.tob7 (Aj.at hx) (by omega);have uf:=dE (z:=(0:Rat)) (l:=(List.range j).map λ(j:Nat)=>(DZ n ((j:Int)+1) (-1)).getD n.out.toNat 0) (m:=t) (x:=x) (by omega);have qz:=dD (z:=(0:Rat)) (l:=(List.range j).map λ(j:Nat)=>(DZ n ((j:Int)+1) (-1)).getD n.out.toNat 0) (m:=t) (by omega);rw[n8,show ((List.range j).map λ(j:Nat)=>(DZ n ((j:Int)+1) (-1)).getD n.out.toNat 0)++[x]=(List.range (j+1)).map λ(j:Nat)=>(DZ n ((j:Int)+1) (-1)).getD n.out.toNat 0 by rw[List.range_succ,List.map_append,List.map_singleton,yi]]at uf;(repeat' ((first|(apply BB<;>intro hc<;>try omega)|(apply B7;omega)|(apply BS;omega)|(refine PA ?_ (λ_=>rfl) (λ v hv => ?_);omega)|apply A7)<;>conv=>whnf))
    cases ou.symm.trans hv;(repeat' ((first|(apply B7;omega)|(refine CT (by assumption) ?_ rfl ?_;omega)|refine AY (hT) ?_)<;>conv=>whnf))
    refine W5 (enc:=eQ) x rfl (λ_=>rfl) (by omega) ?_;(conv=>whnf)
    rw[uf];(repeat' ((first|(apply BS;omega)|fail)<;>conv=>whnf))
    exact D0 [] (jh (j+1) (by omega) (by omega))
   ·obtain rfl:j=t:=by omega
    clear jh;rw[dC n8];have ou:=ik 0 (by omega);have gn:=jR n 0 (-1);have Aj:=jQ n 0 (-1) h2 cp nc;obtain ⟨x,hx⟩ : ∃ x,(DZ n 0 (-1))[n.out.toNat]? = some x:=⟨_,zE (by omega)⟩;have yi:(DZ n 0 (-1)).getD n.out.toNat 0=x:=by rw[List.getD_eq_getElem?_getD,hx];rfl
    have hT:=cU N.tob7 (Aj.at hx) (by omega);have hd:(FS n).d=x:=yi;have ag:(FS n).c=(List.range j).map λ(j:Nat)=>(DZ n ((j:Int)+1) (-1)).getD n.out.toNat 0:=by rw[FS,Sp]
    rw[<-ag];(repeat' ((first|(apply BB<;>intro hc<;>try omega)|(apply B7;omega)|(refine PA ?_ (λ_=>rfl) (λ v hv => ?_);omega)|apply A7)<;>conv=>whnf))
    cases ou.symm.trans hv;(repeat' ((first|(refine CT (by assumption) ?_ rfl ?_;omega)|refine AY (hT) ?_)<;>conv=>whnf))
    have hcn:(FS n).c.length=j:=by rw[ag,n8]
    refine sS (λ_=>rfl) rfl vp.symm ?_;(conv=>whnf)
    refine GR (enc:=eQ) (λ_=>rfl) rfl rz.symm ?_;(conv=>whnf)
    refine GR (enc:=eQ) (λ_=>rfl) rfl hcn.symm ?_;(conv=>whnf)
    refine BU (by rw[<-hd];rfl) ?_;simp only[B4,DN,and_true];exact uC (FS n)
theorem Aip {X:List Rat} {n j:Nat} (h:j*n+n<=X.length):(qG X n j).length=n:=by
 simp only[qG,List.length_drop,List.length_take];omega
theorem Zp (ts:List (Int × Int)):GF (ts.map OE):=YB (λ_=>by simp [DN,B4]) ts
theorem lM : ∀ (l:List Nd),(∀ n∈l,n.q=false)->GF (l.map KC)
 | [],_=>by simp [GF]
 | n::r,h=>by
  simp only[List.map_cons,GF,DN,B4,and_true];exact ⟨⟨h n (by simp),Zp _⟩,lM r λ m hm=>h m (List.mem_cons_of_mem _ hm)⟩
end Go.e6

namespace Go.e6
open F
attribute [local irreducible] AH A8 BT A5 EW BJ CS CR EU DK EE II C8 B5 DB FG AP CG BF pw HE FL HO HG HN G2 G5 DG FF
variable {L:Lib}
variable (b a:List Int) (d c:Wd)
variable {b a d c}
set_option maxHeartbeats 4000000
end Go.e6

namespace Go.e6
open F
attribute [local irreducible] AH A8 BT A5 EW BJ CS CR EU DK EE II C8 B5 DB FG AP CG BF pw HE FL HO HG HN G2 G5 DG FF
variable {L:Lib}
set_option maxHeartbeats 8000000
end Go.e6

namespace Go.e6
variable {L:Lib}
end Go.e6

namespace Go.e6
open F
attribute [local irreducible] AH A8 BT A5 EW BJ CS CR EU DK EE II C8 B5 DB FG AP CG BF pw HE FL HO HG HN G2 G5 DG FF
variable {L:Lib}
set_option maxHeartbeats 16000000
def cf (l:List Rat) (prev:List (Option Rat)) (i:Nat):List (Option Rat):=(l.take i).map some++prev.drop i
end Go.e6

namespace Go.e6
def hQ (S:EV):Nat->Rat
 | 0=>S.d
 | j+1=>mM S.c (wQ S j)
theorem Ajg {r:List Rat} (h:VW r=r) (hn:r.length≠0):r.getD (r.length-1) 0≠0:=by
 have hl:=Qv r;rw[h]at hl;obtain ⟨n,qj⟩ : ∃ n,r.length=n+1:=⟨r.length-1,by omega⟩;rw[qj,OB]at hl;rw[qj,Nat.add_sub_cancel];intro h0;rw[if_pos h0]at hl;have:=cJ r n
 omega
def GS (B A:List Rat) (n:Nat):EV where
 a:=(List.range n).map λ i=>if i=0 then (List.range n).map λ k => -(A.getD (k+1) 0) else F4 n ((i-1:Nat):Int)
 b:=F4 n 0
 c:=(List.range n).map λ i=>B.getD (i+1) 0-B.getD 0 0*A.getD (i+1) 0
 d:=B.getD 0 0
def OA (x:Rat):Rat:=if x.num<0 then -x else x
theorem Bt.Ht {k:Nat} {x:Rat} (h:Bt k x):Bt k (OA x):=by
 unfold OA;split
 ·exact h.Lj
 ·exact h
end Go.e6

namespace Go.e6
section
variable {M ky:Nat} {g:List Pt}
end
end Go.e6

namespace Go.e6
end Go.e6

namespace Go.e6
open F
attribute [local irreducible] AH A8 BT A5 EW BJ CS CR EU DK EE II C8 B5 DB FG AP CG BF pw HE FL HO HG HN G2 G5 DG FF
variable {L:Lib}
set_option maxHeartbeats 16000000
set_option maxRecDepth 8000
def cz (row:List Rat) (n j:Nat):List Rat:=fz 0 (row.take j) n
theorem AdW {row:List Rat} {n j:Nat} (hj:j<=n):(cz row n j).length=n:=by
 refine dD ?_;rw[List.length_take];omega
theorem AdY (row:List Rat) (n:Nat):cz row n 0=List.replicate n 0:=by simp [cz,fz]
theorem AdX {row:List Rat} {n j:Nat} {x:Rat} (h:row[j]? = some x) (hj:j<n):(cz row n j).set j x=cz row n (j+1):=by
 have h1:=(zS h).1;have hl:(row.take j).length=j:=by rw[List.length_take];omega
 have:=dE (z:=(0:Rat)) (l:=row.take j) (m:=n) (x:=x) (by omega)
 rw[hl]at this;rw[cz,this,cz,rG h]
theorem AdV {row:List Rat} {n:Nat} (h:row.length=n):cz row n n=row:=by
 rw[cz,zT (by omega)];exact dC h
theorem Af7 (N:v5 L) (m:Nat) (hm:m<=65536):PO L 206 [.int .i64 (m:Int)] 3 ((List.replicate m (0:Rat)).map eQ):=by
 have hO:=Q2 N.tob7 0 (by omega);refine PO.x N.US rfl rfl ?_;(repeat' (apply A7<;>conv=>whnf))
 refine NQ (enc:=eO) none m rfl rfl (by omega) ?_;(conv=>whnf)
 skip
 refine QV (λ i=>m-i) (λ(i:Nat)=>i<=m) (λ i=>[(8,.int .i64 i)]) (λ i=>[(6,6,.rw 3 ((Q6 (List.replicate i 0) m).map eO))]) [] [] 0 (by first|exact (by (conv=>whnf);exact ⟨rfl,rfl,rfl⟩)|(rw[<-xQ];exact (by (conv=>whnf);exact ⟨rfl,rfl,rfl⟩))) (by omega) ?_;intro i p1 ih;by_cases hi:i<m
 ·have hl:=xP (l:=List.replicate i (0:Rat)) (m:=m) (by simp;omega)
  have hs:=xR (l:=List.replicate i (0:Rat)) (m:=m) (x:=0) (by simp;omega);rw[List.length_replicate]at hs;(repeat' ((first|(apply BB<;>intro hc<;>try omega)|(apply B7;omega)|apply A7|refine AY (hO) ?_)<;>conv=>whnf))
  refine W5 (enc:=eO) (some 0) rfl (λ e=>by cases e<;>rfl) (by omega) ?_;(conv=>whnf)
  (repeat' ((first|(apply BS;omega)|fail)<;>conv=>whnf))
  rw[hs];rw[show List.replicate i (0:Rat)++[0]=List.replicate (i+1) 0 by rw[List.replicate_succ']];exact D0 [] (ih (i+1) (by omega) (by omega))
 obtain rfl:i=m:=by omega
 clear ih;rw[xO (by simp)];(repeat' ((first|(apply BB<;>intro hc<;>try omega)|apply A7)<;>conv=>whnf))
 exact ⟨rfl,rfl,by simp,rfl,YA _⟩
theorem nP (N:v5 L) (q:Bool) (l:List Rat) (i:Int) (k:Nat) (h0:0<=i) (hl:Bs k l) (hk:k<2199023255552) (hn:l.length<=1000000):Ev L 205 [.sl q (l.map eQ),.int .i64 i] (.agg (eQ (l.getD i.toNat 0))):=by
 have hO:=Q2 N.tob7 0 (by omega);refine Ev.x N.UO rfl rfl ?_;by_cases hi:i<l.length
 ·obtain ⟨x,hx⟩ : ∃ x,l[i.toNat]? = some x:=⟨_,zE (by omega)⟩
  have hT:=cU N.tob7 (hl.at hx) hk;rw[xZ hx];(repeat' ((first|(apply BB<;>intro hc<;>try omega)|apply BR|(refine CT (by assumption) ?_ rfl ?_;omega)|apply A7|refine AY (hT) ?_)<;>conv=>whnf))
  exact BU rfl (G7 _)
 ·rw[Agr (l:=l) (by omega)]
  (repeat' ((first|(apply BB<;>intro hc<;>try omega)|apply BR|apply A7|refine AY (hO) ?_)<;>conv=>whnf))
  exact BU rfl (G7 _)
theorem wY (N:v5 L) (q:Bool) (l:List Rat) (k:Nat) (ht:VW l=l) (hl:Bs k l) (hk:k<2199023255552) (hn:l.length<=1000000):Ev L 204 [.sl q (l.map eQ)] (.int .i64 ((l.length-1:Nat):Int)):=by
 refine Ev.x N.UP rfl rfl ?_;(repeat' ((first|(apply DC;omega)|apply BR|apply A7)<;>conv=>whnf))
 refine JF ?_;by_cases h2:l.length<=1
 ·(repeat' ((first|(apply BB<;>intro hc<;>try omega)|apply A7)<;>conv=>whnf))
  exact DY (by omega)
 ·obtain ⟨x,hx⟩ : ∃ x,l[l.length-1]? = some x:=⟨_,zE (by omega)⟩
  have Hk:l[((l.length:Int)-1).toNat]? = some x:=by rw[show ((l.length:Int)-1).toNat=l.length-1 by omega];exact hx
  have Tc:=Ajg ht (by omega);rw[xZ hx]at Tc;have hS:=cT N.tob7 (hl.at hx) hk;have hs:=jF (x:=x);generalize u6 x.num=s at *;have Ku:s≠0:=λ h=>Tc (hs.1 h)
  (repeat' ((first|(apply BB<;>intro hc<;>try omega)|(refine CT (by assumption) ?_ rfl ?_;omega)|apply A7|refine AY (hS) ?_)<;>conv=>whnf))
  exact DY (by omega)
theorem AfX (N:v5 L) (q1 q2:Bool) (B A:List Rat) (k:Nat) (hB:Bs k B) (hA:Bs k A) (hk:k<2199023255552) (lB:B.length<=49) (lA:A.length<=49) (h0:A[0]? = some 1):Ev L 201 [.agg [.sl q1 (B.map eQ),.sl q2 (A.map eQ)]] (.bool true):=by
 have c1:=cJ B B.length;have c2:=cJ A A.length;have tu:=wN N q1 B k hB hk (by omega);have tv:=wN N q2 A k hA hk (by omega);have hO:=Q2 N.tob7 1 (by omega);have hC:=Afm N (Bt.one 1) (Bt.one 1) (by omega) (by omega);rw[jG.2 rfl]at hC;have hAl:0<A.length:=(zS h0).1;have wv:A[(0:Int).toNat]? = some 1:=h0;generalize OB B B.length=d1 at *;generalize OB A A.length=d2 at *;refine Ev.x N.UI rfl rfl ?_;(repeat' ((first|(apply BB<;>intro hc<;>try omega)|apply BR|(refine CT (by assumption) ?_ rfl ?_;omega)|apply A7|refine AY (tu) ?_|refine AY (tv) ?_|refine AY (hO) ?_|refine AY (hC) ?_)<;>conv=>whnf))
 exact H8 rfl
theorem Zx (B A:List Rat) (m:Nat):(GS B A (m+1)).a.take 1=[(List.range (m+1)).map λ k => -(A.getD (k+1) 0)]:=by
 simp [GS,List.range_succ_eq_map]
theorem Zy {B A:List Rat} {n i:Nat} (h1:1<=i) (hi:i<n):(GS B A n).a[i]? = some (F4 n ((i-1:Nat):Int)):=by
 simp only[GS,List.getElem?_map,List.getElem?_range hi,Option.map_some];rw[if_neg (by omega)]
theorem uQ {B A:List Rat} {n i:Nat} (hi:i<n):(GS B A n).c[i]? = some (B.getD (i+1) 0-B.getD 0 0*A.getD (i+1) 0):=by
 simp only[GS,List.getElem?_map,List.getElem?_range hi,Option.map_some]
theorem Zz (B A:List Rat) (m:Nat):(GS B A (m+1)).c.take 1=[B.getD 1 0-B.getD 0 0*A.getD 1 0]:=by
 rw[List.take_add_one,uQ (by omega)];rfl
theorem uP (B A:List Rat) (n:Nat):(GS B A n).a.length=n:=by simp [GS]
theorem uR (B A:List Rat) (n:Nat):(GS B A n).c.length=n:=by simp [GS]
theorem Qm {α:Type} {l:List α} {i:Nat} {x:α} (h:l[i]? = some x):l.take (i+1)=l.take i++[x]:=by
 rw[List.take_add_one,h];rfl
theorem Adx (S:EV) (e:Int):B4 (.g8 [.agg (eS S),.int .i64 e]):=by
 have:=uC S
 simp only[B4,DN,true_and,and_true]at this ⊢;exact this
theorem Afc (N:v5 L) (w1 w2:Bool) (B A:List Rat) (n k:Nat) (hB:VW B=B) (hA:VW A=A) (bB:Bs k B) (bA:Bs k A) (lB:B.length<=17) (lA:A.length<=17) (h0:A[0]? = some 1) (hn:max (B.length-1) (A.length-1)=n) (hk:k<=1000000) :
  Ev L 207 [.agg [.sl w1 (B.map eQ),.sl w2 (A.map eQ)]] (.g8 [.agg (eS (GS B A n)),.int .i64 0]):=by
 have hV:=AfX N w1 w2 B A k bB bA (by omega) (by omega) (by omega) h0;have tu:=wY N w1 B k hB bB (by omega) (by omega);have tv:=wY N w2 A k hA bA (by omega) (by omega);have hO:=Q2 N.tob7 1 (by omega);have Ee:=nP N w1 B 0 k (by omega) bB (by omega) (by omega);rw[show B.getD (0:Int).toNat 0=B.getD 0 0 from rfl]at Ee;have hZ:=Af7 N n (by omega);have Ra:Bt k (B.getD 0 0):=VI bB 0;have Jc : ∀ i:Nat,Ev L 205 [.sl w1 (B.map eQ),.int .i64 ((i:Int)+1)] (.agg (eQ (B.getD (i+1) 0)))/\Ev L 205 [.sl w2 (A.map eQ),.int .i64 ((i:Int)+1)] (.agg (eQ (A.getD (i+1) 0))) /\
   Ev L 99 [.agg (eQ (B.getD 0 0)),.agg (eQ (A.getD (i+1) 0))] (.agg (eQ (B.getD 0 0*A.getD (i+1) 0)))/\Ev L 150 [.agg (eQ (B.getD (i+1) 0)),.agg (eQ (B.getD 0 0*A.getD (i+1) 0))] (.agg (eQ (B.getD (i+1) 0-B.getD 0 0*A.getD (i+1) 0))) /\
   Ev L 199 [.agg (eQ (A.getD (i+1) 0))] (.agg (eQ (-(A.getD (i+1) 0)))):=λ i=>by
  have e1:=nP N w1 B ((i:Int)+1) k (by omega) bB (by omega) (by omega);have e2:=nP N w2 A ((i:Int)+1) k (by omega) bA (by omega) (by omega);rw[show ((i:Int)+1).toNat=i+1 by omega]at e1 e2;exact ⟨e1,e2,nC N.tob7 Ra (VI bA _) (by omega) (by omega),Af9 N.toaf (VI bB _) (Ra.mul (VI bA _)) (by omega) (by omega),AfG N (VI bA _) (by omega)⟩
 have hd:(GS B A n).d=B.getD 0 0:=rfl;have vp:=uP B A n;have n8:=uR B A n;have oy:eS (GS B A n)=[.sl false ((GS B A n).a.map λ r=>[AV.sl false (r.map eQ)]),.sl false ((F4 n 0).map eQ),.sl false ((GS B A n).c.map eQ)]++eQ (B.getD 0 0):=rfl;have jq:=Adx (GS B A n) 0;rw[oy]at jq ⊢;have hai : ∀ i,1<=i->i<n->(GS B A n).a[i]? = some (F4 n ((i-1:Nat):Int)):=λ i h1 h2=>Zy h1 h2
 have hci : ∀ i,i<n->(GS B A n).c[i]? = some (B.getD (i+1) 0-B.getD 0 0*A.getD (i+1) 0):=λ i h=>uQ h
 have Ir:0<n->(GS B A n).a.take 1=[(List.range n).map λ k => -(A.getD (k+1) 0)]:=λ h=>by
  obtain ⟨m,rfl⟩ : ∃ m,n=m+1:=⟨n-1,by omega⟩;exact Zx B A m
 have ub:0<n->(GS B A n).c.take 1=[B.getD (0+1) 0-B.getD 0 0*A.getD (0+1) 0]:=λ h=>by
  obtain ⟨m,rfl⟩ : ∃ m,n=m+1:=⟨n-1,by omega⟩;exact Zz B A m
 have su : ∀ j,j<n->((List.range n).map λ k => -(A.getD (k+1) 0))[j]? = some (-(A.getD (j+1) 0)):=λ j h=>by
  rw[List.getElem?_map,List.getElem?_range h];rfl
 have Kk:((List.range n).map λ k => -(A.getD (k+1) 0)).length=n:=by simp
 have lu : ∀ j,(F4 n j).length=n:=λ j=>aT n j
 generalize (GS B A n).a=a at *;generalize (GS B A n).c=c at *;generalize (List.range n).map (λ k => -(A.getD (k+1) 0))=r0 at *;generalize B.getD 0 0=b0 at *;rcases Nat.lt_or_ge (B.length-1) (A.length-1) with l8|mz
 focus
  rw[show A.length-1=n by omega]at tv l8;refine Ev.x N.P7 rfl rfl ?_;(repeat' ((first|(apply BB<;>intro hc<;>try omega)|apply A7|refine AY (hV) ?_|refine AY (tu) ?_|refine AY (tv) ?_|refine AY (Ee) ?_)<;>conv=>whnf))
 rotate_left
 focus
  rw[show B.length-1=n by omega]at tu mz;refine Ev.x N.P7 rfl rfl ?_;(repeat' ((first|(apply BB<;>intro hc<;>try omega)|apply A7|refine AY (hV) ?_|refine AY (tu) ?_|refine AY (tv) ?_|refine AY (Ee) ?_)<;>conv=>whnf))
 all_goals
  refine OP (enc:=eQ) n hZ (by simp) ?_;(conv=>whnf)
  by_cases xu:n=0
  ·skip
   first
   | exact absurd l8 (by omega)
   |(subst xu
     (repeat' ((first|(apply BB<;>intro hc<;>try omega)|fail)<;>conv=>whnf))
     refine JF ?_;(repeat' ((first|(apply BB<;>intro hc<;>try omega)|(refine GR (λ_=>rfl) rfl ?_ ?_;(first|rfl|simp))|apply A7)<;>conv=>whnf))
     rw[List.eq_nil_of_length_eq_zero vp,List.eq_nil_of_length_eq_zero n8]at *;exact BU rfl jq)
  ·(repeat' ((first|(apply BB<;>intro hc<;>try omega)|(apply B7;omega)|refine AY (hO) ?_)<;>conv=>whnf))
   refine bV (enc:=eQ) 0 1 rfl rfl (λ_=>rfl) (by simp;omega) ?_;(conv=>whnf)
   rw[show (List.replicate n (0:Rat)).set 0 1=F4 n 0 from rN n 0];skip
   refine JF ?_;(repeat' ((first|(apply BB<;>intro hc<;>try omega)|apply A7)<;>conv=>whnf))
   refine OP (enc:=eQ) n hZ (by simp) ?_;(conv=>whnf)
   (repeat' ((first|(apply BB<;>intro hc<;>try omega)|fail)<;>conv=>whnf))
   refine QV (λ j=>n-j) (λ(j:Nat)=>j<=n) (λ j=>[(50,.int .i64 j)]) (λ j=>[(41,41,.rw 3 ((cz r0 n j).map eQ))]) [] [] 0 (by first|exact (by (conv=>whnf);exact ⟨rfl,rfl,rfl⟩)|(rw[AdY];exact (by (conv=>whnf);exact ⟨rfl,rfl,rfl⟩))) (by omega) ?_;intro j p1 ih;have qz:=AdW (row:=r0) p1;by_cases hj:j<n
   ·have m9:=AdX (su j hj) hj
    obtain ⟨f1,f2,f3,f4,f5⟩:=Jc j;(repeat' ((first|(apply BB<;>intro hc<;>try omega)|(apply B7;omega)|(apply BS;omega)|apply A7|refine AY (f2) ?_|refine AY (f5) ?_)<;>conv=>whnf))
    refine W5 (enc:=eQ) (-(A.getD (j+1) 0)) rfl (λ_=>rfl) (by omega) ?_;(conv=>whnf)
    (repeat' ((first|(apply BS;omega)|fail)<;>conv=>whnf))
    rw[m9];exact D0 [] (ih (j+1) (by omega) (by omega))
   obtain rfl:j=n:=by omega
   clear ih;rw[AdV Kk];obtain ⟨f1,f2,f3,f4,f5⟩:=Jc 0;(repeat' ((first|(apply BB<;>intro hc<;>try omega)|apply A7)<;>conv=>whnf))
   refine B7 ⟨by rw[List.length_map];omega,by omega⟩ ?_;(conv=>whnf)
   (repeat' ((first|(apply BS;omega)|apply FM|refine AY (Ee) ?_|refine AY (f1) ?_|refine AY (f2) ?_|refine AY (f3) ?_|refine AY (f4) ?_)<;>conv=>whnf))
   refine Yk (enc:=eQ) (B.getD (0+1) 0-b0*A.getD (0+1) 0) rfl rfl (by omega) ?_;(conv=>whnf)
   (repeat' ((first|(apply BS;omega)|fail)<;>conv=>whnf))
   refine QV (λ i=>j-i) (λ(i:Nat)=>1<=i/\i<=j) (λ i=>[(37,.int .i64 i)]) (λ i=>[(5,5,.bx ([.row 67 0 1 0 i,.row 28 0 3 0 j,.row 88 0 3 0 i]++eQ b0)),(67,67,.mx (NY 3 eQ (a.take i))),(88,88,.rw 3 ((c.take i).map eQ))]) [] [] 1 (by first|exact (by (conv=>whnf);exact ⟨rfl,rfl,rfl⟩)|(rw[Ir (by omega),ub (by omega)];exact (by (conv=>whnf);exact ⟨rfl,rfl,rfl⟩))) (by omega) ?_;intro i ⟨g1,g2⟩ ih;have Iu:(a.take i).length=i:=by rw[List.length_take];omega
   have Jd:(c.take i).length=i:=by rw[List.length_take];omega
   by_cases hi:i<j
   ·obtain ⟨f1,f2,f3,f4,f5⟩:=Jc i
    have hsa:=Qm (hai i g1 hi);have hsc:=Qm (hci i hi);have Iv:(a.take (i+1)).length=i+1:=by rw[List.length_take];omega
    have Je:(c.take (i+1)).length=i+1:=by rw[List.length_take];omega
    have Aqp:=lu ((i-1:Nat):Int);(repeat' ((first|(apply BB<;>intro hc<;>try omega)|apply A7)<;>conv=>whnf))
    refine OP (enc:=eQ) j hZ (by simp) ?_;(conv=>whnf)
    (repeat' ((first|(apply BB<;>intro hc<;>try omega)|(apply B7;omega)|(apply DC;omega)|refine AY (hO) ?_)<;>conv=>whnf))
    refine bV (enc:=eQ) (i-1) 1 (by omega) rfl (λ_=>rfl) (by simp;omega) ?_;(conv=>whnf)
    rw[rN];skip
    refine B7 (by rw[List.length_map];omega) ?_;refine Yi (r:=F4 j ((i-1:Nat):Int)) (en:=eQ) Iu.symm (by omega) (by omega) ?_;rw[<-hsa,Iv];(conv=>whnf)
    (repeat' ((first|(apply BS;omega)|apply FM|refine AY (Ee) ?_|refine AY (f1) ?_|refine AY (f2) ?_|refine AY (f3) ?_|refine AY (f4) ?_)<;>conv=>whnf))
    refine G3 (enc:=eQ) (B.getD (i+1) 0-b0*A.getD (i+1) 0) rfl Jd.symm rfl (by omega) (by omega) ?_;rw[<-hsc,Je];(conv=>whnf)
    (repeat' ((first|(apply BS;omega)|fail)<;>conv=>whnf))
    exact D0 [(67,1000067),(88,1000088)] (ih (i+1) (by omega) (by omega))
   obtain rfl:i=j:=by omega
   clear ih;rw[zT (Nat.le_of_eq vp),zT (Nat.le_of_eq n8)]at *;(repeat' ((first|(apply BB<;>intro hc<;>try omega)|apply A7)<;>conv=>whnf))
   refine sS (λ_=>rfl) rfl vp.symm ?_;(conv=>whnf)
   refine GR (enc:=eQ) (λ_=>rfl) rfl (lu 0).symm ?_;(conv=>whnf)
   refine GR (enc:=eQ) (λ_=>rfl) rfl n8.symm ?_;(conv=>whnf)
   exact BU rfl jq
theorem AdN {B A:List Rat} {n:Nat} : ∀ r∈(GS B A n).a,r.length=n:=by
 intro r hr;simp only[GS,List.mem_map]at hr;obtain ⟨i,_,rfl⟩:=hr;split
 ·simp
 ·exact aT _ _
theorem Afh (N:ct L) (S:EV) (n k:Nat) (q:Bool) (h:S.Ok n k) (hn:n<=64) (hk:k<2199023255552) :
  Ev L 167 [.agg ([.sl false (S.a.map λ r=>[AV.sl false (r.map eQ)]),.sl false (S.b.map eQ),.sl false (S.c.map eQ)]++eQ S.d),.agg ([.sl q (S.a.map λ r=>[AV.sl q (r.map eQ)]),.sl q (S.b.map eQ),.sl q (S.c.map eQ)]++eQ S.d)] (.bool true):=by
 have hD:=YJ N.toa8 h.bd h.bd hk hk;rw[jG.2 rfl]at hD;have hB:=ZW N.toa8 S.b S.b false q k h.bb h.bb hk (by have:=h.lb;omega);have hC:=ZW N.toa8 S.c S.c false q k h.bc h.bc hk (by have:=h.lc;omega);rw[decide_eq_true rfl]at hB hC;have Bi:=h.la;refine Ev.x N.P2 rfl rfl ?_;(repeat' ((first|(apply BB<;>intro hc<;>try omega)|apply BR|apply A7|refine AY (hB) ?_|refine AY (hC) ?_|refine AY (hD) ?_)<;>conv=>whnf))
 refine HC (λ i=>S.a.length-i) (λ(i:Nat)=>i<=S.a.length) (λ i=>[(5,.int .i64 i)]) (λ_=>[]) 0 (by omega) ?_;intro i p1 ih;by_cases hi:i<S.a.length
 ·obtain ⟨r,hr⟩ : ∃ r,S.a[i]? = some r:=⟨_,zE hi⟩
  have Fo:S.a[(i:Int).toNat]? = some r:=hr;have Bo:=h.ba r (zM hr);have Ft:=h.lr r (zM hr);have hR:=ZW N.toa8 r r false q k Bo Bo hk (by omega);rw[decide_eq_true rfl]at hR;(repeat' ((first|(apply BB<;>intro hc<;>try omega)|(apply BS;omega)|apply BR|(refine CT (by assumption) ?_ rfl ?_;omega)|apply A7|refine AY (hR) ?_)<;>conv=>whnf))
  exact D0 [] (ih (i+1) (by omega) (by omega))
 ·obtain rfl:i=S.a.length:=by omega
  clear ih;(repeat' ((first|(apply BB<;>intro hc<;>try omega)|apply BR|apply A7)<;>conv=>whnf))
  exact H8 rfl
theorem Bt.ng {k:Nat} {x:Rat} (h:Bt k x):Bt k (-x):=⟨by simpa using h.1,by simpa using h.2⟩
theorem AdM {B A:List Rat} {n:Nat} (hB:Bs 4 B) (hA:Bs 4 A):(GS B A n).Ok n 80:=by
 have hs : ∀ i,Bt 80 (B.getD i 0-B.getD 0 0*A.getD i 0):=λ i=>by
  rw[Rat.sub_eq_add_neg];exact ((VI hB i).add ((VI hB 0).mul (VI hA i)).ng).le (by omega)
 have hu : ∀ j,Bs 80 (F4 n j):=λ j x hx=>by
  simp only[F4,List.mem_map]at hx;obtain ⟨i,_,rfl⟩:=hx;split
  ·exact Bt.one _
  ·exact Bt.zero _
 refine ⟨uP B A n,AdN,aT _ _,uR B A n,?_,hu 0,?_,(VI hB 0).le (by omega)⟩
 ·intro r hr
  simp only[GS,List.mem_map]at hr;obtain ⟨i,_,rfl⟩:=hr;split
  ·intro x hx
   obtain ⟨j,_,rfl⟩:=List.mem_map.1 hx;exact (VI hA _).ng.le (by omega)
  ·exact hu _
 ·intro x hx
  simp only[GS,List.mem_map]at hx;obtain ⟨i,_,rfl⟩:=hx;exact hs _
theorem AgB:Bt 4 (Rat.divInt 1 2):=(Bt.mk (k:=4) (z:=1) (d:=2) (by decide) (by decide))
theorem Afx (N:fe L):Ev L 215 [] (.bool true):=by
 have A:v5 L:=N.tov5;have hO:=ZY A.toa8 1 (by omega);have hF:=gU A.toa8 1 2 (by omega) (by omega);have hh:=AgB;have m7 : -(Rat.divInt 1 2)≠0:=by decide
 generalize Rat.divInt 1 2=h at *;have hN:=AfF A.todh hh (by omega);have hA:Bs 4 [1,-h]:=λ x hx=>by
  rcases List.mem_cons.1 hx with rfl|hx
  ·exact Bt.one 4
  ·obtain rfl:=List.mem_singleton.1 hx
   exact hh.ng
 have hB:Bs 4 [(1:Rat)]:=λ x hx=>by
  obtain rfl:=List.mem_singleton.1 hx;exact Bt.one 4
 have tB:VW [(1:Rat)]=[1]:=by decide
 have tA:VW [1,-h]=[1,-h]:=by
  show List.take (if -h=0 then _ else 2) [1,-h]=_;rw[if_neg m7];rfl
 have hC:=Afc A true true [1] [1,-h] 1 4 tB tA hB hA (by simp) (by simp) rfl rfl (by omega);have j9:(GS [1] [1,-h] 1).Ok 1 80:=AdM hB hA;have e:GS [1] [1,-h] 1=⟨[[h]],[1],[h],1⟩:=by
  have:GS [1] [1,-h] 1=⟨[[- -h]],[1],[0-1 * -h],1⟩:=rfl
  rw[this,Rat.neg_neg,show 0-1 * -h=h by grind]
 rw[e]at hC j9;have hS:=Afh N.toct ⟨[[h]],[1],[h],1⟩ 1 80 true j9 (by omega) (by omega);refine Ev.x N.RM rfl rfl ?_;(repeat' ((first|(apply BB<;>intro hc<;>try omega)|refine PC rfl ?_|refine bN rfl rfl ?_|apply A7|refine AY (hO) ?_|refine AY (hF) ?_|refine AY (hN) ?_|refine AY (hC) ?_)<;>conv=>whnf))
 refine B7 rfl ?_;(conv=>whnf)
 (repeat' ((first|refine PC rfl ?_|refine AY (hS) ?_)<;>conv=>whnf))
 exact H8 rfl
end Go.e6

namespace Go.e6
open Go.ChangeShapes Go.WideShapes Go.ChangeAt Go.RowKit
inductive Ty where
 | int (k:IntKind)
 | bool
 | sl (e:Ty)
 | nil
 | cons (a r:Ty)
def Ty.cells:Ty->Nat
 | .int _=>1 | .bool=>1 | .sl _=>1
 | .nil=>0
 | .cons a r=>a.cells+r.cells
def NP:Ty->List AV->Prop
 | .int k,cs => ∃ n,cs=[.int k n]/\(Lit.int k n).wf=true
 | .bool,cs => ∃ b,cs=[.bool b]
 | .sl e,cs => ∃ es,cs=[.sl true es]/\es.length<=maxLen /\ ∀ x∈es,NP e x
 | .nil,cs=>cs=[]
 | .cons a r,cs => ∃ x y,cs=x++y/\NP a x/\NP r y
theorem NP.len : ∀ {ty:Ty} {cs:List AV},NP ty cs->cs.length=ty.cells
 | .int _,cs,h=>by obtain ⟨n,rfl,_⟩:=h;rfl
 | .bool,cs,h=>by obtain ⟨n,rfl⟩:=h;rfl
 | .sl _,cs,h=>by obtain ⟨n,rfl,_⟩:=h;rfl
 | .nil,cs,h=>by rw[show cs=[] from h];rfl
 | .cons a r,cs,h=>by obtain ⟨x,y,rfl,h1,h2⟩:=h;simp [Ty.cells,NP.len h1,NP.len h2]
def SK (P:Program):Nat->TypeId->Ty->Bool
 | 0,_,_=>false
 | n+1,t,ty=>match P.underlying t,ty with
  | some (.int k),.int k'=>decide (k=k')
  | some .bool,.bool=>true
  | some (.slice e),.sl mb=>SK P n e mb&&(P.cellsOf e == mb.cells&&decide (0<mb.cells))
  | some (.struct fs),ty=>go (SK P n) fs.toList 0 ty&&P.cellsOf t == ty.cells
  | _,_=>false
where
 go (ok:TypeId->Ty->Bool):List Field->Nat->Ty->Bool
  | [],_,.nil=>true
  | f::fs,off,.cons a r=>(f.offset == off&&(ok f.type a&&P.cellsOf f.type == a.cells))&&go ok fs (off+a.cells) r
  | _,_,_=>false
section
variable {H:Type} {enc:TypeId × Value->H} {P:Program} {w:World} {base:Nat} {spare:Nat->Bool} {held:Bool} {R:Bool->Nat->Prop}
def N8 (w:World) (R:Bool->Nat->Prop) (as:List AV) (cs:List Value):Prop:=as.length=cs.length /\ ∀ (j:Nat) (a:AV) (c:Value),as[j]? = some a->cs[j]? = some c->Rd w R a c
theorem N8.one {a:AV} {c:Value} (h:Rd w R a c):N8 w R [a] [c]:=by
 refine ⟨rfl,λ j a' c' h1 h2 => ?_⟩;cases j with
 | zero=>simp at h1 h2;subst h1 h2;exact h
 | succ j=>simp at h1
theorem N8.append {as bs:List AV} {cs ds:List Value} (h1:N8 w R as cs) (h2:N8 w R bs ds):N8 w R (as++bs) (cs++ds):=by
 refine ⟨by simp [h1.1,h2.1],λ j a c ha hc => ?_⟩;by_cases hj:j<as.length
 ·rw[List.getElem?_append_left hj]at ha
  rw[List.getElem?_append_left (by rw[<-h1.1];exact hj)]at hc;exact h1.2 j a c ha hc
 ·rw[List.getElem?_append_right (by omega)]at ha
  rw[List.getElem?_append_right (by rw[<-h1.1];omega),<-h1.1]at hc;exact h2.2 _ a c ha hc
theorem sY (a:Addr) (i:Nat) (h:a.spot=none):a.add i=⟨a.block,a.off+i,none⟩:=by
 obtain ⟨b,o,s⟩:=a;simp only at h;subst h;exact NS b o i
theorem Pa (hR : ∀ b,b<w.heap.size->R true b) (m:Nat) (ih : ∀ (ty:Ty) (t:TypeId) (cs:List Value) (fuel:Nat) (x:DataW H × List MemPlace),SK P m t ty=true->DataW.trod enc P w base spare held fuel t cs=some x -> ∃ as,NP ty as/\N8 w R as cs)
  (n:Nat) (cs:List Value) : ∀ (fs:List Field) (off:Nat) (ty:Ty),SK.go P (SK P m) fs off ty=true->(∀ f∈fs,∃ y,DataW.trod enc P w base spare held n f.type ((cs.drop f.offset).take (P.cellsOf f.type))=some y)->off+ty.cells=cs.length -> ∃ as,NP ty as/\N8 w R as (cs.drop off)
 | [],off,ty,j9,_,hl=>by
  cases ty<;>simp only[SK.go,Bool.false_eq_true]at j9;simp only[Ty.cells]at hl;exact ⟨[],rfl,by rw[List.drop_of_length_le (by omega)];exact ⟨rfl,λ j a c h=>by simp at h⟩⟩
 | f::fs,off,ty,j9,hf,hl=>by
  cases ty<;>simp only[SK.go,Bool.false_eq_true,Bool.and_eq_true,beq_iff_eq]at j9;rename_i a r;obtain ⟨⟨h1,h2,h3⟩,h4⟩:=j9;simp only[Ty.cells]at hl;obtain ⟨y,hy⟩:=hf f List.mem_cons_self;rw[h1,h3]at hy;obtain ⟨Qy,g1,g2⟩:=ih a f.type _ n y h2 hy;obtain ⟨Qz,g3,g4⟩:=Pa hR m ih n cs fs (off+a.cells) r h4 (λ f' h'=>hf f' (List.mem_cons_of_mem _ h')) (by omega);refine ⟨Qy++Qz,⟨Qy,Qz,rfl,g1,g3⟩,?_⟩;have:=g2.append g4
  rwa [show (cs.drop off).take a.cells++cs.drop (off+a.cells)=cs.drop off by rw[<-List.drop_drop,List.take_append_drop]]at this
theorem Oz (hR : ∀ b,b<w.heap.size->R true b) : ∀ (m:Nat) (ty:Ty) (t:TypeId) (cs:List Value) (fuel:Nat) (x:DataW H × List MemPlace),SK P m t ty=true->DataW.trod enc P w base spare held fuel t cs=some x -> ∃ as,NP ty as/\N8 w R as cs
 | 0,_,_,_,_,_,h,_=>by simp [SK]at h
 | m+1,ty,t,cs,fuel,x,j9,h=>by
  have ih:=Oz hR m;simp only[SK]at j9;split at j9
  ·rename_i k k' hu
   obtain rfl:k=k':=by simpa using j9
   obtain ⟨n,rfl,_,hw⟩:=DataW.trod_int hu h;exact ⟨[.int k n],⟨n,rfl,hw⟩,N8.one (.int k n)⟩
  ·rename_i hu
   cases fuel with
   | zero=>simp [DataW.trod]at h
   | succ fuel =>
    unfold DataW.trod at h;rw[hu]at h;split at h<;>simp_all
    exact ⟨_,⟨_,rfl⟩,N8.one (.bool _)⟩
  ·rename_i e mb hu
   simp only[Bool.and_eq_true,beq_iff_eq,decide_eq_true_eq]at j9;obtain ⟨h1,h2,h3⟩:=j9;rcases DataW.trod_slice hu h with ⟨rfl,_⟩|⟨a,len,cap,elems,rest,n,_,rfl,_,hb,hl,hm,hlen,et,_,_⟩
   ·exact ⟨[.sl true []],⟨[],rfl,by simp,by simp⟩,N8.one (.jx true none 0)⟩
   ·have each : ∀ i,i<len -> ∃ as er,NP mb as/\N8 w R as er/\er.length=mb.cells /\ ∀ j,j<mb.cells->w.cell? ((a.add (i*mb.cells)).add j)=er[j]? := by
     intro i hi;have:=et i hi
     rw[h2,zE (by omega),Option.bind_eq_some_iff]at this;obtain ⟨er,hc,ht⟩:=this;obtain ⟨as,g1,g2⟩:=ih mb e er n _ h1 ht;obtain ⟨_,q1,q2⟩:=World.cells?_some hc;exact ⟨as,er,g1,g2,q1,q2⟩
    by_cases h0:len=0
    ·subst h0
     exact ⟨[.sl true []],⟨[],rfl,by simp,by simp⟩,N8.one (.jx true (some a) cap)⟩
    ·have Af:a.spot=none:=by
      obtain ⟨as,er,_,_,q1,q2⟩:=each 0 (by omega);have:=q2 0 h3
      rw[zE (by omega)]at this;simpa [Addr.add] using World.cell?_spot this
     have mv:a.block<w.heap.size:=by
      obtain ⟨as,er,_,_,q1,q2⟩:=each 0 (by omega);have:=q2 0 h3
      rw[zE (by omega)]at this;simpa [Addr.add] using X8 this
     have pick : ∃ f:Nat->List AV × List Value,∀ i,i<len->NP mb (f i).1/\N8 w R (f i).1 (f i).2/\(f i).2.length=mb.cells /\ ∀ j,j<mb.cells->w.cell? ((a.add (i*mb.cells)).add j)=(f i).2[j]? := by
      refine ⟨λ i=>if hi:i<len then (Classical.choose (each i hi),Classical.choose (Classical.choose_spec (each i hi))) else ([],[]),λ i hi => ?_⟩;simp only[hi,dif_pos];exact Classical.choose_spec (Classical.choose_spec (each i hi))
     obtain ⟨f,hf⟩:=pick;have o0 : ∀ i e',((List.range len).map λ i=>(f i).1)[i]? = some e'->i<len/\e'=(f i).1:=by
      intro i e' he;rw[List.getElem?_map]at he;by_cases hi:i<len
      ·rw[List.getElem?_range hi]at he
       simp at he;exact ⟨hi,he.symm⟩
      ·rw[List.getElem?_eq_none (by simpa using hi)]at he
       cases he
     refine ⟨[.sl true ((List.range len).map λ i=>(f i).1)],⟨_,rfl,by simp;omega,λ x hx => ?_⟩,N8.one ?_⟩
     ·obtain ⟨i,hi,rfl⟩:=List.mem_map.1 hx
      exact (hf i (List.mem_range.1 hi)).1
     ·obtain ⟨ab,ao,as⟩:=a
      simp only at Af;subst Af;have zu:((List.range len).map λ i=>(f i).1).length=len:=by simp
      have:=Rd.sl (w:=w) (R:=R) true ((List.range len).map λ i=>(f i).1) ab ao mb.cells cap (λ i j=>((f i).2[j]?).getD default) (by intro e;have:=congrArg List.length e;simp at this;omega) h3 (hR ab mv) (by rw[zu];exact hl)
       (λ e' he=>by
        obtain ⟨i,hi,rfl⟩:=List.mem_map.1 he;exact (hf i (List.mem_range.1 hi)).1.len)
       (λ i e' he j c hc=>by
        obtain ⟨hi,rfl⟩:=o0 i e' he;obtain ⟨g1,g2,g3,g4⟩:=hf i hi;have hj:j<mb.cells:=by
         have:=(zS hc).1
         rwa [g1.len]at this
        have h5:=g4 j hj;rw[sY ⟨ab,ao,none⟩ (i*mb.cells) rfl,sY _ _ rfl]at h5;simp only at h5;rw[show ao+(i*mb.cells+j)=ao+i*mb.cells+j by omega,h5,zE (by omega)];rfl)
       (λ i e' he j c hc=>by
        obtain ⟨hi,rfl⟩:=o0 i e' he;obtain ⟨g1,g2,g3,g4⟩:=hf i hi;have hj:j<mb.cells:=by
         have:=(zS hc).1
         rwa [g1.len]at this
        have h6:(f i).2[j]? = some ((f i).2[j]'(by omega)):=zE _;rw[h6];exact g2.2 j c _ hc h6)
      rwa [zu]at this
  ·rename_i fs hu
   simp only[Bool.and_eq_true,beq_iff_eq]at j9;obtain ⟨h1,h2⟩:=j9;obtain ⟨xs,n,_,_,hl,hlen,hf⟩:=DataW.trod_struct hu h;have:=Pa hR m ih n cs fs.toList 0 _ h1 (λ f mw=>by
    obtain ⟨i,hi,rfl⟩:=List.getElem_of_mem mw;have h5:=hf i fs.toList[i] (by simp);rw[h5,zE (by simpa [hlen] using hi)];exact ⟨_,rfl⟩) (by rw[hl,h2];omega)
   simpa using this
  ·exact absurd j9 (by simp)
theorem dS {S:Nat->Prop} {ty:Ty} {t:TypeId} {v:Value} {d:DataW H} {ps:List MemPlace} {m:Nat} (j9:SK P m t ty=true) (hv:v.cells.toList=[v]) (h:DataW.Trod enc P w base spare held t v d ps) :
  ∃ a,NP ty [a]/\CA w.heap.size S ⟨λ_ _=>none,BC.emp,w⟩ a v:=by
 obtain ⟨fuel,hf⟩:=h;rw[hv]at hf;obtain ⟨as,h1,h2⟩:=Oz (R:=safe w.heap.size S ⟨λ_ _=>none,BC.emp,w⟩) (λ b hb=>Or.inr (Or.inr ⟨rfl,hb⟩)) m ty t [v] fuel _ j9 hf;obtain ⟨a,rfl⟩ : ∃ a,as=[a]:=by
  have:=h2.1
  match as,this with
  | [a],_=>exact ⟨a,rfl⟩
 exact ⟨a,h1,.one (.rd (h2.2 0 a v rfl rfl))⟩
end
theorem Adk {B:Nat} {S:Nat->Prop} {m:M} : ∀ (j:Nat) (c:AV) (v:Value),([]:List AV)[j]? = some c->([]:List Value)[j]? = some v->CA B S m c v:=λ j c v h=>by simp at h
theorem bX {B:Nat} {S:Nat->Prop} {m:M} {a:AV} {u:Value} {as:List AV} {us:List Value} (h:CA B S m a u) (hr : ∀ (j:Nat) (c:AV) (v:Value),as[j]? = some c->us[j]? = some v->CA B S m c v) :
  ∀ (j:Nat) (c:AV) (v:Value),(a::as)[j]? = some c->(u::us)[j]? = some v->CA B S m c v
 | 0,c,v,h1,h2=>by simp at h1 h2;subst h1 h2;exact h
 | j+1,c,v,h1,h2=>hr j c v (by simpa using h1) (by simpa using h2)
theorem Ahn {P:Program} {num:Nat->Nat} {L:Lib} (hP:ProgOK P num L) {f:Nat} {vs:List AV} (h:Ev L f vs (.bool true)) {S:Nat->Prop} {w:World} {us:List Value} (hl:vs.length=us.length)
  (ha : ∀ (j:Nat) (c:AV) (v:Value),vs[j]? = some c->us[j]? = some v->CA w.heap.size S ⟨λ_ _=>none,BC.emp,w⟩ c v) :
  Calls P (num f) us.toArray w λ e w'=>e = .returned (.bool true)/\Below w.heap.size w w':=by
 obtain ⟨n,hn⟩:=h;refine ((Adt hP n).pure f vs _ hn S w us hl ha).mono ?_;rintro e w' ⟨u,rfl,hb,w5,_⟩
 refine ⟨?_,hb⟩;cases w5 with
 | ca qy=>cases qy with
  | one ag=>cases ag with
   | rd mh=>cases mh;rfl
end Go.e6

namespace Go.e6
set_option maxHeartbeats 4000000
abbrev tI:Ty := .int .i64
theorem zN {α:Type} {enc:α->List AV} {p:α->Prop} : ∀ {es:List (List AV)},(∀ x∈es,∃ y,x=enc y/\p y) -> ∃ l:List α,es=l.map enc /\ ∀ y∈l,p y
 | [],_=>⟨[],rfl,by simp⟩
 | e::es,h=>by
  obtain ⟨y,rfl,hy⟩:=h e List.mem_cons_self;obtain ⟨l,rfl,hl⟩:=zN (enc:=enc) (p:=p) λ x hx=>h x (List.mem_cons_of_mem _ hx)
  exact ⟨y::l,rfl,by simpa using ⟨hy,hl⟩⟩
theorem AgS {α:Type} {enc:α->List AV} {p:α->Prop} {e:Ty} {cs:List AV} (he : ∀ x,NP e x -> ∃ y,x=enc y/\p y) (h:NP (.sl e) cs) : ∃ l:List α,cs=[.sl true (l.map enc)]/\l.length<9223372036854775808 /\ ∀ y∈l,p y:=by
 obtain ⟨es,rfl,hl,hx⟩:=h;obtain ⟨l,rfl,hp⟩:=zN (enc:=enc) (p:=p) λ x hm=>he x (hx x hm)
 refine ⟨l,rfl,?_,hp⟩;have:maxLen=9223372036854775807:=rfl
 simp at hl;omega
theorem Ajm {n:Int} (h:(Lit.int .i64 n).wf=true):JR n:=by
 simp only[Lit.wf,Bool.and_eq_true,decide_eq_true_eq]at h;have h1:IntKind.i64.min = -9223372036854775808:=rfl;have h2:IntKind.i64.max=9223372036854775807:=rfl;rw[h1,h2]at h;unfold JR;constructor<;>omega
theorem iB {cs:List AV} (h:NP tI cs) : ∃ n,cs=GJ n/\JR n:=by obtain ⟨n,rfl,hw⟩:=h;exact ⟨n,rfl,Ajm hw⟩
theorem AgR {cs:List AV} (h:NP (.sl tI) cs) : ∃ l:List Int,cs=[.sl true (l.map GJ)]/\l.length<9223372036854775808 /\ ∀ v∈l,JR v:=AgS (λ_=>iB) h
end Go.e6

namespace Go.e6
open F
attribute [local irreducible] AH A8 BT A5 EW BJ CS CR EU DK EE II C8 B5 DB FG AP CG BF pw HE FL HO HG HN G2 G5 DG FF
variable {L:Lib}
set_option maxHeartbeats 8000000
end Go.e6

namespace Go.e6
variable {L:Lib}
end Go.e6

namespace Go.e6
open F
attribute [local irreducible] AH A8 BT A5 EW BJ CS CR EU DK EE II C8 B5 DB FG AP CG BF pw HE FL HO HG HN G2 G5 DG FF
variable {L:Lib}
set_option maxHeartbeats 16000000
theorem Ah5 (x:Rat):qv false (dg x.num.natAbs) (dg x.den)=OA x:=by
 unfold OA;split
 ·rename_i h
  have:=IV (-x)
  rw[Rat.neg_num,Int.natAbs_neg,Rat.neg_den,show decide (-x.num<0)=false from decide_eq_false (by omega)]at this;exact this
 ·rename_i h
  have:=IV x
  rw[show decide (x.num<0)=false from decide_eq_false h]at this;exact this
theorem Ae9 (N:fg L) {x:Rat} {k:Nat} (hx:Bt k x) (hk:k<2199023255552):Ev L 256 [.agg (eQ x)] (.agg (eQ (OA x))):=by
 have hs:=hx.sm hk;have hT:=nO N.tob7 false false false (dg x.num.natAbs) (dg x.den) (hs.1.le (by omega)) (hs.2.le (by omega));rw[Ah5]at hT;refine Ev.x N.SP rfl rfl ?_;(repeat' ((first|apply A7|refine AY (hT) ?_)<;>conv=>whnf))
 exact BU rfl (G7 _)
theorem xV {z:Int} {d:Nat} (h:d≠0):(mkRat z d).floor=z/(d:Int):=by
 rw[Rat.floor_def];have hx:=Rat.den_nz (mkRat z d);have e:mkRat (mkRat z d).num (mkRat z d).den=mkRat z d:=Rat.mkRat_self _;rw[Rat.mkRat_eq_iff hx h]at e;generalize (mkRat z d).num=p at *;generalize (mkRat z d).den=q at *;have h1:p/(q:Int)=(p*(d:Int))/((q:Int)*d):=(Int.mul_ediv_mul_of_pos_left p (q:Int) (by omega)).symm;have h2:z/(d:Int)=(z*(q:Int))/((d:Int)*q):=(Int.mul_ediv_mul_of_pos_left z (d:Int) (by omega)).symm;rw[h1,h2,e,Int.mul_comm (q:Int) d]
theorem Agn {a d:Nat} (h:d≠0):(-(a:Int))/(d:Int) = -((if 0<a%d then a/d+1 else a/d:Nat):Int):=by
 have h1:=Nat.div_add_mod a d;have h2:=Nat.mod_lt a (Nat.pos_of_ne_zero h);generalize a/d=q at *;generalize a%d=r at *;split
 ·refine ((Int.ediv_emod_unique (r:=(d:Int)-r) (by omega)).2 ⟨?_,by omega,by omega⟩).1
  rw[<-h1,Int.mul_neg];push_cast
  rw[Int.mul_add];omega
 ·obtain rfl:r=0:=by omega
  refine ((Int.ediv_emod_unique (r:=0) (by omega)).2 ⟨?_,by omega,by omega⟩).1;rw[<-h1,Int.mul_neg];push_cast
  omega
theorem Aft (N:ae L) (n:Bool) (m d:List Nat) (hm:Sm 549755813880 m) (hd:Sm 549755813880 d) (h0:val d≠0) :
  ∃ r:Int,∀ q1 q2,Ev L 383 [.agg (rZ q1 n m),.agg (rZ q2 false d)] (.g8 [.agg (eZ (zv n m/(val d:Int))),.agg (eZ r),.int .i64 0]):=by
 have hD:=λ q q'=>gT N.toc6 m d q q' hm.1 hd.1 (by have:=hm.2;omega) (by have:=hd.2;omega) h0
 have z0:=KB (val m/val d);have z1:=KB (val m%val d);have sq:Sm 549755813880 (dg (val m/val d)):=hm.low (Nat.div_le_self _ _);have sr:Sm 549755813880 (dg (val m%val d)):=hm.low (Nat.mod_le _ _);have l8:=Nat.mod_lt (val m) (Nat.pos_of_ne_zero h0);have n8 : ∀ a b:Int,B4 (.g8 [.agg (eZ a),.agg (eZ b),.int .i64 0]):=λ a b=>by
  simp only[B4,DN,and_true,true_and];exact ⟨EI _,EI _⟩
 have jq : ∀ (x a:Nat) (b c:Bool) (u v:Int),x=u.natAbs->a=v.natAbs->b=decide (u<0)->c=decide (v<0)->BF (.g8 [.agg [.bool b,.sl false ((dg x).map BG)],.agg [.bool c,.sl false ((dg a).map BG)],.int .i64 0]) (.g8 [.agg (eZ u),.agg (eZ v),.int .i64 0]):=λ x a b c u v e1 e2 e3 e4=>by
  rw[e1,e2,e3,e4];exact BU rfl (n8 _ _)
 cases n with
 | false =>
  refine ⟨((val m%val d:Nat):Int),λ q1 q2 => ?_⟩;rw[G1,<-Int.natCast_ediv];generalize val m/val d=Q at *;generalize val m%val d=R at *;refine Ev.x N.NW rfl rfl ?_;(repeat' ((first|(apply BB<;>intro hc<;>try omega)|apply A7|refine AY (hD _ _) ?_)<;>conv=>whnf))
  refine FN 1000 N.DT rfl rfl ?_;(repeat' (apply A7<;>conv=>whnf))
  all_goals (refine ⟨rfl,?_⟩;(conv=>whnf);skip)
  refine FN 1000 N.DT rfl rfl ?_;(repeat' (apply A7<;>conv=>whnf))
  all_goals (refine ⟨rfl,?_⟩;(conv=>whnf);skip)
  exact jq _ _ _ _ _ _ (by omega) (by omega) (H0 (by omega)) (H0 (by omega))
 | true =>
  have hA:=λ q q'=>wJ N.toc6 (dg (val m/val d)) [1] q q' sq.1 (LE (by omega)) (by have:=sq.2;omega) (by simp)
  rw[CX,show val [1]=1 from rfl]at hA;have hS:=λ q q'=>nF N.toc6 d (dg (val m%val d)) q q' hd.1 sr.1 (by have:=hd.2;omega) (by have:=sr.2;omega)
  rw[CX]at hS;have z2:=KB (val m/val d+1);rw[U2,Agn h0];by_cases hr:0<val m%val d
  ·refine ⟨((val d-val m%val d:Nat):Int),λ q1 q2 => ?_⟩
   rw[if_pos hr];generalize val m/val d=Q at *;generalize val m%val d=R at *;refine Ev.x N.NW rfl rfl ?_;(repeat' ((first|(apply BB<;>intro hc<;>try omega)|apply BR|refine PC rfl ?_|apply A7|refine AY (hD _ _) ?_|refine AY (hA _ _) ?_|refine AY (hS _ _) ?_)<;>conv=>whnf))
   refine FN 1000 N.DT rfl rfl ?_;(repeat' ((first|(apply BB<;>intro hc<;>try omega)|apply BR|apply A7)<;>conv=>whnf))
   all_goals (refine ⟨rfl,?_⟩;(conv=>whnf);skip)
   refine FN 1000 N.DT rfl rfl ?_;(repeat' (apply A7<;>conv=>whnf))
   all_goals (refine ⟨rfl,?_⟩;(conv=>whnf);skip)
   exact jq _ _ _ _ _ _ (by omega) (by omega) (P5 (by omega)) (H0 (by omega))
  ·refine ⟨0,λ q1 q2 => ?_⟩
   rw[if_neg hr];generalize val m/val d=Q at *;generalize val m%val d=R at *;by_cases hq:Q=0
   ·refine Ev.x N.NW rfl rfl ?_
    (repeat' ((first|(apply BB<;>intro hc<;>try omega)|apply BR|apply A7|refine AY (hD _ _) ?_)<;>conv=>whnf))
    refine FN 1000 N.DT rfl rfl ?_;(repeat' ((first|(apply BB<;>intro hc<;>try omega)|apply BR|apply A7)<;>conv=>whnf))
    all_goals (refine ⟨rfl,?_⟩;(conv=>whnf);skip)
    refine FN 1000 N.DT rfl rfl ?_;(repeat' (apply A7<;>conv=>whnf))
    all_goals (refine ⟨rfl,?_⟩;(conv=>whnf);skip)
    exact jq _ _ _ _ _ _ (by omega) (by omega) (H0 (by omega)) (H0 (by omega))
   ·refine Ev.x N.NW rfl rfl ?_
    (repeat' ((first|(apply BB<;>intro hc<;>try omega)|apply BR|apply A7|refine AY (hD _ _) ?_)<;>conv=>whnf))
    refine FN 1000 N.DT rfl rfl ?_;(repeat' ((first|(apply BB<;>intro hc<;>try omega)|apply BR|apply A7)<;>conv=>whnf))
    all_goals (refine ⟨rfl,?_⟩;(conv=>whnf);skip)
    refine FN 1000 N.DT rfl rfl ?_;(repeat' (apply A7<;>conv=>whnf))
    all_goals (refine ⟨rfl,?_⟩;(conv=>whnf);skip)
    exact jq _ _ _ _ _ _ (by omega) (by omega) (P5 (by omega)) (H0 (by omega))
theorem Afs (N:ae L) {x:Rat} {k:Nat} (hx:Bt k x) (hk:k<2199023255552):Ev L 384 [.agg (eQ x)] (.agg (eZ x.floor)):=by
 have hs:=hx.sm hk;obtain ⟨n',m',d',w,hr,s1,s2,s3,s4,s5⟩:=Q3 N.tob7 (decide (x.num<0)) (dg x.num.natAbs) (dg x.den) 68719476736 (by omega) hs.1 hs.2;rw[IV]at s5;have uw:=YL N.tob7 d';obtain ⟨r,hD⟩:=Aft N n' m' d' (s1.le (by omega)) (s2.le (by omega)) s3;rw[<-xV s3,<-s5]at hD;generalize x.floor=f at *;refine Ev.x N.SS rfl rfl ?_;(repeat' ((first|apply J7|apply WZ|apply A7|refine AY (hr) ?_|refine AY (uw) ?_|refine AY (hD _ _) ?_)<;>conv=>whnf))
 exact BU rfl (FQ _)
end Go.e6
