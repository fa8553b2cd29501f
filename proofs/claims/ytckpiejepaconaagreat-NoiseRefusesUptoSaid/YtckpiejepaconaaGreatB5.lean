/-
  Integers (layer 2).
-/
import Derived.Test.YtckpiejepaconaaGreatB4
import Derived.Test.YtckpiejepaconaaGreatB3
import Derived.Test.YtckpiejepaconaaGreatB1
import Derived.Test.YtckpiejepaconaaGreatB2
import Derived.ProofKit
import Derived.OpenShut
import Derived.ChangeOld
import Derived.WalkKit
import Derived.WideShapes
import Derived.ChangeArms
set_option linter.unusedSimpArgs false
set_option linter.unusedVariables false
set_option linter.unnecessarySimpa false
set_option maxHeartbeats 16000000
open Bool renaming and_eq_true->Wb,false_and->Uc,true_and->ze,and_false->Nf,false_eq_true->Ri
open Function renaming comp_def->Uf
open Int renaming natAbs_natCast->zc,toNat_natCast->Ad,natAbs_mul->pe,natAbs_neg->Uh,eq_ofNat_of_zero_le->Ih
open List renaming length_map->ta,getElem?_map->na,getD_eq_getElem?_getD->Wa,length_take->Sa,replicate->jb,mem_map->Sb,length_append->Gb,cons_append->Fb,getElem?_eq_none->oc,map_map->Wc,getElem?_append_right->Vc,range->Sc,all_cons->Qc,take_add_one->Pc,length_set->Ic,drop_eq_getElem_cons->xd,take_zero->od,getElem?_set->cd,getElem?_range->Vd,set_append_right->Td,range_succ->Od,map_congr_left->Kd,drop_of_length_le->Gd,mem_or_eq_of_mem_set->Ed,append_assoc->Bd,set_cons_zero->ye,getElem?_of_mem->te,all_eq_true->ie,append_nil->Ve,mem_cons_self->Ue,getElem?_drop->Te,ext_getElem?->Se,take_append_drop->Oe,length_replicate->Le,length_cons->Ke,map_cons->He,mem_cons_of_mem->Be,mem_append->Ae,map_append->yf,flatten_append->Vf,mem_singleton->Tf,mem_range->Sf,flatten_cons->Ef,length_drop->Cf,map_nil->Af,replicate_succ'->zg,mem_of_mem_take->pg,mem_flatten->Pg,nil_append->Gg,drop_zero->vh,getElem?_eq_none_iff->ph,getElem?_append_left->Vh,sum_cons->Th,getElem?_replicate->Mh,length_eq_one_iff->Lh,getElem?_zipWith->Ah,mem_of_mem_drop->yi,replicate_succ->gi,length_zipWith->ai,drop_succ_cons->Wi,getElem?_take->Si,length_range->Ni,map->Gi,mem_cons->Di,map_set->Ci,map_id'->vj
open Nat renaming le_refl->Cb,sub_self->Sd,le_trans->ve,succ_mul->Re,min_eq_left->pf,one_le_two_pow->Jf,le_mul_of_pos_right->Bf,one_mul->cg,zero_add->Tg,pow_add->Og,mul_le_mul->rh,le_mul_of_pos_left->Bh,zero_le->ki,mul_le_mul_left->Ui,mul_ne_zero->Ii,pow_zero->tj,pow_succ->oj,gcd->jj,add_zero->ij,mul_two->Wj,div_one->Tj,add_mul->Sj
open Option renaming some.inj->uc,map_some->We,toList_some->ag,getD_some->Vi
open Prod renaming snd->Qj
open Rat renaming intCast_natCast->xc,natCast_mul->Ud,intCast_mul->Dd,num_natCast->vf,den_natCast->rf,mul_inv_cancel->Lf,div_def->gg,zero_mul->Ug,natCast_inj->Eg,intCast_inj->yh,mul_assoc->Rh,neg_num->wi,neg_den->ui,sub_eq_add_neg->Oi,num_intCast->Mi,num_eq_zero->Li,den_intCast->Ki,mul_one->cj
namespace Go.j4
open F
attribute [local irreducible] AJ A5 BZ A0 FH B2 C6 C9 EO EC E0 HH D6 CT EJ E3 AM CZ BH pw EF DP FF FR F5 F7 E6 DQ GN
variable {L:Lib}
theorem AiQ {k:Nat} {K:Int->Prop} (h:0<k/\k<=9223372036854775808) (hk:K ((18446744073709551616-k:Nat):Int)):CO .u64 (-(k:Int)) K:=by
 refine ⟨?_⟩;have e:IntKind.u64.wrap (-(k:Int))=((18446744073709551616-k:Nat):Int):=by
  simp [IntKind.wrap,IntKind.bits,IntKind.signed];omega
 rw[e];exact hk
theorem FH.Vg {k:Nat} {K:AV->Prop} (h:0<k/\k<=9223372036854775808) (hk:K (.int .u64 (k:Int))):FH .neg .u64 ((18446744073709551616-k:Nat):Int) K:=by
 refine FH.go (v := .int .u64 (IntKind.u64.wrap (0-((18446744073709551616-k:Nat):Int)))) rfl ?_;have e:IntKind.u64.wrap (0-((18446744073709551616-k:Nat):Int))=(k:Int):=by
  simp [IntKind.wrap,IntKind.bits,IntKind.signed];omega
 rw[e];exact hk
theorem AnO (N:a7 L) (z:Int) (hz : -9223372036854775808<=z/\z<=9223372036854775807):Ev L 85 [.int .i64 z] (.agg (eZ z)):=by
 have two : ∀ k:Nat,k<18446744073709551616 -> ∀ q,Ev L 66 [.sl q [[.int .u32 ((k%4294967296:Nat):Int)],[.int .u32 ((k/4294967296:Nat):Int)]]] (.sl false ((dg k).map BK)):=λ k hk q=>by
  have:=mK N.toc9 [k%4294967296,k/4294967296] q (xH hk).2 p_
  rw[Aho hk]at this;exact this
 refine Ev.x N.bA rfl rfl ?_;by_cases h0:0<=z
 ·obtain ⟨k,rfl⟩:=Ih h0
  have hT:=two k D';have z1:=OP k;repeat' (first|(apply A7<;>intro hc<;>try omega)|apply JU|(apply E2;omega)|(apply IA;omega)|apply J7|refine iX rfl rfl ?_|apply AQ)<;>conv=>whnf
  generalize k%4294967296=lo at *;generalize k/4294967296=hi at *;(repeat' (refine AU (hT _) ?_<;>conv=>whnf))
  refine J1 1000 N.HD rfl rfl ?_;(repeat' (apply AQ<;>conv=>whnf))
  all_goals (refine ⟨rfl,?_⟩;(conv=>whnf);skip)
  exact B1 (IO D' (LG D')) (HA _)
 ·obtain ⟨k,hk⟩:=Ih (show 0 <= -z by omega)
  obtain rfl:z = -(k:Int):=D'
  have hT:=two k D';have z1:=OP k;(repeat' (apply AQ<;>conv=>whnf))
  refine AiQ D' ?_;conv=>whnf
  repeat' (first|(apply A7<;>intro hc<;>try omega)|fail)<;>conv=>whnf
  refine FH.Vg D' ?_;conv=>whnf
  repeat' (first|(apply A7<;>intro hc<;>try omega)|apply JU|(apply IA;omega)|apply J7|refine iX rfl rfl ?_)<;>conv=>whnf
  generalize k%4294967296=lo at *;generalize k/4294967296=hi at *;(repeat' (refine AU (hT _) ?_<;>conv=>whnf))
  refine J1 1000 N.HD rfl rfl ?_;repeat' (first|(apply A7<;>intro hc<;>try omega)|apply BW|apply AQ)<;>conv=>whnf
  all_goals (refine ⟨rfl,?_⟩;(conv=>whnf);skip)
  exact B1 (IO D' (WG D')) (HA _)
theorem AdR (N:a7 L) (n q:Bool) (m:a_) (hm:Sm 549755813888 m):Ev L 84 [.agg (rZ q n m)] (.agg (eZ (zv n m))):=by
 have hT:=λ q=>mK N.toc9 m q hm.1 (by have:=hm.2;omega)
 have hz:=OP (val m);have ha:=IP n m;refine Ev.x N.bC rfl rfl ?_;cases n
 ·rw[II]at *
  repeat' (first|apply AQ|refine AU (hT _) ?_)<;>conv=>whnf
  refine J1 1000 N.HD rfl rfl ?_;(repeat' (apply AQ<;>conv=>whnf))
  all_goals (refine ⟨rfl,?_⟩;(conv=>whnf);skip)
  exact B1 (IO ha.symm (LG D')) (HA _)
 ·rw[YP]at *
  repeat' (first|apply AQ|refine AU (hT _) ?_)<;>conv=>whnf
  refine J1 1000 N.HD rfl rfl ?_;repeat' (first|(apply A7<;>intro hc<;>try omega)|apply BW|apply AQ)<;>conv=>whnf
  all_goals (refine ⟨rfl,?_⟩;(conv=>whnf);skip)
  ·exact B1 (IO ha.symm (WG D')) (HA _)
  ·exact B1 (IO ha.symm (LG D')) (HA _)
theorem rW (N:a7 L) (n q:Bool) (m:a_) (hm:Sm 549755813888 m):Ev L 86 [.agg (rZ q n m)] (.int .i64 (ah (zv n m))):=by
 have n0:=λ q q'=>Y8 N.toc9 m [] q q' hm.1 jL (by have:=hm.2;omega) p_
 rw[QG]at n0;refine Ev.x N.bB rfl rfl ?_;by_cases h0:val m=0
 ·have hn:GE (val m) (0:Nat)=0:=(eL D').symm
  rw[hn]at n0;repeat' (first|(apply A7<;>intro hc<;>try omega)|apply AQ|refine AU (n0 _ _) ?_)<;>conv=>whnf
  exact F2 (uF (by have:=IP n m;omega))
 ·have hn:GE (val m) (0:Nat)=1:=(WY D').symm
  rw[hn]at n0;cases n
  ·repeat' (first|(apply A7<;>intro hc<;>try omega)|apply AQ|refine AU (n0 _ _) ?_)<;>conv=>whnf
   exact F2 (Abe (by rw[II];omega))
  ·repeat' (first|(apply A7<;>intro hc<;>try omega)|apply AQ|refine AU (n0 _ _) ?_)<;>conv=>whnf
   exact F2 (Abd (by rw[YP];omega))
theorem AdP (N:a7 L) (n1 n2 q1 q2:Bool) (a b:a_) (ha:Sm 549755813888 a) (hb:Sm 549755813888 b):Ev L 87 [.agg (rZ q1 n1 a),.agg (rZ q2 n2 b)] (.agg (eZ (zv n1 a+zv n2 b))):=by
 have la:=ha.2;have lb:=hb.2;have h1:=λ q q'=>An1 N.toc9 a b q q' ha.1 hb.1 D' D'
 have h2:=λ q q'=>AdW N.toc9 a b q q' ha.1 hb.1 D' D'
 have h3:=λ q q'=>AdW N.toc9 b a q q' hb.1 ha.1 D' D'
 have n0:=λ q q'=>Y8 N.toc9 a b q q' ha.1 hb.1 D' D'
 have z1:=OP (val a+val b);have z2:=OP (val a-val b);have z3:=OP (val b-val a);refine Ev.x N.aX rfl rfl ?_;by_cases n7:val a<val b
 ·have hn:GE (val a) (val b) = -1:=(OM D').symm
  rw[hn]at n0;cases n1<;>cases n2<;>simp only[II,YP]
  ·repeat' (first|apply AQ|refine AU (h1 _ _) ?_)<;>conv=>whnf
   refine J1 1000 N.HD rfl rfl ?_;(repeat' (apply AQ<;>conv=>whnf))
   all_goals (refine ⟨rfl,?_⟩;(conv=>whnf);skip)
   exact B1 (IO D' (LG D')) (HA _)
  ·repeat' (first|(apply A7<;>intro hc<;>try omega)|apply AQ|refine AU (h3 _ _) ?_|refine AU (n0 _ _) ?_)<;>conv=>whnf
   refine J1 1000 N.HD rfl rfl ?_;repeat' (first|(apply A7<;>intro hc<;>try omega)|apply BW|apply AQ)<;>conv=>whnf
   all_goals (refine ⟨rfl,?_⟩;(conv=>whnf);skip)
   ·exact B1 (IO D' (WG D')) (HA _)
  ·repeat' (first|(apply A7<;>intro hc<;>try omega)|apply AQ|refine AU (h3 _ _) ?_|refine AU (n0 _ _) ?_)<;>conv=>whnf
   refine J1 1000 N.HD rfl rfl ?_;(repeat' (apply AQ<;>conv=>whnf))
   all_goals (refine ⟨rfl,?_⟩;(conv=>whnf);skip)
   ·exact B1 (IO D' (LG D')) (HA _)
  ·repeat' (first|apply AQ|refine AU (h1 _ _) ?_)<;>conv=>whnf
   refine J1 1000 N.HD rfl rfl ?_;repeat' (first|(apply A7<;>intro hc<;>try omega)|apply BW|apply AQ)<;>conv=>whnf
   all_goals (refine ⟨rfl,?_⟩;(conv=>whnf);skip)
   ·exact B1 (IO D' (WG D')) (HA _)
 ·have hn:GE (val a) (val b) ≠ -1:=by unfold GE;split<;>(try split)<;>omega
  generalize GE (val a) (val b)=cm at *;cases n1<;>cases n2<;>simp only[II,YP]
  ·repeat' (first|apply AQ|refine AU (h1 _ _) ?_)<;>conv=>whnf
   refine J1 1000 N.HD rfl rfl ?_;(repeat' (apply AQ<;>conv=>whnf))
   all_goals (refine ⟨rfl,?_⟩;(conv=>whnf);skip)
   exact B1 (IO D' (LG D')) (HA _)
  ·repeat' (first|(apply A7<;>intro hc<;>try omega)|apply AQ|refine AU (h2 _ _) ?_|refine AU (n0 _ _) ?_)<;>conv=>whnf
   refine J1 1000 N.HD rfl rfl ?_;(repeat' (apply AQ<;>conv=>whnf))
   all_goals (refine ⟨rfl,?_⟩;(conv=>whnf);skip)
   exact B1 (IO D' (LG D')) (HA _)
  ·repeat' (first|(apply A7<;>intro hc<;>try omega)|apply AQ|refine AU (h2 _ _) ?_|refine AU (n0 _ _) ?_)<;>conv=>whnf
   refine J1 1000 N.HD rfl rfl ?_;repeat' (first|(apply A7<;>intro hc<;>try omega)|apply BW|apply AQ)<;>conv=>whnf
   all_goals (refine ⟨rfl,?_⟩;(conv=>whnf);skip)
   ·exact B1 (IO D' (WG D')) (HA _)
   ·exact B1 (IO D' (LG D')) (HA _)
  ·repeat' (first|apply AQ|refine AU (h1 _ _) ?_)<;>conv=>whnf
   refine J1 1000 N.HD rfl rfl ?_;repeat' (first|(apply A7<;>intro hc<;>try omega)|apply BW|apply AQ)<;>conv=>whnf
   all_goals (refine ⟨rfl,?_⟩;(conv=>whnf);skip)
   ·exact B1 (IO D' (WG D')) (HA _)
   ·exact B1 (IO D' (LG D')) (HA _)
theorem fK (N:a7 L) (n1 n2 q1 q2:Bool) (a b:a_) (ha:CM a) (hb:CM b) (hl:a.length+b.length<=1099511627776):Ev L 88 [.agg (rZ q1 n1 a),.agg (rZ q2 n2 b)] (.agg (eZ (zv n1 a*zv n2 b))):=by
 have h1:=λ q q'=>yO N.toc9 a b q q' ha hb hl
 have z1:=OP (val a*val b);have AtO:(zv n1 a*zv n2 b).natAbs=val a*val b:=by rw[pe,IP,IP]
 refine Ev.x N.aZ rfl rfl ?_;have e:zv n1 a*zv n2 b=bif n1 == n2 then ((val a*val b:Nat):Int) else -((val a*val b:Nat):Int):=by
  cases n1<;>cases n2<;>simp [II,YP,Int.mul_neg,Int.neg_mul]
 rw[e]at AtO ⊢;generalize val a*val b=V at *;cases n1<;>cases n2<;>simp only[beq_self_eq_true,cond_true,show (false == true)=false from rfl,show (true == false)=false from rfl,cond_false]
 ·repeat' (first|apply AQ|refine AU (h1 _ _) ?_)<;>conv=>whnf
  refine J1 1000 N.HD rfl rfl ?_;(repeat' (apply AQ<;>conv=>whnf))
  all_goals (refine ⟨rfl,?_⟩;(conv=>whnf);skip)
  exact B1 (IO D' (LG D')) (HA _)
 ·repeat' (first|apply AQ|refine AU (h1 _ _) ?_)<;>conv=>whnf
  refine J1 1000 N.HD rfl rfl ?_;repeat' (first|(apply A7<;>intro hc<;>try omega)|apply BW|apply AQ)<;>conv=>whnf
  all_goals (refine ⟨rfl,?_⟩;(conv=>whnf);skip)
  ·exact B1 (IO D' (WG D')) (HA _)
  ·exact B1 (IO D' (LG D')) (HA _)
 ·repeat' (first|apply AQ|refine AU (h1 _ _) ?_)<;>conv=>whnf
  refine J1 1000 N.HD rfl rfl ?_;repeat' (first|(apply A7<;>intro hc<;>try omega)|apply BW|apply AQ)<;>conv=>whnf
  all_goals (refine ⟨rfl,?_⟩;(conv=>whnf);skip)
  ·exact B1 (IO D' (WG D')) (HA _)
  ·exact B1 (IO D' (LG D')) (HA _)
 ·repeat' (first|apply AQ|refine AU (h1 _ _) ?_)<;>conv=>whnf
  refine J1 1000 N.HD rfl rfl ?_;(repeat' (apply AQ<;>conv=>whnf))
  all_goals (refine ⟨rfl,?_⟩;(conv=>whnf);skip)
  exact B1 (IO D' (LG D')) (HA _)
theorem xJ:dg 1=[1]:=by rw[QJ D'];simp [I6]
theorem AnR (N:a7 L) (V:Nat) (q:Bool):Ev L 90 [.sl q ((dg V).map BK)] (.bool (decide (V=1))):=by
 have hv:=EH V;have hD:=HM V;have h1:V=1->dg V=[1]:=λ h=>by rw[h,xJ]
 generalize dg V=l at *;refine Ev.x N.cD rfl rfl ?_;by_cases hl:l.length=1
 ·obtain ⟨d,rfl⟩:=Lh.1 hl
  have e:V=d:=by rw[<-hv];simp [val]
  subst e;have hd:[V][(0:Int).toNat]? = some V:=rfl;repeat' (first|(apply A7<;>intro hc<;>try omega)|apply BW|(refine CU G' ?_ rfl ?_;omega)|apply AQ)<;>conv=>whnf
  ·exact AbW D'
  ·exact vG D'
 ·repeat' (first|(apply A7<;>intro hc<;>try omega)|apply BW|apply AQ)<;>conv=>whnf
  exact vG (λ h=>by rw[h1 h]at hl;simp at hl)
theorem mN (N:a7 L) (n q1 q2:Bool) (m d:a_) (hm:Sm 549755813888 m) (hd:Sm 549755813888 d) (h0:val d≠0):Ev L 94 [.agg (rQ q1 q2 n m d)] (.agg (eQ (qv n m d))):=by
 have Pj:=λ q q'=>yN N.toc9 m d q q' hm.1 hd.1 hm.2 hd.2 h0
 have Ws:=IP n m;have sq:Sm 549755813888 (dg (val m/val d)):=hm.low (Nat.div_le_self _ _);have sr:Sm 549755813888 (dg (val m%val d)):=hd.low (Nat.le_of_lt (Nat.mod_lt _ D'));have hT:=λ q=>AdR N n q _ sq
 have hG:=λ q q'=>An2 N.toc9 d (dg (val m%val d)) q q' hd.1 sr.1 hd.2 sr.2
 rw[EH,show jj (val d) (val m%val d)=jj (val d) (zv n m).natAbs by rw[Ws,nD,Nat.gcd_comm]]at hG;have hgp:=Aez (zv n m).natAbs h0;have Pu:=Nat.gcd_le_left (zv n m).natAbs (show 0<val d by omega);have hz:=OP (val m%val d);obtain ⟨e1,e2,e3⟩:=Zk (z:=zv n m) h0;unfold qv;generalize hGG:jj (val d) (zv n m).natAbs=g at *;have h1:=λ q=>AnR N g q
 refine Ev.x N.cF rfl rfl ?_;by_cases z7:val m%val d=0
 ·repeat' (first|(apply A7<;>intro hc<;>try omega)|apply BW|apply AQ|refine AU (Pj _ _) ?_|refine AU (hT _) ?_)<;>conv=>whnf
  refine J1 1000 N.QR rfl rfl ?_;(repeat' (apply AQ<;>conv=>whnf))
  refine ⟨rfl,?_⟩;conv=>whnf
  (repeat' (refine OA rfl ?_<;>conv=>whnf))
  have vi:g=val d:=by
   rw[<-hGG,Ws];exact Nat.gcd_eq_left (Nat.dvd_of_mod_eq_zero z7)
  have hv:=EH (val m/val d);refine B1 ?_ ?_
  ·show _=AV.agg (rQ _ _ _ _ _)
   rw[e1,e2,e3,Ws,vi,Nat.div_self D',IP,hv,xJ];have hs:decide (zv n (dg (val m/val d))<0)=decide (zv n m<0):=by
    cases n
    ·rw[II,II];simp;omega
    ·rw[YP,YP,hv]
     congr 1;rw[eq_iff_iff];have h5:=Nat.div_add_mod (val m) (val d);rw[z7,ij]at h5;constructor
     ·intro h6
      have h7:val m/val d≠0:=D'
      have:val m≠0:=λ h8=>h7 (by rw[h8,Nat.zero_div])
      omega
     ·intro h6
      have h7:val m/val d≠0:=λ h8=>by rw[h8,Nat.mul_zero]at h5;omega
      omega
   rw[hs];rfl
  ·exact GD _
 ·by_cases Hq:g=1
  ·have hT1:=λ q=>AdR N n q m hm
   have Pp:=λ q=>mK N.toc9 d q hd.1 (by have:=hd.2;omega)
   repeat' (first|(apply A7<;>intro hc<;>try omega)|apply BW|apply AQ|refine AU (Pj _ _) ?_|refine AU (hG _ _) ?_|refine AbQ (h1 _) (λ hf => ?_) (λ hf => ?_)|refine AU (hT1 _) ?_|refine AU (Pp _) ?_)<;>conv=>whnf
   ·refine B1 ?_ (qU _ _ _)
    show _=AV.agg (rQ _ _ _ _ _);rw[e1,e2,e3,Hq,Tj,Tj]
   ·exact absurd Hq hf
  ·have sg:Sm 549755813888 (dg g):=hd.low Pu
   have Dh:=λ q q'=>yN N.toc9 m (dg g) q q' hm.1 sg.1 hm.2 sg.2 (by rw[EH];omega)
   have ux:=λ q q'=>yN N.toc9 d (dg g) q q' hd.1 sg.1 hd.2 sg.2 (by rw[EH];omega)
   rw[EH]at Dh ux;repeat' (first|(apply A7<;>intro hc<;>try omega)|apply BW|apply AQ|refine AU (Pj _ _) ?_|refine AU (hG _ _) ?_|refine AbQ (h1 _) (λ hf => ?_) (λ hf => ?_)|refine AU (Dh _ _) ?_|refine AU (ux _ _) ?_)<;>conv=>whnf
   ·exact absurd hf Hq
   ·refine B1 ?_ (qU _ _ _)
    show _=AV.agg (rQ _ _ _ _ _);rw[e1,e2,e3,Ws];have hs:n=decide (zv n m<0):=by
     have:val m≠0:=λ h=>z7 (by rw[h,Nat.zero_mod])
     cases n
     ·exact LG (by rw[II];omega)
     ·exact WG (by rw[YP];omega)
    rw[<-hs]
theorem jP (N:a7 L) (m:a_):Ev L 91 [.sl false (m.map BK)] (.agg [.bool false,.sl false (m.map BK)]):=by
 refine Ev.x N.cE rfl rfl ?_;(repeat' (apply AQ<;>conv=>whnf))
 exact B1 rfl (AcF _ _)
def Ajm (n:Bool) (m d:a_) (n':Bool) (m' d':a_) (w:Bool) (k:Nat):Prop:=Sm k m'/\Sm k d'/\val d'≠0/\(w=true->val d'=1)/\qv n m d=mkRat (zv n' m') (val d')
theorem W5 (N:a7 L) (n:Bool) (m d:a_) (k:Nat) (hk:1<=k/\k<=549755813888) (hm:Sm k m) (hd:Sm k d) : ∃ n' m' d' w,Ev L 89 [.agg (rQ false false n m d)] (.agg [.bool n',.sl false (m'.map BK),.sl false (d'.map BK),.bool w])/\Ajm n m d n' m' d' w k:=by
 have n0:=λ q q'=>Y8 N.toc9 d [] q q' hd.1 jL (by have:=hd.2;omega) p_
 rw[QG]at n0;by_cases h1:d=[1]
 ·subst h1
  refine ⟨n,m,[1],true,?_,hm,hd,o_,λ_=>rfl,rfl⟩;refine Ev.x N.TQ rfl rfl ?_;have hd:[1][(0:Int).toNat]? = some 1:=rfl;have Dv:([1]:a_).length=1:=rfl;repeat' (first|(apply A7<;>intro hc<;>try omega)|apply BW|(refine CU G' ?_ rfl ?_;omega)|apply AQ)<;>conv=>whnf
  exact B1 rfl (lZ _ _ _ _)
 have n6 : ∀ x,d[(0:Int).toNat]? = some x->(d.length:Int)=1->(x:Int)≠1:=λ x hx hl h=>by
  obtain ⟨y,rfl⟩:=Lh.1 (show d.length=1 by omega);simp at hx;apply h1;congr 1;omega
 by_cases h0:val d=0
 ·refine ⟨false,[],[1],true,?_,uG _,Abh hk.1 D',o_,λ_=>rfl,by unfold qv;rw[h0,Rat.mkRat_zero,AhU,Rat.zero_mkRat]⟩
  have hn:GE (val d) (0:Nat)=0:=(eL D').symm;rw[hn]at n0;refine Ev.x N.TQ rfl rfl ?_;have hD:=hd.1;repeat' (first|(apply A7<;>intro hc<;>try omega)|apply BW|(refine Z9 G' ?_ (λ e he hb => ?_);omega)|refine OA rfl ?_|apply AQ|refine AU (n0 _ _) ?_)<;>conv=>whnf
  all_goals first
   | exact B1 rfl (lZ _ _ _ _)
   | exact B1 rfl (lZ false true [] [1])
   | exact absurd G' (n6 _ he G')
 ·refine ⟨n,m,d,false,?_,hm,hd,h0,(λ h=>by cases h),rfl⟩
  have hn:GE (val d) (0:Nat)=1:=(WY D').symm;rw[hn]at n0;have hD:=hd.1;refine Ev.x N.TQ rfl rfl ?_;repeat' (first|(apply A7<;>intro hc<;>try omega)|apply BW|(refine Z9 G' ?_ (λ e he hb => ?_);omega)|apply AQ|refine AU (n0 _ _) ?_)<;>conv=>whnf
  all_goals first
   | exact B1 rfl (lZ _ _ _ _)
   | exact B1 rfl (lZ false true [] [1])
   | exact absurd G' (n6 _ he G')
theorem sA (N:a7 L) (n q1 q2:Bool) (m d:a_) (hm:Sm 549755813888 m) (hd:Sm 549755813888 d):Ev L 95 [.agg (rQ q1 q2 n m d)] (.agg (eQ (qv n m d))):=by
 obtain ⟨n',m',d',w,hr,s1,s2,s3,s4,s5⟩:=W5 N n m d 549755813888 D' hm hd;have hl:=λ q1 q2=>mN N n' q1 q2 m' d' s1 s2 s3
 rw[s5];unfold qv at hl;refine Ev.x N.cB rfl rfl ?_;repeat' (first|apply L5|apply AQ|refine AU (hr) ?_|refine AU (hl _ _) ?_)<;>conv=>whnf
 exact B1 rfl (GD _)
theorem Aed (N:a7 L) (n q1 q2:Bool) (m d:a_) (hm:Sm 549755813888 m) (hd:Sm 549755813888 d):Ev L 97 [.agg (rQ q1 q2 n m d)] (.int .i64 (ah (qv n m d).num)):=by
 obtain ⟨n',m',d',w,hr,s1,s2,s3,s4,s5⟩:=W5 N n m d 549755813888 D' hm hd;have hl:=λ q=>rW N n' q m' s1
 rw[s5,Xi s3];refine Ev.x N.bZ rfl rfl ?_;repeat' (first|apply L5|apply AQ|refine AU (hr) ?_|refine AU (hl _) ?_)<;>conv=>whnf
 exact F2 rfl
theorem vX (z:Int):AV.agg [.bool (decide (z<0)),.sl false ((dg z.natAbs).map BK),.sl false [[.int .u32 1]]] = .agg (eQ (z:Rat)):=by
 show _=AV.agg (rQ _ _ _ _ _);rw[Mi,Ki,xJ];rfl
theorem QL (N:a7 L) (z:Int) (hz : -9223372036854775808<=z/\z<=9223372036854775807):Ev L 96 [.int .i64 z] (.agg (eQ (z:Rat))):=by
 have h1:=AnO N z hz;refine Ev.x N.bY rfl rfl ?_;repeat' (first|apply AQ|refine AU (h1) ?_)<;>conv=>whnf
 refine J1 1000 N.QR rfl rfl ?_;(repeat' (apply AQ<;>conv=>whnf))
 refine ⟨rfl,?_⟩;conv=>whnf
 (repeat' (refine OA rfl ?_<;>conv=>whnf))
 exact B1 (vX z) (GD _)
theorem hH {k l:Nat} {n1 n2:Bool} {a b:a_} (ha:Sm k a) (hb:Sm l b):Sm (k+l) (dg (zv n1 a*zv n2 b).natAbs):=ha.mul hb (by rw[pe,IP,IP])
theorem AgF {k:Nat} {x y:Int} (ha:Sm k (dg x.natAbs)) (hb:Sm k (dg y.natAbs)):Sm (k+1) (dg (x+y).natAbs):=ha.add hb (by rw[EH,EH];omega)
theorem Aec (N:a7 L) (k:Nat) (hk:1<=k/\k<=68719476736) (n1 n2 q1 q2 q3 q4:Bool) (m1 d1 m2 d2:a_) (ti:Sm k m1) (zi:Sm k d1) (pd:Sm k m2) (zj:Sm k d2) :
  Ev L 98 [.agg (rQ q1 q2 n1 m1 d1),.agg (rQ q3 q4 n2 m2 d2)] (.agg (eQ (qv n1 m1 d1+qv n2 m2 d2))):=by
 obtain ⟨a1,a2,a3,w1,du,s1,s2,s3,s4,s5⟩:=W5 N n1 m1 d1 k D' ti zi;obtain ⟨b1,b2,b3,w2,il,t1,t2,t3,t4,t5⟩:=W5 N n2 m2 d2 k D' pd zj;rw[s5,t5];have hA:=λ q q'=>AdP N a1 b1 q q' a2 b2 (s1.le D') (t1.le D')
 have AuY:Sm (k+1) (dg (zv a1 a2+zv b1 b2).natAbs):=AgF (by rw[IP];exact s1.Gk) (by rw[IP];exact t1.Gk);by_cases hw:w1=true/\w2=true
 ·obtain ⟨rfl,rfl⟩:=hw
  rw[s4 rfl,t4 rfl,Afq D',Afs];generalize zv a1 a2+zv b1 b2=z at *;refine Ev.x N.TI rfl rfl ?_;repeat' (first|apply L5|apply AQ|refine AU (du) ?_|refine AU (il) ?_|refine AU (hA _ _) ?_)<;>conv=>whnf
  refine J1 1000 N.QR rfl rfl ?_;(repeat' (apply AQ<;>conv=>whnf))
  refine ⟨rfl,?_⟩;conv=>whnf
  (repeat' (refine OA rfl ?_<;>conv=>whnf))
  exact B1 (vX z) (GD _)
 ·have n0:=λ q q'=>Y8 N.toc9 a3 b3 q q' s2.1 t2.1 (by have:=s2.2;omega) (by have:=t2.2;omega)
  by_cases Hp:val a3=val b3
  ·have hn:GE (val a3) (val b3)=0:=(eL D').symm
   rw[hn]at n0;rw[<-Hp,Afq s3];generalize zv a1 a2+zv b1 b2=z at *;have hl:=λ q1 q2=>mN N (decide (z<0)) q1 q2 (dg z.natAbs) a3 (AuY.le D') (s2.le D') s3
   unfold qv at hl;rw[JE]at hl;refine Ev.x N.TI rfl rfl ?_;cases w1<;>cases w2
   ·repeat' (first|(apply A7<;>intro hc<;>try omega)|apply L5|apply AQ|refine AU (du) ?_|refine AU (il) ?_|refine AU (hA _ _) ?_|refine AU (n0 _ _) ?_|refine AU (hl _ _) ?_)<;>conv=>whnf
    exact B1 rfl (GD _)
   ·repeat' (first|(apply A7<;>intro hc<;>try omega)|apply L5|apply AQ|refine AU (du) ?_|refine AU (il) ?_|refine AU (hA _ _) ?_|refine AU (n0 _ _) ?_|refine AU (hl _ _) ?_)<;>conv=>whnf
    exact B1 rfl (GD _)
   ·repeat' (first|(apply A7<;>intro hc<;>try omega)|apply L5|apply AQ|refine AU (du) ?_|refine AU (il) ?_|refine AU (hA _ _) ?_|refine AU (n0 _ _) ?_|refine AU (hl _ _) ?_)<;>conv=>whnf
    exact B1 rfl (GD _)
   ·exact absurd ⟨rfl,rfl⟩ hw
  ·have hn:GE (val a3) (val b3)≠0:=by unfold GE;split<;>(try split)<;>omega
   generalize GE (val a3) (val b3)=cm at *;have fi:=λ q q'=>fK N a1 false q q' a2 b3 s1.1 t2.1 (by have:=s1.2;have:=t2.2;omega)
   have fr:=λ q q'=>fK N b1 false q q' b2 a3 t1.1 s2.1 (by have:=t1.2;have:=s2.2;omega)
   have Bv:=λ q q'=>yO N.toc9 a3 b3 q q' s2.1 t2.1 (by have:=s2.2;have:=t2.2;omega)
   have Ig:=jP N a3;have Eb:=jP N b3;have g1:Sm (k+k) (dg (zv a1 a2*zv false b3).natAbs):=hH s1 t2;have g2:Sm (k+k) (dg (zv b1 b2*zv false a3).natAbs):=hH t1 s2;have g3:=AgF g1 g2;have g4:Sm (k+k) (dg (val a3*val b3)):=s2.mul t2 rfl;rw[sQ s3 t3,<-II b3,<-II a3];have Mn:val a3*val b3≠0:=Ii s3 t3;generalize zv a1 a2*zv false b3=x at *;generalize zv b1 b2*zv false a3=y at *;generalize val a3*val b3=D at *;have Ph:=λ q q'=>AdP N (decide (x<0)) (decide (y<0)) q q' (dg x.natAbs) (dg y.natAbs) (g1.le D') (g2.le D')
   rw[JE,JE]at Ph;generalize x+y=z at *;have hl:=λ q1 q2=>mN N (decide (z<0)) q1 q2 (dg z.natAbs) (dg D) (g3.le D') (g4.le D') (by rw[EH];exact Mn)
   unfold qv at hl;rw[JE,EH]at hl;refine Ev.x N.TI rfl rfl ?_;cases w1<;>cases w2
   ·repeat' (first|(apply A7<;>intro hc<;>try omega)|apply L5|apply dV|apply AQ|refine AU (du) ?_|refine AU (il) ?_|refine AU (n0 _ _) ?_|refine AU (Ig) ?_|refine AU (Eb) ?_|refine AU (fi _ _) ?_|refine AU (fr _ _) ?_|refine AU (Ph _ _) ?_|refine AU (Bv _ _) ?_|refine AU (hl _ _) ?_)<;>conv=>whnf
    exact B1 rfl (GD _)
   ·repeat' (first|(apply A7<;>intro hc<;>try omega)|apply L5|apply dV|apply AQ|refine AU (du) ?_|refine AU (il) ?_|refine AU (n0 _ _) ?_|refine AU (Ig) ?_|refine AU (Eb) ?_|refine AU (fi _ _) ?_|refine AU (fr _ _) ?_|refine AU (Ph _ _) ?_|refine AU (Bv _ _) ?_|refine AU (hl _ _) ?_)<;>conv=>whnf
    exact B1 rfl (GD _)
   ·repeat' (first|(apply A7<;>intro hc<;>try omega)|apply L5|apply dV|apply AQ|refine AU (du) ?_|refine AU (il) ?_|refine AU (n0 _ _) ?_|refine AU (Ig) ?_|refine AU (Eb) ?_|refine AU (fi _ _) ?_|refine AU (fr _ _) ?_|refine AU (Ph _ _) ?_|refine AU (Bv _ _) ?_|refine AU (hl _ _) ?_)<;>conv=>whnf
    exact B1 rfl (GD _)
   ·exact absurd ⟨rfl,rfl⟩ hw
theorem jQ (N:a7 L) (k:Nat) (hk:1<=k/\k<=68719476736) (n1 n2 q1 q2 q3 q4:Bool) (m1 d1 m2 d2:a_) (ti:Sm k m1) (zi:Sm k d1) (pd:Sm k m2) (zj:Sm k d2) :
  Ev L 99 [.agg (rQ q1 q2 n1 m1 d1),.agg (rQ q3 q4 n2 m2 d2)] (.agg (eQ (qv n1 m1 d1*qv n2 m2 d2))):=by
 obtain ⟨a1,a2,a3,w1,du,s1,s2,s3,s4,s5⟩:=W5 N n1 m1 d1 k D' ti zi;obtain ⟨b1,b2,b3,w2,il,t1,t2,t3,t4,t5⟩:=W5 N n2 m2 d2 k D' pd zj;rw[s5,t5,Zi];have fi:=λ q q'=>fK N a1 b1 q q' a2 b2 s1.1 t1.1 (by have:=s1.2;have:=t1.2;omega)
 have Bv:=λ q q'=>yO N.toc9 a3 b3 q q' s2.1 t2.1 (by have:=s2.2;have:=t2.2;omega)
 have g1:Sm (k+k) (dg (zv a1 a2*zv b1 b2).natAbs):=hH s1 t1;have g4:Sm (k+k) (dg (val a3*val b3)):=s2.mul t2 rfl;have Mn:val a3*val b3≠0:=Ii s3 t3;generalize zv a1 a2*zv b1 b2=z at *;by_cases hw:w1=true/\w2=true
 ·obtain ⟨rfl,rfl⟩:=hw
  rw[s4 rfl,t4 rfl,cg,Afs];refine Ev.x N.X1 rfl rfl ?_;repeat' (first|apply L5|apply AQ|refine AU (du) ?_|refine AU (il) ?_|refine AU (fi _ _) ?_)<;>conv=>whnf
  refine J1 1000 N.QR rfl rfl ?_;(repeat' (apply AQ<;>conv=>whnf))
  refine ⟨rfl,?_⟩;conv=>whnf
  (repeat' (refine OA rfl ?_<;>conv=>whnf))
  exact B1 (vX z) (GD _)
 ·generalize val a3*val b3=D at *
  have hl:=λ q1 q2=>mN N (decide (z<0)) q1 q2 (dg z.natAbs) (dg D) (g1.le D') (g4.le D') (by rw[EH];exact Mn)
  unfold qv at hl;rw[JE,EH]at hl;refine Ev.x N.X1 rfl rfl ?_;cases w1<;>cases w2
  ·repeat' (first|apply L5|apply AQ|refine AU (du) ?_|refine AU (il) ?_|refine AU (fi _ _) ?_|refine AU (Bv _ _) ?_|refine AU (hl _ _) ?_)<;>conv=>whnf
   exact B1 rfl (GD _)
  ·repeat' (first|apply L5|apply AQ|refine AU (du) ?_|refine AU (il) ?_|refine AU (fi _ _) ?_|refine AU (Bv _ _) ?_|refine AU (hl _ _) ?_)<;>conv=>whnf
   exact B1 rfl (GD _)
  ·repeat' (first|apply L5|apply AQ|refine AU (du) ?_|refine AU (il) ?_|refine AU (fi _ _) ?_|refine AU (Bv _ _) ?_|refine AU (hl _ _) ?_)<;>conv=>whnf
   exact B1 rfl (GD _)
  ·exact absurd ⟨rfl,rfl⟩ hw
theorem AkT (x:Rat) (e:Int):CI (.e9 [.agg (eQ x),.int .i64 e]):=by
 simp only[CI,ES,and_true,true_and];exact ⟨EW _,EW _⟩
theorem AoK (N:a7 L) (k:Nat) (hk:1<=k/\k<=68719476736) (n1 n2 q1 q2 q3 q4:Bool) (m1 d1 m2 d2:a_) (ti:Sm k m1) (zi:Sm k d1) (pd:Sm k m2) (zj:Sm k d2) (h0:qv n2 m2 d2≠0) :
  Ev L 100 [.agg (rQ q1 q2 n1 m1 d1),.agg (rQ q3 q4 n2 m2 d2)] (.e9 [.agg (eQ (qv n1 m1 d1/qv n2 m2 d2)),.int .i64 0]):=by
 obtain ⟨a1,a2,a3,w1,du,s1,s2,s3,s4,s5⟩:=W5 N n1 m1 d1 k D' ti zi;obtain ⟨b1,b2,b3,w2,il,t1,t2,t3,t4,t5⟩:=W5 N n2 m2 d2 k D' pd zj;rw[t5]at h0;rw[s5,t5];have Bg:zv b1 b2≠0:=λ h=>h0 ((Zj t3).2 h)
 rw[AqH s3 t3 Bg];have hS:=λ q=>rW N b1 q b2 (t1.le D')
 have Ce:ah (zv b1 b2)≠0:=by unfold ah;split<;>(try split)<;>omega
 have fi:=λ q q'=>fK N a1 false q q' a2 b3 s1.1 t2.1 (by have:=s1.2;have:=t2.2;omega)
 have fr:=λ q q'=>fK N false b1 q q' a3 b2 s2.1 t1.1 (by have:=t1.2;have:=s2.2;omega)
 have Ig:=jP N a3;have Eb:=jP N b3;have g1:Sm (k+k) (dg (zv a1 a2*zv false b3).natAbs):=hH s1 t2;have g2:Sm (k+k) (dg (zv false a3*zv b1 b2).natAbs):=hH s2 t1;have hd:(zv false a3*zv b1 b2).natAbs=val a3*(zv b1 b2).natAbs:=by rw[pe,IP]
 have Mo:(zv false a3*zv b1 b2).sign=(zv b1 b2).sign:=by
  rw[Int.sign_mul,II,Int.sign_eq_one_of_pos D',Int.one_mul]
 have Ap:zv false a3*zv b1 b2≠0:=by
  intro h;rw[h]at Mo;exact Bg (by simpa using Mo.symm)
 rw[<-hd,<-Mo,<-II b3];generalize zv a1 a2*zv false b3=x at *;generalize zv false a3*zv b1 b2=y at *;generalize ah (zv b1 b2)=sg at *;have hl:=λ q1 q2=>mN N (decide (x<0) != decide (y<0)) q1 q2 (dg x.natAbs) (dg y.natAbs) (g1.le D') (g2.le D') (by rw[EH];omega)
 unfold qv at hl;rw[Atg Ap,EH]at hl;refine Ev.x N.bW rfl rfl ?_;repeat' (first|(apply A7<;>intro hc<;>try omega)|apply L5|apply dV|apply AQ|refine AU (du) ?_|refine AU (il) ?_|refine AU (hS _) ?_|refine AU (Ig) ?_|refine AU (Eb) ?_|refine AU (fi _ _) ?_|refine AU (fr _ _) ?_)<;>conv=>whnf
 refine J1 1000 N.cG rfl rfl ?_;(repeat' (apply AQ<;>conv=>whnf))
 generalize decide (x<0)=p at *;generalize decide (y<0)=r at *;cases p<;>cases r;all_goals
  (conv=>whnf)
  refine ⟨rfl,?_⟩;conv=>whnf
  (repeat' (refine AU (hl _ _) ?_<;>conv=>whnf))
  exact B1 rfl (AkT _ _)
end Go.j4
namespace Go.j4
open F
attribute [local irreducible] AJ A5 BZ A0 FH B2 C6 C9 EO EC E0 HH D6 CT EJ E3 AM CZ BH pw EF DP FF FR F5 F7 E6 DQ GN
variable {L:Lib}
def vK (n:Int):Prop := -9223372036854775808<=n/\n<=9223372036854775807
structure Wd where
 b:Int
 f:Int
 r:Int
 o:Int
theorem yY (I:fj L) (v a b:Int):Ev L 10 [.int .i64 v,.int .i64 a,.int .i64 b] (.bool (decide (a<=v/\v<=b))):=by
 refine Ev.x I.dF rfl rfl ?_;repeat' (first|(apply A7<;>intro hc<;>try omega)|apply AQ)<;>conv=>whnf
 all_goals (first|exact AbW D'|exact vG D')
def WV (w:Wd):Prop:=4<=w.b/\w.b<=24/\0<=w.f/\w.f<w.b/\1<=w.r/\w.r<=3/\1<=w.o/\w.o<=2
instance (w : Wd) : Decidable (WV w) := by unfold WV; infer_instance
variable (w:Wd)
def Aqy:Int:=if WV w then -pw (w.b-1) else 0
def ApM:Int:=if WV w then pw (w.b-1)-1 else 0
def FT (v:Int):Prop:=WV w/\Aqy w<=v/\v<=ApM w
instance (v : Int) : Decidable (FT w v) := by unfold FT; infer_instance
end Go.j4

namespace Go.j4
open F
attribute [local irreducible] AJ A5 BZ A0 FH B2 C6 C9 EO EC E0 HH D6 CT EJ E3 AM CZ BH pw EF DP FF FR F5 F7 E6 DQ GN
variable {L:Lib}
structure Nd where
 q:Bool
 ts:List (Int × Int)
structure Nt where
 d:Wd
 c:Wd
 s:Int
 qn:Bool
 nodes:List Nd
 qx:Bool
 next:List Int
 out:Int
variable (n:Nt)
end Go.j4

namespace Go.j4
open F
attribute [local irreducible] AJ A5 BZ A0 FH B2 C6 C9 EO EC E0 HH D6 CT EJ E3 AM CZ BH pw EF DP FF FR F5 F7 E6 DQ GN
variable {L:Lib}
theorem Ans (N:o6 L) (a b:Z_) (q1 q2:Bool) (k s:Nat) (hl:a.length=b.length) (ha:Bs k a) (hb:Bs s b) (hK:a.length*(k+s+1)+k+s<2199023255552) (ig:a.length<=1099511627776):Ev L 137 [.sl q1 (a.map eQ),.sl q2 (b.map eQ)] (.agg (eQ (B4 a b))):=by
 have hO:=ZB N.toa8 0 D';refine Ev.x N.VI rfl rfl ?_;repeat' (first|apply AQ|refine AU (hO) ?_)<;>conv=>whnf
 refine LJ (λ i _=>a.length-i) (λ(i:Nat) (acc:Rat)=>i<=a.length/\acc=B4 (a.take i) (b.take i)) (λ i acc=>[(6,.int .i64 i)]) (λ i acc=>[(5,5,.bx (eQ acc))]) 0 ((0:Int):Rat) ⟨D',by simp [B4]⟩ ?_;intro i acc ⟨p1,p2⟩ ih;by_cases hi:i<a.length
 ·obtain ⟨x,hx⟩:=X_ a i hi
  obtain ⟨y,hy⟩:=X_ b i;have ni:a[(i:Int).toNat]? = some x:=hx;have Cy:b[(i:Int).toNat]? = some y:=hy;have bx:=ha.at hx;have De:=hb.at hy
  have hM:=AnX N.toa8 bx De D' D'
  have Lv:Bt (a.length*(k+s+1)) acc:=by
   rw[p2];have:=(ha.take i).dot (hb.take i)
   refine this.le (zR _ ?_);rw[Sa];omega
  have hA:=Y6 N.toa8 Lv (bx.mul De) D' D';have m4:=fD hx hy;repeat' (first|(apply A7<;>intro hc<;>try omega)|(apply B5;omega)|apply BW|(refine CU G' ?_ rfl ?_;omega)|apply AQ|refine AU (hM) ?_|refine AU (hA) ?_)<;>conv=>whnf
  refine EA [] w_ (ih (i+1) (acc+x*y) D' ⟨D',?_⟩);rw[m4,<-p2]
 ·obtain rfl:i=a.length:=D'
  clear ih;rw[aL rfl]at p2;rw[<-p2];repeat' (first|(apply A7<;>intro hc<;>try omega)|apply BW|apply AQ)<;>conv=>whnf
  exact B1 rfl (GD _)
theorem Aei (N:o6 L) (n:Nat) (j:Int) (hn:n<=65536):Ev L 135 [.int .i64 (n:Int),.int .i64 j] (.sl false ((JR n j).map eQ)):=by
 have hO:=ZB N.toa8 0 D';have hI:=ZB N.toa8 1 D';refine Ev.x N.X8 rfl rfl ?_;(repeat' (apply AQ<;>conv=>whnf))
 refine FP (λ i=>n-i) (λ(i:Nat)=>i<=n) (λ i=>[(6,.int .i64 i),(5,.row 5 0 3 0 i)]) (λ i=>[(5,5,.rw 3 ((JR i j).map eQ))]) 0 D' ?_;intro i p1 ih;have hlen:=Zn i j;by_cases hi:i<n
 ·have Bn:=AsR i j
  by_cases hj:(i:Int)=j
  ·rw[if_pos hj]at Bn
   repeat' (first|(apply A7<;>intro hc<;>try omega)|apply HL|apply AQ|refine AU (hI) ?_)<;>conv=>whnf
   refine H9 (enc:=eQ) ((1:Int):Rat) rfl hlen.symm rfl D' D' ?_;conv=>whnf
   repeat' (first|(apply B5;omega)|fail)<;>conv=>whnf
   rw[show (JR i j++[((1:Int):Rat)]).length=i+1 by simp [hlen],show JR i j++[((1:Int):Rat)]=JR (i+1) j from Bn.symm];exact DB [(5,18)] (ih (i+1) D' D')
  ·rw[if_neg hj]at Bn
   repeat' (first|(apply A7<;>intro hc<;>try omega)|apply HL|apply AQ|refine AU (hO) ?_)<;>conv=>whnf
   refine H9 (enc:=eQ) ((0:Int):Rat) rfl hlen.symm rfl D' D' ?_;conv=>whnf
   repeat' (first|(apply B5;omega)|fail)<;>conv=>whnf
   rw[show (JR i j++[((0:Int):Rat)]).length=i+1 by simp [hlen],show JR i j++[((0:Int):Rat)]=JR (i+1) j from Bn.symm];exact DB [(5,22)] (ih (i+1) D' D')
 ·obtain rfl:i=n:=D'
  clear ih;repeat' (first|(apply A7<;>intro hc<;>try omega)|apply AQ)<;>conv=>whnf
  refine G9 (enc:=eQ) (λ_=>rfl) rfl hlen.symm ?_;conv=>whnf
  exact B1 rfl (by simp only[CI,true_and];exact OL _)
theorem Bt.sm {k:Nat} {x:Rat} (h:Bt k x) (hk:k<2199023255552):Sm 68719476736 (dg x.num.natAbs)/\Sm 68719476736 (dg x.den):=h.dig D'
theorem W3 (N:a7 L) {x y:Rat} {k l:Nat} (hx:Bt k x) (hy:Bt l y) (hk:k<2199023255552) (hl:l<2199023255552):Ev L 98 [.agg (eQ x),.agg (eQ y)] (.agg (eQ (x+y))):=by
 have:=Aec N 68719476736 D' (decide (x.num<0)) (decide (y.num<0)) false false false false _ _ _ _ (hx.sm hk).1 (hx.sm hk).2 (hy.sm hl).1 (hy.sm hl).2
 rw[H6,H6]at this;exact this
theorem R6 (N:a7 L) {x y:Rat} {k l:Nat} (hx:Bt k x) (hy:Bt l y) (hk:k<2199023255552) (hl:l<2199023255552):Ev L 99 [.agg (eQ x),.agg (eQ y)] (.agg (eQ (x*y))):=by
 have:=jQ N 68719476736 D' (decide (x.num<0)) (decide (y.num<0)) false false false false _ _ _ _ (hx.sm hk).1 (hx.sm hk).2 (hy.sm hl).1 (hy.sm hl).2
 rw[H6,H6]at this;exact this
theorem rV (N:a7 L) {x y:Rat} {k l:Nat} (hx:Bt k x) (hy:Bt l y) (hk:k<2199023255552) (hl:l<2199023255552) (h0:y≠0):Ev L 100 [.agg (eQ x),.agg (eQ y)] (.e9 [.agg (eQ (x/y)),.int .i64 0]):=by
 have:=AoK N 68719476736 D' (decide (x.num<0)) (decide (y.num<0)) false false false false _ _ _ _ (hx.sm hk).1 (hx.sm hk).2 (hy.sm hl).1 (hy.sm hl).2 (by rw[H6];exact h0)
 rw[H6,H6]at this;exact this
theorem zB (N:a7 L) {x:Rat} {k:Nat} (hx:Bt k x) (hk:k<2199023255552):Ev L 95 [.agg (eQ x)] (.agg (eQ x)):=by
 have:=sA N (decide (x.num<0)) false false _ _ ((hx.sm hk).1.le D') ((hx.sm hk).2.le D')
 rw[H6]at this;exact this
theorem mT (N:a7 L) {x:Rat} {k:Nat} (hx:Bt k x) (hk:k<2199023255552):Ev L 97 [.agg (eQ x)] (.int .i64 (ah x.num)):=by
 have:=Aed N (decide (x.num<0)) false false _ _ ((hx.sm hk).1.le D') ((hx.sm hk).2.le D')
 rw[H6]at this;exact this
theorem ZU {x:Rat}:ah x.num=0↔x=0:=by
 rw[<-Li];unfold ah;split
 ·omega
 ·split<;>omega
theorem Af5 (n:Bool) (m d:a_):qv (!n) m d = -(qv n m d):=by
 unfold qv;have h:zv (!n) m = -(zv n m):=by cases n<;>simp [zv]
 rw[h,Rat.neg_mkRat]
theorem Ak0 (n:Bool) (m d:a_):CI (.agg (rQ false false n m d)):=by
 simp only[CI,ES,and_true,true_and];exact ⟨EW _,EW _⟩
theorem AdM (N:er L) (n:Bool) (m d:a_):Ev L 149 [.agg (rQ false false n m d)] (.agg (rQ false false (!n) m d)):=by
 refine Ev.x N.cC rfl rfl ?_;cases n;all_goals
  (repeat' (apply AQ<;>conv=>whnf))
  exact B1 rfl (Ak0 _ _ _)
theorem sB (N:er L) {x y:Rat} {k l:Nat} (hx:Bt k x) (hy:Bt l y) (hk:k<2199023255552) (hl:l<2199023255552):Ev L 150 [.agg (eQ x),.agg (eQ y)] (.agg (eQ (x-y))):=by
 have hF:=AdM N (decide (y.num<0)) (dg y.num.natAbs) (dg y.den);have hA:=λ q3 q4=>Aec N.toa7 68719476736 D' (decide (x.num<0)) (!decide (y.num<0)) false false q3 q4 _ _ _ _ (hx.sm hk).1 (hx.sm hk).2 (hy.sm hl).1 (hy.sm hl).2
 rw[Af5,H6,H6,<-Oi]at hA;refine Ev.x N.cA rfl rfl ?_;repeat' (first|apply AbX|apply AQ|refine AU (hF) ?_|refine AU (hA _ _) ?_)<;>conv=>whnf
 exact B1 rfl (GD _)
theorem zN {l:Z_} {i:Nat} {x:Rat} (h:l[i]? = some x):l.getD i 0=x:=by rw[Wa,h];rfl
theorem Ao3 {l:Z_} {i:Nat} (h:l.length<=i):l.getD i 0=0:=by rw[Wa,oc h];rfl
theorem Zx (z:Int):ah z = -1/\z<0\/ah z=0/\z=0\/ah z=1/\0<z:=by
 unfold ah;split
 ·exact Or.inl ⟨rfl,D'⟩
 ·split
  ·exact Or.inr (Or.inr ⟨rfl,D'⟩)
  ·exact Or.inr (Or.inl ⟨rfl,D'⟩)
theorem Alj {a b:Nat} {z:Int} (h:z=(a:Int)-b):GE a b=ah z:=by
 unfold GE ah;subst h;repeat' split
 all_goals omega
theorem AdQ (N:ae L) (n1 n2 q1 q2:Bool) (a b:a_) (ha:Sm 549755813888 a) (hb:Sm 549755813888 b):Ev L 197 [.agg (rZ q1 n1 a),.agg (rZ q2 n2 b)] (.int .i64 (ah (zv n1 a-zv n2 b))):=by
 have h1:=λ q=>rW N.toa7 n1 q a ha
 have h2:=λ q=>rW N.toa7 n2 q b hb
 have h3:=λ q q'=>Y8 N.toc9 a b q q' ha.1 hb.1 (by have:=ha.2;omega) (by have:=hb.2;omega)
 have h4:=λ q q'=>Y8 N.toc9 b a q q' hb.1 ha.1 (by have:=hb.2;omega) (by have:=ha.2;omega)
 have za:=IP n1 a;have zb:=IP n2 b;generalize zv n1 a=x at *;generalize zv n2 b=y at *;rcases Zx x with ⟨e1,g1⟩|⟨e1,g1⟩|⟨e1,g1⟩<;>rcases Zx y with ⟨e2,g2⟩|⟨e2,g2⟩|⟨e2,g2⟩
 all_goals
  rw[e1]at h1;rw[e2]at h2;refine Ev.x N.aY rfl rfl ?_;repeat' (first|(apply A7<;>intro hc<;>try omega)|apply AQ|refine AU (h1 _) ?_|refine AU (h2 _) ?_|refine AU (h3 _ _) ?_|refine AU (h4 _ _) ?_)<;>conv=>whnf
  first
   | exact F2 (Abd D')
   | exact F2 (Abe D')
   | exact F2 (Alj D')
theorem AoJ (N:ae L) (k:Nat) (hk:1<=k/\k<=68719476736) (n1 n2:Bool) (m1 d1 m2 d2:a_) (ti:Sm k m1) (zi:Sm k d1) (pd:Sm k m2) (zj:Sm k d2) :
  Ev L 198 [.agg (rQ false false n1 m1 d1),.agg (rQ false false n2 m2 d2)] (.int .i64 (ah (qv n1 m1 d1-qv n2 m2 d2).num)):=by
 obtain ⟨a1,a2,a3,w1,du,s1,s2,s3,s4,s5⟩:=W5 N.toa7 n1 m1 d1 k D' ti zi;obtain ⟨b1,b2,b3,w2,il,t1,t2,t3,t4,t5⟩:=W5 N.toa7 n2 m2 d2 k D' pd zj;rw[s5,t5,<-Afr s3 t3];by_cases hw:w1=true/\w2=true
 ·obtain ⟨rfl,rfl⟩:=hw
  have hC:=λ q q'=>AdQ N a1 b1 q q' a2 b2 (s1.le D') (t1.le D')
  rw[s4 rfl,t4 rfl];rw[show zv a1 a2*((1:Nat):Int)-zv b1 b2*((1:Nat):Int)=zv a1 a2-zv b1 b2 by omega];refine Ev.x N.XY rfl rfl ?_;repeat' (first|apply L5|apply AQ|refine AU (du) ?_|refine AU (il) ?_|refine AU (hC _ _) ?_)<;>conv=>whnf
  exact F2 rfl
 ·have fi:=λ q q'=>fK N.toa7 a1 false q q' a2 b3 s1.1 t2.1 (by have:=s1.2;have:=t2.2;omega)
  have fr:=λ q q'=>fK N.toa7 b1 false q q' b2 a3 t1.1 s2.1 (by have:=t1.2;have:=s2.2;omega)
  have Ig:=jP N.toa7 a3;have Eb:=jP N.toa7 b3;have g1:Sm (k+k) (dg (zv a1 a2*zv false b3).natAbs):=hH s1 t2;have g2:Sm (k+k) (dg (zv b1 b2*zv false a3).natAbs):=hH t1 s2;have hC:=λ q q'=>AdQ N (decide (zv a1 a2*zv false b3<0)) (decide (zv b1 b2*zv false a3<0)) q q' _ _ (g1.le D') (g2.le D')
  rw[JE,JE]at hC;rw[<-II b3,<-II a3];generalize zv a1 a2*zv false b3=x at *;generalize zv b1 b2*zv false a3=y at *;refine Ev.x N.XY rfl rfl ?_;cases w1<;>cases w2
  ·repeat' (first|apply L5|apply dV|apply AQ|refine AU (du) ?_|refine AU (il) ?_|refine AU (Ig) ?_|refine AU (Eb) ?_|refine AU (fi _ _) ?_|refine AU (fr _ _) ?_|refine AU (hC _ _) ?_)<;>conv=>whnf
   exact F2 rfl
  ·repeat' (first|apply L5|apply dV|apply AQ|refine AU (du) ?_|refine AU (il) ?_|refine AU (Ig) ?_|refine AU (Eb) ?_|refine AU (fi _ _) ?_|refine AU (fr _ _) ?_|refine AU (hC _ _) ?_)<;>conv=>whnf
   exact F2 rfl
  ·repeat' (first|apply L5|apply dV|apply AQ|refine AU (du) ?_|refine AU (il) ?_|refine AU (Ig) ?_|refine AU (Eb) ?_|refine AU (fi _ _) ?_|refine AU (fr _ _) ?_|refine AU (hC _ _) ?_)<;>conv=>whnf
   exact F2 rfl
  ·exact absurd ⟨rfl,rfl⟩ hw
theorem AdK (N:ae L) {x y:Rat} {k l:Nat} (hx:Bt k x) (hy:Bt l y) (hk:k<2199023255552) (hl:l<2199023255552):Ev L 198 [.agg (eQ x),.agg (eQ y)] (.int .i64 (ah (x-y).num)):=by
 have:=AoJ N 68719476736 D' (decide (x.num<0)) (decide (y.num<0)) _ _ _ _ (hx.sm hk).1 (hx.sm hk).2 (hy.sm hl).1 (hy.sm hl).2
 rw[H6,H6]at this;exact this
theorem AdZ (N:ae L) {x:Rat} {k:Nat} (hx:Bt k x) (hk:k<2199023255552):Ev L 199 [.agg (eQ x)] (.agg (eQ (-x))):=by
 have hF:=AdM N.toer (decide (x.num<0)) (dg x.num.natAbs) (dg x.den);have hT:=λ q1 q2=>sA N.toa7 (!decide (x.num<0)) q1 q2 _ _ ((hx.sm hk).1.le D') ((hx.sm hk).2.le D')
 rw[Af5,H6]at hT;refine Ev.x N.bX rfl rfl ?_;repeat' (first|apply AbX|apply AQ|refine AU (hF) ?_|refine AU (hT _ _) ?_)<;>conv=>whnf
 exact B1 rfl (GD _)
theorem Ad1 (N:ae L) (q:Bool) (l:Z_) (k:Nat) (hl:Bs k l) (hk:k<2199023255552) (hn:l.length<=1000000):Ev L 200 [.sl q (l.map eQ)] (.int .i64 ((NM l l.length:Int)-1)):=by
 refine Ev.x N.bS rfl rfl ?_;(repeat' (apply AQ<;>conv=>whnf))
 refine K5 1000 N.XX rfl rfl ?_;repeat' (first|apply BW|apply AQ)<;>conv=>whnf
 refine FP (λ n=>n) (λ(n:Nat)=>n<=l.length/\NM l l.length=NM l n) (λ n=>[(3,.int .i64 n)]) (λ_=>[]) l.length ⟨Cb _,rfl⟩ ?_;intro n ⟨p1,p2⟩ ih;have done : ∀ {n:Nat},NM l l.length=n->dP l=l.take n:=λ h=>by rw[dP,h]
 by_cases hz:n=0\/(∃ m x,n=m+1/\l[m]? = some x/\x≠0)
 ·have Sg:NM l l.length=n:=by
   rw[p2];rcases hz with rfl|⟨m,x,rfl,h1,h2⟩
   ·rfl
   ·rw[NM,if_neg]
    rw[Wa,h1];exact h2
  have htq:=done Sg;have gp:(l.take n).length=n:=by rw[Sa];omega
  clear ih Sg p2 done;rcases hz with h0|⟨m,x,hnm,h1,h2⟩
  case' inl=>repeat' (first|(apply A7<;>intro hc<;>try omega)|apply AQ)<;>conv=>whnf
  case' inr =>
   have Hc:l[((n:Int)-1).toNat]? = some x:=by rw[show ((n:Int)-1).toNat=m by omega];exact h1
   have Rv:=mT N.toa7 (hl.at h1) D';have hs:=ZU (x:=x);generalize ah x.num=s at *;have hS : ∀ v,l[((n:Int)-1).toNat]? = some v->Ev L 97 [.agg (eQ v)] (.int .i64 s):=λ v h=>by
    obtain rfl:=uc (Hc.symm.trans h);exact Rv
   have jn:s≠0:=λ h=>h2 (hs.1 h)
   repeat' (first|(apply A7<;>intro hc<;>try omega)|(apply EP;omega)|(refine CU G' ?_ rfl ?_;omega)|apply AQ|refine AU (Rv) ?_)<;>conv=>whnf
  all_goals
   refine eB (enc:=eQ) (λ_=>rfl) p1 ?_;conv=>whnf
   skip
   refine ⟨rfl,_,rfl,?_⟩;conv=>whnf
   repeat' (first|(apply EP;omega)|apply BW)<;>conv=>whnf
   have Sh:NM l l.length=n:=by rw[<-Ahi,htq,gp]
   rw[Sh];exact F2 (by rw[gp])
 ·obtain ⟨m,rfl⟩ : ∃ m,n=m+1:=⟨n-1,D'⟩
  obtain ⟨x,hx⟩:=X_ l m;have Cx:x=0:=by
   rcases Classical.em (x=0) with h|h
   ·exact h
   ·exact (hz (Or.inr ⟨m,x,rfl,hx,h⟩)).elim
  have ni:l[((m+1:Nat)-1:Int).toNat]? = some x:=by rw[show ((m+1:Nat)-1:Int).toNat=m by omega];exact hx
  have Rv:=mT N.toa7 (hl.at hx) D';have hs:=ZU (x:=x);generalize ah x.num=s at *;have hS : ∀ v,l[((m+1:Nat)-1:Int).toNat]? = some v->Ev L 97 [.agg (eQ v)] (.int .i64 s):=λ v h=>by
   obtain rfl:=uc (ni.symm.trans h);exact Rv
  have jn:=hs.2 Cx;repeat' (first|(apply A7<;>intro hc<;>try omega)|(apply EP;omega)|(refine CU G' ?_ rfl ?_;omega)|apply AQ|refine AU (Rv) ?_)<;>conv=>whnf
  rw[show ((m+1:Nat):Int)-1=(m:Int) by omega];exact DB [] (ih m D' ⟨D',by rw[p2,NM,if_pos (by rw[Wa,hx];exact Cx)]⟩)
theorem Anx (N:o6 L) (S:G3) (n k:Nat) (h:S.Ok n k) (hn:n<=64):Ev L 130 [.agg (eS S)] (.bool true):=by
 have h1:=h.la;have h2:=h.lb;have h3:=h.lc;refine Ev.x N.MU rfl rfl ?_;repeat' (first|(apply A7<;>intro hc<;>try omega)|apply BW|apply AQ)<;>conv=>whnf
 refine FP (λ i=>S.a.length-i) (λ(i:Nat)=>i<=S.a.length) (λ i=>[(28,.int .i64 i)]) (λ_=>[]) 0 D' ?_;intro i p1 ih;by_cases hi:i<S.a.length
 ·obtain ⟨r,hr⟩:=X_ S.a i hi
  have nh:S.a[(i:Int).toNat]? = some r:=hr;have ff:=h.lr r (zM hr);repeat' (first|(apply A7<;>intro hc<;>try omega)|(apply B5;omega)|apply BW|(refine CU G' ?_ rfl ?_;omega)|apply AQ)<;>conv=>whnf
  exact DB [] (ih (i+1) D' D')
 ·obtain rfl:i=S.a.length:=D'
  clear ih;repeat' (first|(apply A7<;>intro hc<;>try omega)|apply AQ)<;>conv=>whnf
  exact HK rfl
end Go.j4

namespace Go.j4
open F
attribute [local irreducible] AJ A5 BZ A0 FH B2 C6 C9 EO EC E0 HH D6 CT EJ E3 AM CZ BH pw EF DP FF FR F5 F7 E6 DQ GN
variable {L:Lib}
structure BI where
 n:Bool
 m:a_
 d:a_
abbrev eW (w:BI):d_:=rQ false false w.n w.m w.d
def BI.v (w:BI):Rat:=qv w.n w.m w.d
def BI.Sz (k:Nat) (w:BI):Prop:=Sm k w.m/\Sm k w.d
def WF (x:Rat):BI:=⟨decide (x.num<0),dg x.num.natAbs,dg x.den⟩
theorem kT (x:Rat):(WF x).v=x:=H6 x
theorem AgD {k:Nat} {l:a_} (h:Sm k l):val l<=2^(32*k):=by
 have:=h.val
 rw[show 4294967296=2^32 from rfl,<-Nat.pow_mul]at this;omega
theorem BI.bt {w:BI} {k:Nat} (h:w.Sz k):Bt (32*k) w.v:=by
 unfold BI.v qv;refine Bt.mk ?_ (AgD h.2);rw[IP];exact AgD h.1
section program
theorem AoR (N:a7 L) {w:BI} {k:Nat} (h:w.Sz k) (hk:k<=68719476736):Ev L 95 [.agg (eW w)] (.agg (eQ w.v)):=sA N w.n false false w.m w.d (h.1.le D') (h.2.le D')
theorem AdU (N:a7 L) {w:BI} {y:Rat} {k l:Nat} (h:w.Sz k) (hy:Bt l y) (hk:k<=68719476736) (hl:l<2199023255552):Ev L 99 [.agg (eW w),.agg (eQ y)] (.agg (eQ (w.v*y))):=by
 have:=jQ N 68719476736 D' w.n (decide (y.num<0)) false false false false w.m w.d _ _ (h.1.le hk) (h.2.le hk) (hy.qe hl).1 (hy.qe hl).2
 rw[H6]at this;exact this
theorem An0 (N:a7 L) {w:BI} {x:Rat} {k l:Nat} (hx:Bt l x) (h:w.Sz k) (hl:l<2199023255552) (hk:k<=68719476736):Ev L 99 [.agg (eQ x),.agg (eW w)] (.agg (eQ (x*w.v))):=by
 have:=jQ N 68719476736 D' (decide (x.num<0)) w.n false false false false _ _ w.m w.d (hx.qe hl).1 (hx.qe hl).2 (h.1.le hk) (h.2.le hk)
 rw[H6]at this;exact this
theorem jO (N:a7 L) {w u:BI} {k l:Nat} (h:w.Sz k) (g:u.Sz l) (hk:k<=68719476736) (hl:l<=68719476736):Ev L 99 [.agg (eW w),.agg (eW u)] (.agg (eQ (w.v*u.v))) :=
 jQ N 68719476736 D' w.n u.n false false false false w.m w.d u.m u.d (h.1.le hk) (h.2.le hk) (g.1.le hl) (g.2.le hl)
end program
section reference
theorem zC (N:a8 L) {w:BI} {k:Nat} (h:w.Sz k) (hk:k<=68719476736):Ev L 123 [.agg (eW w)] (.agg (eQ w.v)):=Ad8 N w.n false w.m w.d (h.1.le D') (h.2.le D')
theorem AdV (N:a8 L) {w:BI} {y:Rat} {k l:Nat} (h:w.Sz k) (hy:Bt l y) (hk:k<=68719476736) (hl:l<2199023255552):Ev L 128 [.agg (eW w),.agg (eQ y)] (.agg (eQ (w.v*y))):=by
 have:=yX (q1:=false) (q3:=false) N 68719476736 D' w.n (decide (y.num<0)) false false w.m w.d _ _ (h.1.le hk) (h.2.le hk) (hy.qe hl).1 (hy.qe hl).2
 rw[H6]at this;exact this
theorem aQ (N:a8 L) {w u:BI} {k l:Nat} (h:w.Sz k) (g:u.Sz l) (hk:k<=68719476736) (hl:l<=68719476736):Ev L 128 [.agg (eW w),.agg (eW u)] (.agg (eQ (w.v*u.v))) :=
 yX N 68719476736 D' w.n u.n false false w.m w.d u.m u.d (h.1.le hk) (h.2.le hk) (g.1.le hl) (g.2.le hl)
theorem AnH (N:a8 L) {w u:BI} {k l:Nat} (h:w.Sz k) (g:u.Sz l) (hk:k<=68719476736) (hl:l<=68719476736):Ev L 126 [.agg (eW w),.agg (eW u)] (.agg (eQ (w.v+u.v))) :=
 yW N 68719476736 D' w.n u.n false false w.m w.d u.m u.d (h.1.le hk) (h.2.le hk) (g.1.le hl) (g.2.le hl)
theorem AoN (N:s9 L) {w:BI} {k:Nat} (h:w.Sz k) (hk:k<=68719476736):Ev L 155 [.agg (eW w)] (.int .i64 (ah w.v.num)):=by
 obtain ⟨n',m',d',hp,s1,s2,s3,s4⟩:=W4 N.toa8 w.n false w.m w.d 274877906943 D' (h.1.le D') (h.2.le D');have hS:=λ q=>mP N.toa8 n' q m' (s1.le D')
 have hz:ah (zv n' m')=ah w.v.num:=by
  rw[BI.v,s4];exact (Xi s3).symm
 rw[hz]at hS;refine Ev.x N.dD rfl rfl ?_;repeat' (first|apply iS|apply AQ|refine AU (hp) ?_|refine AU (hS _) ?_)<;>conv=>whnf
 exact F2 rfl
end reference
end Go.j4

namespace Go.j4
open F
attribute [local irreducible] AJ A5 BZ A0 FH B2 C6 C9 EO EC E0 HH D6 CT EJ E3 AM CZ BH pw EF DP FF FR F5 F7 E6 DQ GN
variable {L:Lib} (n:Nt)
end Go.j4

namespace Go.j4
open F
attribute [local irreducible] AJ A5 BZ A0 FH B2 C6 C9 EO EC E0 HH D6 CT EJ E3 AM CZ BH pw EF DP FF FR F5 F7 E6 DQ GN
variable {L:Lib}
theorem AoY {α:Type} (a b:α) {t m:Nat} (_:t<=m) (h:t<m):(jb t a++jb (m-t) b).set t a=jb (t+1) a++jb (m-(t+1)) b:=by
 obtain ⟨k,hk⟩ : ∃ k,m-t=k+1:=⟨m-t-1,D'⟩;rw[Td _ _ p_,hk,Le,Sd,gi,ye,show m-(t+1)=k by omega,zg,Bd];rfl
def fz {α:Type} (z:α) (l:List α) (m:Nat):List α:=l++jb (m-l.length) z
theorem nB {α:Type} {z:α} {l:List α} {m:Nat} (h:l.length<=m):(fz z l m).length=m:=by simp [fz];omega
theorem nC {α:Type} {z x:α} {l:List α} {m:Nat} (h:l.length<m):(fz z l m).set l.length x=fz z (l++[x]) m:=by
 unfold fz;obtain ⟨k,hk⟩ : ∃ k,m-l.length=k+1:=⟨m-l.length-1,D'⟩;rw[Td _ _ p_,hk,Sd,gi,ye,Gb,List.length_singleton,show m-(l.length+1)=k by omega,Bd];rfl
theorem Ao0 {α:Type} {z:α} {l:List α} {m:Nat} (h:l.length<m):(fz z l m)[l.length]? = some z:=by
 unfold fz;rw[Vc D',Sd,Mh,if_pos D']
theorem nA {α:Type} {z:α} {l:List α} {m:Nat} (h:l.length=m):fz z l m=l:=by simp [fz,h]
theorem oY {α:Type} {l:List α} {i:Nat} {x:α} (h:l[i]? = some x):l.take (i+1)=l.take i++[x]:=by
 rw[Pc,h];rfl
end Go.j4

namespace Go.j4
open F
attribute [local irreducible] AJ A5 BZ A0 FH B2 C6 C9 EO EC E0 HH D6 CT EJ E3 AM CZ BH pw EF DP FF FR F5 F7 E6 DQ GN
variable {L:Lib}
variable (b a:List Int) (d c:Wd)
variable {b a d c}
end Go.j4

namespace Go.j4
open F
attribute [local irreducible] AJ A5 BZ A0 FH B2 C6 C9 EO EC E0 HH D6 CT EJ E3 AM CZ BH pw EF DP FF FR F5 F7 E6 DQ GN
variable {L:Lib}
end Go.j4

namespace Go.j4
open F
attribute [local irreducible] AJ A5 BZ A0 FH B2 C6 C9 EO EC E0 HH D6 CT EJ E3 AM CZ BH pw EF DP FF FR F5 F7 E6 DQ GN
variable {L:Lib}
section
variable (n:Nt)
end
end Go.j4

namespace Go.j4
theorem dY {R:List (b_)} {i e z:Nat} {es:c_} {K:b_->Prop} (he:e=i) (hi:i<R.length) (h:K (some (z,es))):EF (R.set i (some (z,es))) e K:=by
 subst he;exact ⟨_,by rw[cd,if_pos rfl,if_pos hi],h⟩
theorem YS {R:List (b_)} {i e z:Nat} {es:c_} {K:Nat->c_->Prop} (he:e=i) (hi:i<R.length) (h:K z es):DP (R.set i (some (z,es))) e K:=by
 subst he;exact ⟨z,es,by rw[cd,if_pos rfl,if_pos hi],h⟩
theorem qF {R:List (b_)} {i e z:Nat} {es es':c_} {K:List (b_)->Prop} (he:e=i) (hl:es'.length=es.length) (h:K (R.set i (some (z,es')))):FR (R.set i (some (z,es))) e z es es' K:=by
 subst he;exact ⟨hl,by rw[List.set_set];exact h⟩
theorem iW {R:List (b_)} {i e z:Nat} {es:c_} {K:List (b_)->Prop} (he:e=i) (hi:i<R.length) (h:K (R.set i (some (z,es)))):FF R e z es K:=by
 subst he;exact ⟨hi,h⟩
end Go.j4

namespace Go.j4
open F
attribute [local irreducible] AJ A5 BZ A0 FH B2 C6 C9 EO EC E0 HH D6 CT EJ E3 AM CZ BH pw EF DP FF FR F5 F7 E6 DQ GN
variable {L:Lib}
def ot (P:Y_) (n j i:Nat):List (List (Option Rat)):=(Sc P.length).map λ r=>IL ((P.getD r []).take (if r<i then j+1 else j)) n
theorem nQ (P:Y_) (n j i:Nat):(ot P n j i).length=P.length:=by simp [ot]
theorem Ao7 {P:Y_} {i:Nat} {row:Z_} (h:P[i]? = some row):P.getD i []=row:=by rw[Wa,h];rfl
theorem tH {P:Y_} {n j i r:Nat} {row:Z_} (h:P[r]? = some row):(ot P n j i)[r]? = some (IL (row.take (if r<i then j+1 else j)) n):=by
 have h1:=(zS h).1;simp only[ot,na,Vd h1,We,Ao7 h]
theorem Arg {P:Y_} {n j i:Nat} {row:Z_} (h:P[i]? = some row):(ot P n j i).set i (IL (row.take (j+1)) n)=ot P n j (i+1):=by
 refine Se λ r => ?_
 rw[cd,nQ];cases e:P[r]? with
 | none =>
  have h1:=ph.1 e;have h2:=(zS h).1;rw[oc (by rw[nQ];exact h1),if_neg D',oc (by rw[nQ];exact h1)]
 | some ow =>
  rw[tH e,tH e];by_cases hi:i=r
  ·subst hi
   obtain rfl:=uc (h.symm.trans e);have h2:=(zS h).1;rw[if_pos rfl,if_pos h2,if_pos D']
  ·rw[if_neg hi]
   by_cases h3:r<i
   ·rw[if_pos h3,if_pos D']
   ·rw[if_neg h3,if_neg D']
theorem Arf (P:Y_) (n j:Nat):ot P n j P.length=ot P n (j+1) 0:=by
 refine Kd λ r hr => ?_
 rw[if_pos (Sf.1 hr),if_neg D']
theorem Arh (P:Y_) (n:Nat):ot P n 0 0=jb P.length (IL [] n):=by
 refine Se λ r => ?_
 simp only[ot,na,Mh];by_cases h:r<P.length
 ·rw[Vd h,if_pos h];simp
 ·rw[oc W_,if_neg h];rfl
theorem Are {P:Y_} {n:Nat} (h : ∀ r∈P,r.length=n):DD 3 eO (ot P n n 0)=DD 3 eQ P:=by
 refine Se λ r => ?_
 simp only[DD,na];cases e:P[r]? with
 | none=>rw[oc (by rw[nQ];exact ph.1 e)];rfl
 | some row =>
  have hl:=h row (zM e);rw[tH e,if_neg D',zT D'];simp only[We,aS hl]
def mz (Q:Y_) (n i:Nat):List (b_):=fz none (DD 3 eQ (Q.take i)) n
theorem Xl {Q:Y_} {n i:Nat} (hi:i<=n):(mz Q n i).length=n:=by
 refine nB ?_;simp only[DD,ta,Sa];omega
theorem Xn (Q:Y_) (n:Nat):mz Q n 0=jb n none:=by simp [mz,fz]
theorem Xm {Q:Y_} {n i:Nat} {row:Z_} (h:Q[i]? = some row) (hi:i<n):(mz Q n i).set i (some (3,row.map eQ))=mz Q n (i+1):=by
 have h1:=(zS h).1;have hl:(DD 3 eQ (Q.take i)).length=i:=by simp only[DD,ta,Sa];omega
 have:=nC (z:=none) (l:=DD 3 eQ (Q.take i)) (m:=n) (x:=some (3,row.map eQ)) D'
 rw[hl]at this;rw[mz,this,mz,oY h];simp [DD]
theorem Xk {Q:Y_} {n:Nat} (h:Q.length=n):mz Q n n=DD 3 eQ Q:=by
 rw[mz,zT D'];exact nA (by simp [DD,h])
end Go.j4

namespace Go.j4
open Go.ChangeShapes Go.WideShapes Go.ChangeAt Go.RowKit
inductive Ty where
 | int (k:IntKind)
 | bool
 | sl (e:Ty)
 | nil
 | cons (a r:Ty)
def Ty.cells:Ty->Nat
 | .int _=>1 | .bool=>1 | .sl _=>1
 | .nil=>0
 | .cons a r=>a.cells+r.cells
def KA (l:Bool):Ty->d_->Prop
 | .int k,cs => ∃ n,cs=[.int k n]/\(Lit.int k n).wf=true
 | .bool,cs => ∃ b,cs=[.bool b]
 | .sl e,cs => ∃ es,cs=[.sl l es]/\es.length<=maxLen /\ ∀ x∈es,KA l e x
 | .nil,cs=>cs=[]
 | .cons a r,cs => ∃ x y,cs=x++y/\KA l a x/\KA l r y
theorem KA.len {l:Bool} : ∀ {ty:Ty} {cs:d_},KA l ty cs->cs.length=ty.cells
 | .int _,cs,h=>by obtain ⟨n,rfl,_⟩:=h;rfl
 | .bool,cs,h=>by obtain ⟨n,rfl⟩:=h;rfl
 | .sl _,cs,h=>by obtain ⟨n,rfl,_⟩:=h;rfl
 | .nil,cs,h=>by rw[show cs=[] from h];rfl
 | .cons a r,cs,h=>by obtain ⟨x,y,rfl,h1,h2⟩:=h;simp [Ty.cells,KA.len h1,KA.len h2]
def S4 (P:Program):Nat->TypeId->Ty->Bool
 | 0,_,_=>false
 | n+1,t,ty=>match P.underlying t,ty with
  | some (.int k),.int k'=>decide (k=k')
  | some .bool,.bool=>true
  | some (.slice e),.sl td=>S4 P n e td&&(P.cellsOf e == td.cells&&decide (0<td.cells))
  | some (.struct fs),ty=>go (S4 P n) fs.toList 0 ty&&P.cellsOf t == ty.cells
  | _,_=>false
where
 go (ok:TypeId->Ty->Bool):List Field->Nat->Ty->Bool
  | [],_,.nil=>true
  | f::fs,off,.cons a r=>(f.offset == off&&(ok f.type a&&P.cellsOf f.type == a.cells))&&go ok fs (off+a.cells) r
  | _,_,_=>false
section
variable {H:Type} {enc:TypeId × Value->H} {P:Program} {w:World} {base:Nat} {spare:Nat->Bool} {held:Bool} {R:Bool->Nat->Prop}
def NJ (w:World) (R:Bool->Nat->Prop) (as:d_) (cs:List Value):Prop:=as.length=cs.length /\ ∀ (j:Nat) (a:AV) (c:Value),as[j]? = some a->cs[j]? = some c->Rd w R a c
theorem NJ.one {a:AV} {c:Value} (h:Rd w R a c):NJ w R [a] [c]:=by
 refine ⟨rfl,λ j a' c' h1 h2 => ?_⟩;cases j with
 | zero=>simp at h1 h2;subst h1 h2;exact h
 | succ j=>simp at h1
theorem NJ.append {as bs:d_} {cs ds:List Value} (h1:NJ w R as cs) (h2:NJ w R bs ds):NJ w R (as++bs) (cs++ds):=by
 refine ⟨by simp [h1.1,h2.1],λ j a c ha hc => ?_⟩;by_cases hj:j<as.length
 ·rw[Vh hj]at ha
  rw[Vh (by rw[<-h1.1];exact hj)]at hc;exact h1.2 j a c ha hc
 ·rw[Vc D']at ha
  rw[Vc (by rw[<-h1.1];omega),<-h1.1]at hc;exact h2.2 _ a c ha hc
theorem Aci (a:Addr) (i:Nat) (h:a.spot=none):a.add i=⟨a.block,a.off+i,none⟩:=by
 obtain ⟨b,o,s⟩:=a;simp only at h;subst h;exact M8 b o i
end
theorem AkF {B:Nat} {S:Nat->Prop} {m:M} : ∀ (j:Nat) (c:AV) (v:Value),([]:d_)[j]? = some c->([]:List Value)[j]? = some v->CA B S m c v:=λ j c v h=>by simp at h
theorem Acm {B:Nat} {S:Nat->Prop} {m:M} {a:AV} {u:Value} {as:d_} {us:List Value} (h:CA B S m a u) (hr : ∀ (j:Nat) (c:AV) (v:Value),as[j]? = some c->us[j]? = some v->CA B S m c v) :
  ∀ (j:Nat) (c:AV) (v:Value),(a::as)[j]? = some c->(u::us)[j]? = some v->CA B S m c v
 | 0,c,v,h1,h2=>by simp at h1 h2;subst h1 h2;exact h
 | j+1,c,v,h1,h2=>hr j c v (by simpa using h1) (by simpa using h2)
theorem Aqp {P:Program} {num:Nat->Nat} {L:Lib} (hP:ProgOK P num L) {f:Nat} {vs:d_} (h:Ev L f vs (.bool true)) {S:Nat->Prop} {w:World} {us:List Value} (hl:vs.length=us.length)
  (ha : ∀ (j:Nat) (c:AV) (v:Value),vs[j]? = some c->us[j]? = some v->CA w.heap.size S ⟨λ_ _=>none,BF.emp,w⟩ c v) :
  Calls P (num f) us.toArray w λ e w'=>e = .returned (.bool true)/\Below w.heap.size w w':=by
 obtain ⟨n,hn⟩:=h;refine ((AkR hP n).pure f vs _ hn S w us hl ha).mono ?_;rintro e w' ⟨u,rfl,hb,dh,_⟩
 refine ⟨?_,hb⟩;cases dh with
 | ca wq=>cases wq with
  | one fe=>cases fe with
   | rd tk=>cases tk;rfl
end Go.j4

namespace Go.j4
open Go.ChangeShapes Go.WideShapes Go.ChangeAt Go.RowKit
def HX:Ty->d_->Nat
 | .int _,_=>1
 | .bool,_=>1
 | .sl e,cs=>match cs with
  | [.sl _ es]=>(es.map (HX e)).sum+1
  | _=>0
 | .nil,_=>0
 | .cons a r,cs=>HX a (cs.take a.cells)+HX r (cs.drop a.cells)
structure pP {H:Type} (D:DataW H->Nat):Prop where
 lit : ∀ l,1<=D (.lit l)
 nil:1<=D .nil
 slice : ∀ es sp,(es.map D).sum+1<=D (.slice es sp)
 agg : ∀ ps,(ps.map D).sum<=D (.agg ps)
theorem Ag9 {α:Type} : ∀ (l:List α) (g:α->Nat) (f:Nat->Nat),(∀ i a,l[i]? = some a->f i<=g a)->((Sc l.length).map f).sum<=(l.map g).sum
 | [],_,_,_=>Cb _
 | a::l,g,f,h=>by
  rw[Ke,List.range_succ_eq_map,He,Wc,Th,He,Th];exact Nat.add_le_add (h 0 a rfl) (Ag9 l g (f ∘ Nat.succ) λ i b hb=>h (i+1) b (by simpa using hb))
section
variable {H:Type} {enc:TypeId × Value->H} {P:Program} {w:World} {base:Nat} {spare:Nat->Bool} {held:Bool} {R:Bool->Nat->Prop}
theorem AfN {l:Bool} {D:DataW H->Nat} (hR : ∀ b,b<w.heap.size->R l b) (m:Nat) (ih : ∀ (ty:Ty) (t:TypeId) (cs:List Value) (fuel:Nat) (x:DataW H × List MemPlace),S4 P m t ty=true->DataW.trod enc P w base spare held fuel t cs=some x -> ∃ as,KA l ty as/\NJ w R as cs/\HX ty as<=D x.1)
  (n:Nat) (cs:List Value) : ∀ (fs:List Field) (ys:List (DataW H × List MemPlace)) (off:Nat) (ty:Ty),S4.go P (S4 P m) fs off ty=true->ys.length=fs.length->(∀ (i:Nat) (f:Field),fs[i]? = some f->DataW.trod enc P w base spare held n f.type ((cs.drop f.offset).take (P.cellsOf f.type))=ys[i]?)->off+ty.cells=cs.length -> ∃ as,KA l ty as/\NJ w R as (cs.drop off)/\HX ty as<=(ys.map λ y=>D y.1).sum
 | [],ys,off,ty,j7,_,_,hl=>by
  cases ty<;>simp only[S4.go,Ri]at j7;simp only[Ty.cells]at hl;exact ⟨[],rfl,by rw[Gd D'];exact ⟨rfl,λ j a c h=>by simp at h⟩,ki _⟩
 | f::fs,[],off,ty,_,Aq,_,_=>by simp at Aq
 | f::fs,y::ys,off,ty,j7,Aq,hf,hl=>by
  cases ty<;>simp only[S4.go,Ri,Wb,beq_iff_eq]at j7;rename_i a r;obtain ⟨⟨h1,h2,h3⟩,h4⟩:=j7;simp only[Ty.cells]at hl;have hy:=hf 0 f rfl;rw[List.getElem?_cons_zero,h1,h3]at hy;obtain ⟨as1,g1,g2,g5⟩:=ih a f.type _ n y h2 hy;obtain ⟨as2,g3,g4,g6⟩:=AfN hR m ih n cs fs ys (off+a.cells) r h4 (by simpa using Aq) (λ i f' h'=>hf (i+1) f' (by simpa using h')) D';refine ⟨as1++as2,⟨as1,as2,rfl,g1,g3⟩,?_,?_⟩
  ·have:=g2.append g4
   rwa [show (cs.drop off).take a.cells++cs.drop (off+a.cells)=cs.drop off by rw[<-List.drop_drop,Oe]]at this
  ·rw[HX,<-g1.len,List.take_left' rfl,List.drop_left' rfl,He,Th]
   omega
theorem Xz {l:Bool} {D:DataW H->Nat} (hD:pP D) (hR : ∀ b,b<w.heap.size->R l b) : ∀ (m:Nat) (ty:Ty) (t:TypeId) (cs:List Value) (fuel:Nat) (x:DataW H × List MemPlace),S4 P m t ty=true->DataW.trod enc P w base spare held fuel t cs=some x -> ∃ as,KA l ty as/\NJ w R as cs/\HX ty as<=D x.1
 | 0,_,_,_,_,_,h,_=>by simp [S4]at h
 | m+1,ty,t,cs,fuel,x,j7,h=>by
  have ih:=Xz hD hR m;simp only[S4]at j7;split at j7
  ·rename_i k k' hu
   obtain rfl:k=k':=by simpa using j7
   obtain ⟨n,rfl,rfl,hw⟩:=DataW.trod_int hu h;exact ⟨[.int k n],⟨n,rfl,hw⟩,NJ.one (.int k n),hD.lit _⟩
  ·rename_i hu
   cases fuel with
   | zero=>simp [DataW.trod]at h
   | succ fuel =>
    unfold DataW.trod at h;rw[hu]at h;split at h<;>simp_all
    subst h;exact ⟨_,⟨_,rfl⟩,NJ.one (.bool _),hD.lit _⟩
  ·rename_i e td hu
   simp only[Wb,beq_iff_eq,decide_eq_true_eq]at j7;obtain ⟨h1,h2,h3⟩:=j7;rcases DataW.trod_slice hu h with ⟨rfl,rfl⟩|⟨a,len,cap,elems,rest,n,_,rfl,rfl,hb,hl,hm,hlen,lg,_,_⟩
   ·exact ⟨[.sl l []],⟨[],rfl,p_,p_⟩,NJ.one (.sj l none 0),by simpa [HX] using hD.nil⟩
   ·have each : ∀ i,i<len -> ∃ as lf,KA l td as/\NJ w R as lf/\lf.length=td.cells/\(∀ j,j<td.cells->w.cell? ((a.add (i*td.cells)).add j)=lf[j]?) /\ ∀ y,elems[i]? = some y->HX td as<=D y.1:=by
     intro i hi;have:=lg i hi
     rw[h2,zE D',Option.bind_eq_some_iff]at this;obtain ⟨lf,hc,ht⟩:=this;obtain ⟨as,g1,g2,g3⟩:=ih td e lf n _ h1 ht;obtain ⟨_,q1,q2⟩:=World.cells?_some hc;exact ⟨as,lf,g1,g2,q1,q2,λ y hy=>by rw[zE D']at hy;obtain rfl:=uc hy;exact g3⟩
    by_cases h0:len=0
    ·subst h0
     exact ⟨[.sl l []],⟨[],rfl,p_,p_⟩,NJ.one (.sj l (some a) cap),by have:=hD.slice (elems.map (·.1)) (rest.map (·.1));simp only[HX,Af,List.sum_nil];omega⟩
    ·have Kg:a.spot=none:=by
      obtain ⟨as,lf,_,_,q1,q2,_⟩:=each 0 D';have:=q2 0 h3
      rw[zE D']at this;simpa [Addr.add] using World.cell?_spot this
     have xy:a.block<w.heap.size:=by
      obtain ⟨as,lf,_,_,q1,q2,_⟩:=each 0 D';have:=q2 0 h3
      rw[zE D']at this;simpa [Addr.add] using eI this
     have pick : ∃ f:Nat->List AV × List Value,∀ i,i<len->KA l td (f i).1/\NJ w R (f i).1 (f i).2/\(f i).2.length=td.cells/\(∀ j,j<td.cells->w.cell? ((a.add (i*td.cells)).add j)=(f i).2[j]?) /\ ∀ y,elems[i]? = some y->HX td (f i).1<=D y.1:=by
      refine ⟨λ i=>if hi:i<len then (Classical.choose (each i hi),Classical.choose (Classical.choose_spec (each i hi))) else ([],[]),λ i hi => ?_⟩;simp only[hi,dif_pos];exact Classical.choose_spec (Classical.choose_spec (each i hi))
     obtain ⟨f,hf⟩:=pick;have u6 : ∀ i e',((Sc len).map λ i=>(f i).1)[i]? = some e'->i<len/\e'=(f i).1:=by
      intro i e' he;rw[na]at he;by_cases hi:i<len
      ·rw[Vd hi]at he
       simp at he;exact ⟨hi,he.symm⟩
      ·rw[oc (by simpa using hi)]at he
       cases he
     refine ⟨[.sl l ((Sc len).map λ i=>(f i).1)],⟨_,rfl,by simp;omega,λ x hx => ?_⟩,NJ.one ?_,?_⟩
     ·obtain ⟨i,hi,rfl⟩:=Sb.1 hx
      exact (hf i (Sf.1 hi)).1
     rotate_left
     ·have h8:=hD.slice (elems.map (·.1)) (rest.map (·.1))
      have h9:=Ag9 elems (λ y=>D y.1) (λ i=>HX td (f i).1) λ i y hy=>(hf i (by have:=(zS hy).1;omega)).2.2.2.2 y hy
      rw[hlen]at h9;simp only[Wc]at h8;simp only[HX,Wc];exact ve (Nat.add_le_add_right h9 1) h8
     ·obtain ⟨ab,ao,as⟩:=a
      simp only at Kg;subst Kg;have Ju:((Sc len).map λ i=>(f i).1).length=len:=p_
      have:=Rd.sl (w:=w) (R:=R) l ((Sc len).map λ i=>(f i).1) ab ao td.cells cap (λ i j=>((f i).2[j]?).getD default) (by intro e;have:=congrArg List.length e;simp at this;omega) h3 (hR ab xy) (by rw[Ju];exact hl)
       (λ e' he=>by
        obtain ⟨i,hi,rfl⟩:=Sb.1 he;exact (hf i (Sf.1 hi)).1.len)
       (λ i e' he j c hc=>by
        obtain ⟨hi,rfl⟩:=u6 i e' he;obtain ⟨g1,g2,g3,g4,_⟩:=hf i hi;have hj:j<td.cells:=by
         have:=(zS hc).1
         rwa [g1.len]at this
        have h5:=g4 j hj;rw[Aci ⟨ab,ao,none⟩ (i*td.cells) rfl,Aci _ _ rfl]at h5;simp only at h5;rw[show ao+(i*td.cells+j)=ao+i*td.cells+j by omega,h5,zE D'];rfl)
       (λ i e' he j c hc=>by
        obtain ⟨hi,rfl⟩:=u6 i e' he;obtain ⟨g1,g2,g3,g4,_⟩:=hf i hi;have hj:j<td.cells:=by
         have:=(zS hc).1
         rwa [g1.len]at this
        have h6:(f i).2[j]? = some ((f i).2[j]' D'):=zE _;rw[h6];exact g2.2 j c _ hc h6)
      rwa [Ju]at this
  ·rename_i fs hu
   simp only[Wb,beq_iff_eq]at j7;obtain ⟨h1,h2⟩:=j7;obtain ⟨xs,n,_,rfl,hl,hlen,hf⟩:=DataW.trod_struct hu h;obtain ⟨as,q1,q2,q3⟩:=AfN (D:=D) hR m ih n cs fs.toList xs 0 _ h1 (by simpa using hlen) (λ i f yd=>hf i f (by simpa using yd)) (by rw[hl,h2];omega);have h8:=hD.agg (xs.map (·.1));simp only[Wc]at h8;exact ⟨as,q1,by simpa using q2,ve q3 h8⟩
  ·exact absurd j7 p_
theorem Ara {D:DataW H->Nat} (hD:pP D) {ty:Ty} {t:TypeId} {v:Value} {d:DataW H} {ps:List MemPlace} {m:Nat} (j7:S4 P m t ty=true) (hv:v.cells.toList=[v]) (h:DataW.Trod enc P w base spare held t v d ps) :
  ∃ a,(KA false ty [a]/\HX ty [a]<=D d)/\CA w.heap.size (λ_=>True) ⟨λ_ _=>none,BF.emp,w⟩ a v:=by
 obtain ⟨fuel,hf⟩:=h;rw[hv]at hf;obtain ⟨as,h1,h2,h3⟩:=Xz hD (l:=false) (R:=safe w.heap.size (λ_=>True) ⟨λ_ _=>none,BF.emp,w⟩) (λ b hb=>Or.inl ⟨trivial,hb⟩) m ty t [v] fuel _ j7 hf;obtain ⟨a,rfl⟩ : ∃ a,as=[a]:=by
  have:=h2.1
  match as,this with
  | [a],_=>exact ⟨a,rfl⟩
 exact ⟨a,⟨h1,h3⟩,.one (.rd (h2.2 0 a v rfl rfl))⟩
theorem Arb {D:DataW H->Nat} (hD:pP D) {ty:Ty} {t:TypeId} {cs:Array Value} {d:DataW H} {ps:List MemPlace} {m:Nat} (j7:S4 P m t ty=true) (h:DataW.Trod enc P w base spare held t (.agg cs) d ps) :
  ∃ as,(KA false ty as/\HX ty as<=D d)/\CA w.heap.size (λ_=>True) ⟨λ_ _=>none,BF.emp,w⟩ (.agg as) (.agg cs):=by
 obtain ⟨fuel,hf⟩:=h;obtain ⟨as,h1,h2,h3⟩:=Xz hD (l:=false) (R:=safe w.heap.size (λ_=>True) ⟨λ_ _=>none,BF.emp,w⟩) (λ b hb=>Or.inl ⟨trivial,hb⟩) m ty t cs.toList fuel _ j7 hf;refine ⟨as,⟨h1,h3⟩,?_⟩;have:=CA.agg (B:=w.heap.size) (S:=λ_=>True) (m:=⟨λ_ _=>none,BF.emp,w⟩) as cs.toList ⟨h2.1,λ j c v hc hv => .rd (h2.2 j c v hc hv)⟩
 simpa using this
end
end Go.j4

namespace Go.j4
abbrev tI:Ty := .int .i64
theorem Afh {α:Type} {enc:α->d_} {p:α->Prop} : ∀ {es:c_},(∀ x∈es,∃ y,x=enc y/\p y) -> ∃ l:List α,es=l.map enc /\ ∀ y∈l,p y
 | [],_=>⟨[],rfl,p_⟩
 | e::es,h=>by
  obtain ⟨y,rfl,hy⟩:=h e Ue;obtain ⟨l,rfl,hl⟩:=Afh (enc:=enc) (p:=p) λ x hx=>h x (Be _ hx)
  exact ⟨y::l,rfl,by simpa using ⟨hy,hl⟩⟩
theorem As2 {n:Int} (h:(Lit.int .i64 n).wf=true):vK n:=by
 simp only[Lit.wf,Wb,decide_eq_true_eq]at h;have h1:IntKind.i64.min = -9223372036854775808:=rfl;have h2:IntKind.i64.max=9223372036854775807:=rfl;rw[h1,h2]at h;unfold vK;constructor<;>omega
def hQ (S:G3):Nat->Rat
 | 0=>S.d
 | j+1=>B4 S.c (wQ S j)
theorem AsP {r:Z_} (h:dP r=r) (hn:r.length≠0):r.getD (r.length-1) 0≠0:=by
 have hl:=Ahi r;rw[h]at hl;obtain ⟨n,zo⟩ : ∃ n,r.length=n+1:=⟨r.length-1,D'⟩;rw[zo,NM]at hl;rw[zo,Nat.add_sub_cancel];intro h0;rw[if_pos h0]at hl;have:=mC r n
 omega
def KC (x:Rat):Rat:=if x.num<0 then -x else x
end Go.j4

namespace Go.j4
theorem Wh.of_dvd {k S T:Nat} {x:Rat} (hT:1<=T) (h:Wh k (((S*T:Nat):Rat)*x)) (hz : ∃ z:Int,x*(S:Rat)=(z:Rat)):Wh k (x*(S:Rat)):=by
 obtain ⟨z,hz⟩:=hz;obtain ⟨u,hu,hb⟩:=h;refine ⟨z,hz,?_⟩;have e:((z*(T:Int):Int):Rat)=(u:Rat):=by
  rw[Dd,<-hz,<-hu,Ud,xc];grind
 have e2:=yh.1 e;have:z.natAbs*T=u.natAbs:=by rw[<-e2,pe,zc]
 have h2:z.natAbs<=z.natAbs*T:=Bf _ D';omega
theorem uC {M k m:Nat} {l:Z_} (hM:1<=M) (hm:M<=2^m) (h : ∀ x∈l,Wh k ((M:Rat)*x)):Wh m (FO l) /\ ∀ x∈l,Wh k (x*FO l):=by
 obtain ⟨S,e,⟨T,hT⟩,hz⟩:=Ar5 (M:=M) (l:=l) λ x hx=>by
  obtain ⟨z,hz,_⟩:=h x hx;exact ⟨z,hz⟩
 have hT1:1<=T:=by
  rcases Nat.eq_zero_or_pos T with h0|h0
  ·rw[h0]at hT;omega
  ·exact h0
 refine ⟨⟨(S:Int),by rw[e,xc],?_⟩,λ x hx => ?_⟩
 ·rw[zc]
  have:S<=S*T:=Bf _ D'
  omega
 ·have h1:=h x hx
  rw[hT]at h1;rw[e];exact Wh.of_dvd hT1 h1 (by rw[<-e];exact hz x hx)
section
variable {M ky:Nat} {g:List Pt}
end
end Go.j4

namespace Go.j4
open F
attribute [local irreducible] AJ A5 BZ A0 FH B2 C6 C9 EO EC E0 HH D6 CT EJ E3 AM CZ BH pw EF DP FF FR F5 F7 E6 DQ GN
variable {L:Lib}
set_option maxRecDepth 8000
abbrev eM (m:Y_):c_:=m.map λ r=>[AV.sl false (r.map eQ)]
theorem wK (m:Y_):J6 (eM m):=jJ (λ r=>by simp only[ES,CI,and_true,true_and];exact OL r) m
theorem AcI (m:Y_):CI (.sl false (eM m)):=by
 simp only[CI,true_and];exact wK m
theorem AoL (N:ae L) (m:Nat) (hm:m<=65536):dU L 206 [.int .i64 (m:Int)] 3 ((jb m (0:Rat)).map eQ):=by
 have hO:=QL N.toa7 0 D';refine dU.x N.YM rfl rfl ?_;(repeat' (apply AQ<;>conv=>whnf))
 refine I2 (enc:=eO) none m rfl rfl D' ?_;conv=>whnf
 skip
 refine GV (λ i=>m-i) (λ(i:Nat)=>i<=m) (λ i=>[(8,.int .i64 i)]) (λ i=>[(6,6,.rw 3 ((IL (jb i 0) m).map eO))]) [] [] 0 (by first|exact w_|(rw[<-aT];exact w_)) D' ?_;intro i p1 ih;by_cases hi:i<m
 ·have hl:=ZF (l:=jb i (0:Rat)) (m:=m) W_
  have hs:=aU (l:=jb i (0:Rat)) (m:=m) (x:=0) W_;rw[Le]at hs;repeat' (first|(apply A7<;>intro hc<;>try omega)|(apply CB;omega)|apply AQ|refine AU (hO) ?_)<;>conv=>whnf
  refine LB (enc:=eO) (some 0) rfl (λ e=>by cases e<;>rfl) D' ?_;conv=>whnf
  repeat' (first|(apply B5;omega)|fail)<;>conv=>whnf
  rw[hs];rw[show jb i (0:Rat)++[0]=jb (i+1) 0 by rw[zg]];exact DB [] (ih (i+1) D' D')
 obtain rfl:i=m:=D'
 clear ih;rw[aS p_];repeat' (first|(apply A7<;>intro hc<;>try omega)|apply AQ)<;>conv=>whnf
 exact ⟨rfl,rfl,p_,rfl,OL _⟩
theorem zA (N:ae L) (q:Bool) (l:Z_) (i:Int) (k:Nat) (h0:0<=i) (hl:Bs k l) (hk:k<2199023255552) (hn:l.length<=1000000):Ev L 205 [.sl q (l.map eQ),.int .i64 i] (.agg (eQ (l.getD i.toNat 0))):=by
 have hO:=QL N.toa7 0 D';refine Ev.x N.dO rfl rfl ?_;by_cases hi:i<l.length
 ·obtain ⟨x,hx⟩:=X_ l i.toNat
  have hT:=zB N.toa7 (hl.at hx) hk;rw[zN hx];repeat' (first|(apply A7<;>intro hc<;>try omega)|apply BW|(refine CU G' ?_ rfl ?_;omega)|apply AQ|refine AU (hT) ?_)<;>conv=>whnf
  exact B1 rfl (GD _)
 ·rw[Ao3 (l:=l) D']
  repeat' (first|(apply A7<;>intro hc<;>try omega)|apply BW|apply AQ|refine AU (hO) ?_)<;>conv=>whnf
  exact B1 rfl (GD _)
theorem Aee (N:ae L) (q:Bool) (l:Z_) (k:Nat) (ht:dP l=l) (hl:Bs k l) (hk:k<2199023255552) (hn:l.length<=1000000):Ev L 204 [.sl q (l.map eQ)] (.int .i64 ((l.length-1:Nat):Int)):=by
 refine Ev.x N.YL rfl rfl ?_;repeat' (first|(apply EP;omega)|apply BW|apply AQ)<;>conv=>whnf
 refine QH ?_;by_cases h2:l.length<=1
 ·repeat' (first|(apply A7<;>intro hc<;>try omega)|apply AQ)<;>conv=>whnf
  exact F2 D'
 ·obtain ⟨x,hx⟩:=X_ l (l.length-1)
  have ni:l[((l.length:Int)-1).toNat]? = some x:=by rw[show ((l.length:Int)-1).toNat=l.length-1 by omega];exact hx
  have hxn:=AsP ht D';rw[zN hx]at hxn;have hS:=mT N.toa7 (hl.at hx) hk;have hs:=ZU (x:=x);generalize ah x.num=s at *;have jn:s≠0:=λ h=>hxn (hs.1 h)
  repeat' (first|(apply A7<;>intro hc<;>try omega)|(refine CU G' ?_ rfl ?_;omega)|apply AQ|refine AU (hS) ?_)<;>conv=>whnf
  exact F2 D'
theorem AoI (N:ae L) (q1 q2:Bool) (B A:Z_) (k:Nat) (hB:Bs k B) (hA:Bs k A) (hk:k<2199023255552) (lB:B.length<=49) (lA:A.length<=49) (h0:A[0]? = some 1):Ev L 201 [.agg [.sl q1 (B.map eQ),.sl q2 (A.map eQ)]] (.bool true):=by
 have c1:=mC B B.length;have c2:=mC A A.length;have Dh:=Ad1 N q1 B k hB hk D';have ux:=Ad1 N q2 A k hA hk D';have hO:=QL N.toa7 1 D';have hC:=AdK N (Bt.one 1) (Bt.one 1) D' D';rw[Agv.2 rfl]at hC;have hAl:0<A.length:=(zS h0).1;have Hb:A[(0:Int).toNat]? = some 1:=h0;generalize NM B B.length=d1 at *;generalize NM A A.length=d2 at *;refine Ev.x N.dI rfl rfl ?_;repeat' (first|(apply A7<;>intro hc<;>try omega)|apply BW|(refine CU G' ?_ rfl ?_;omega)|apply AQ|refine AU (Dh) ?_|refine AU (ux) ?_|refine AU (hO) ?_|refine AU (hC) ?_)<;>conv=>whnf
 exact HK rfl
theorem YN {α:Type} {l:List α} {i:Nat} {x:α} (h:l[i]? = some x):l.take (i+1)=l.take i++[x]:=by
 rw[Pc,h];rfl
theorem AkV (S:G3) (e:Int):CI (.e9 [.agg (eS S),.int .i64 e]):=by
 have:=AkU S
 simp only[CI,ES,true_and,and_true]at this ⊢;exact this
theorem AcW {a:Y_} {i j:Nat} {r:Z_} {x:Rat} (hr:a[j]? = some r) (hx:r[i]? = some x):(GI a i)[j]? = some x:=by
 simp only[GI,na,hr,We,zN hx]
theorem vO {R:List (b_)} {e:Nat} {r:b_} {K:b_->Prop} (h:R[e]? = some r) (hk:K r):EF R e K:=by
 unfold EF;exact ⟨r,h,hk⟩
theorem Bt.ng {k:Nat} {x:Rat} (h:Bt k x):Bt k (-x):=⟨by simpa using h.1,by simpa using h.2⟩
theorem Apn:Bt 4 (Rat.divInt 1 2):=(Bt.mk (k:=4) (z:=1) (d:=2) o_ o_)
end Go.j4

namespace Go.j4
variable {L:Lib}
theorem Ah3 {kk:List It} {tm:Tm} {M:Mem} {Q:Tm->Mem->Prop} {k s:Nat} {rows:List (b_)} {w:a_} (y8:List (b_)) (e:c7 M k=some (s,.vw w rows)) (hl:y8.length=w.length)
  (hw : ∀ (i t:Nat),w[i]? = some t -> ∃ r,rows[t]? = some r/\y8[i]? = some r) (hi : ∀ (i i' t:Nat),w[i]? = some t->w[i']? = some t->i=i') (iw:RC k tm=false) (yc:OH k M=false)
  (h:AJ L kk tm ((k,s,.mx y8)::M) Q):AJ L kk tm M Q:=by
 intro σ st hr;obtain ⟨σ',nh⟩:=hr.Oz e hl hw hi iw yc;exact h σ' st nh
theorem AbK {kk:List It} {tm:Tm} {M:Mem} {Q:Tm->Mem->Prop} {k s i j:Nat} {rows:List (b_)} {a b:b_} (e:c7 M k=some (s,.vw (((Sc rows.length).set i j).set j i) rows)) (ha:rows[i]? = some a) (hb:rows[j]? = some b) (iw:RC k tm=false) (yc:OH k M=false)
  (h:AJ L kk tm ((k,s,.mx ((rows.set i b).set j a))::M) Q):AJ L kk tm M Q:=by
 have hi:=(zS ha).1;have hj:=(zS hb).1;have Ux : ∀ p,p<rows.length->(((Sc rows.length).set i j).set j i)[p]? = some (if p=j then i else if p=i then j else p):=λ p hp=>by
  rw[cd,cd,Ic,Ni];by_cases h1:j=p
  ·subst h1;simp [hp]
  ·rw[if_neg h1,if_neg (Ne.symm h1)]
   by_cases h2:i=p
   ·subst h2;simp [hp]
   ·rw[if_neg h2,if_neg (Ne.symm h2),Vd hp]
 have Er : ∀ p t,(((Sc rows.length).set i j).set j i)[p]? = some t->p<rows.length:=λ p t hp=>by
  have:=(zS hp).1
  simpa using this
 refine Ah3 ((rows.set i b).set j a) e p_ (λ p t hp => ?_) (λ p p' t hp Ub => ?_) iw yc h
 ·have Cp:=Er p t hp
  rw[Ux p Cp]at hp;obtain rfl:=uc hp;rw[cd,cd,Ic];by_cases h1:p=j
  ·subst h1
   exact ⟨a,by rw[if_pos rfl];exact ha,by rw[if_pos rfl,if_pos Cp]⟩
  ·rw[if_neg h1,if_neg (Ne.symm h1)]
   by_cases h2:p=i
   ·subst h2
    exact ⟨b,by rw[if_pos rfl];exact hb,by rw[if_pos rfl,if_pos Cp]⟩
   ·rw[if_neg h2,if_neg (Ne.symm h2)]
    exact ⟨_,zE Cp,zE Cp⟩
 ·have Cp:=Er p t hp
  have AuF:=Er p' t Ub;rw[Ux p Cp]at hp;rw[Ux p' AuF]at Ub;have:=uc (hp.trans Ub.symm)
  split at this<;>split at this<;>(try split at this)<;>(try split at this)<;>omega
def SP:DE->Bool
 | .ret=>false
 | .dr c _ _=>SP c
 | .scope c=>SP c
 | .seq a b=>SP a&&SP b
 | .cond _ a b=>SP a&&SP b
 | .block _ c=>SP c
 | .loop c=>SP c
 | _=>true
def SR:It->Bool
 | .code c=>SP c
 | .lp c=>SP c
 | _=>true
theorem mV {id:Nat} {kk:List It} : ∀ {l l':List It},HN id l=some l'->HN id (l++kk)=some (l'++kk)
 | [],_,h=>by cases h
 | .g8 i::l,l',h=>by
  simp only[Fb,HN]at h ⊢;split at h
  ·rename_i e;rw[if_pos e];cases h;rfl
  ·rename_i e;rw[if_neg e];exact mV h
 | .code c::l,l',h=>by
  simp only[Fb,HN]at h ⊢;exact mV h
 | .tu a b::l,l',h=>by
  simp only[Fb,HN]at h ⊢;exact mV h
 | .lp c::l,l',h=>by
  simp only[Fb,HN]at h ⊢;exact mV h
theorem mU {id:Nat} {p:It->Bool} : ∀ {l l':List It},HN id l=some l'->l.all p=true->l'.all p=true
 | [],_,h,_=>by cases h
 | .g8 i::l,l',h,ha=>by
  simp only[HN]at h;simp only[Qc,Wb]at ha;split at h
  ·cases h;exact ha.2
  ·exact mU h ha.2
 | .code c::l,l',h,ha=>by
  simp only[HN]at h;simp only[Qc,Wb]at ha;exact mU h ha.2
 | .tu a b::l,l',h,ha=>by
  simp only[HN]at h;simp only[Qc,Wb]at ha;exact mU h ha.2
 | .lp c::l,l',h,ha=>by
  simp only[HN]at h;simp only[Qc,Wb]at ha;exact mU h ha.2
theorem Q2 {C:Cl} {kk:List It} {m:Nat} {C3 DM:St} (hk:run C m kk C3=some DM) : ∀ (n:Nat) (l:List It) (st:St),l.all SR=true->run C n l st=some C3->run C (n+m) (l++kk) st=some DM
 | 0,_,_,_,h=>by cases h
 | n+1,[],st,_,h=>by
  simp only[run,Option.some.injEq]at h;subst h;exact Q3 (C:=C) (C':=C) ⟨λ_ _ _ h=>h,λ_ _ _ _ h=>h,rfl⟩ D' hk
 | n+1,.g8 i::l,st,ha,h=>by
  simp only[Qc,Wb]at ha;rw[show n+1+m=n+m+1 by omega];simp only[Fb,run]at h ⊢;exact Q2 hk n l st ha.2 h
 | n+1,.tu ts ss::l,st,ha,h=>by
  simp only[Qc,Wb]at ha;rw[show n+1+m=n+m+1 by omega];simp only[Fb,run]at h ⊢;exact Q2 hk n l _ ha.2 h
 | n+1,.lp c::l,st,ha,h=>by
  rw[show n+1+m=n+m+1 by omega];simp only[Fb,run]at h ⊢;exact Q2 hk n (.code c :: .lp c::l) st (by simp only[Qc,SR,Wb]at ha ⊢;exact ⟨ha.1,ha.1,ha.2⟩) h
 | n+1,.code c::l,st,ha,h=>by
  simp only[Qc,SR,Wb]at ha;obtain ⟨h1,h2⟩:=ha;rw[show n+1+m=n+m+1 by omega];cases c with
  | ret=>cases h1
  | skip =>
   simp only[Fb,run]at h ⊢;exact Q2 hk n l st h2 h
  | ops o d =>
   simp only[Fb,run]at h ⊢;cases hs:F9 C o st with
   | none=>rw[hs]at h;cases h
   | some s'=>rw[hs]at h;exact Q2 hk n l s' h2 h
  | dr c ts ss =>
   simp only[Fb,run]at h ⊢;exact Q2 hk n (.code c :: .tu ts ss::l) st (by simp only[Qc,SR,Wb];exact ⟨h1,trivial,h2⟩) h
  | scope c =>
   simp only[Fb,run]at h ⊢;exact Q2 hk n (.code c::l) st (by simp only[Qc,SR,Wb];exact ⟨h1,h2⟩) h
  | seq a b =>
   simp only[SP,Wb]at h1;simp only[Fb,run]at h ⊢;exact Q2 hk n (.code a :: .code b::l) st (by simp only[Qc,SR,Wb];exact ⟨h1.1,h1.2,h2⟩) h
  | cond x a b =>
   simp only[SP,Wb]at h1;simp only[Fb,run]at h ⊢;split at h
   ·exact Q2 hk n (.code a::l) st (by simp only[Qc,SR,Wb];exact ⟨h1.1,h2⟩) h
   ·exact Q2 hk n (.code b::l) st (by simp only[Qc,SR,Wb];exact ⟨h1.2,h2⟩) h
   ·cases h
  | block i c =>
   simp only[Fb,run]at h ⊢;exact Q2 hk n (.code c :: .g8 i::l) st (by simp only[Qc,SR,Wb];exact ⟨h1,trivial,h2⟩) h
  | loop c =>
   simp only[Fb,run]at h ⊢;exact Q2 hk n (.code c :: .lp c::l) st (by simp only[Qc,SR,Wb];exact ⟨h1,h1,h2⟩) h
  | exit i =>
   simp only[Fb,run]at h ⊢;cases he:HN i l with
   | none=>rw[he]at h;cases h
   | some l' =>
    rw[he]at h;rw[mV he];exact Q2 hk n l' st (mU he h2) h
theorem iP {l kk:List It} {tm:Tm} {M:Mem} {Q:Tm->Mem->Prop} (hn:l.all SR=true) (h:AJ L l tm M (λ tm M=>AJ L kk tm M Q)):AJ L (l++kk) tm M Q:=by
 intro σ st hr;obtain ⟨n,c,C3,h1,σ1,tm1,M1,du,h2⟩:=h σ st hr;obtain ⟨m,c2,DM,h3,h4⟩:=h2 σ1 C3 du;obtain ⟨c3,g1,g2⟩ : ∃ c3,(FA L c).le (FA L c3)/\(FA L c2).le (FA L c3):=⟨max c c2,I4 (Nat.le_max_left _ _),I4 (Nat.le_max_right _ _)⟩;exact ⟨n+m,c3,DM,Q2 (Q3 g2 (Cb _) h3) n l st hn (Q3 g1 (Cb _) h1),h4⟩
structure pX (p:Prop):Prop where
 go ::
 out:p
theorem Ah1 {α β γ:Type} {l kk:List It} {tm:Tm} {M:Mem} {Q:Tm->Mem->Prop} (P:α->β->γ->Prop) (vs:α->β->γ->Tm) (Ms:α->β->γ->Mem) (ts:a_) (hn:l.all SR=true)
  (hr : ∀ a b c,P a b c->AJ L kk (vs a b c++bp ts tm) (Ms a b c++M) Q)
  (h:(∀ a b c,P a b c->AJ L kk (vs a b c++bp ts tm) (Ms a b c++M) Q)->AJ L l tm M (λ tm M=>pX (AJ L kk tm M Q))):AJ L (l++kk) tm M Q:=by
 refine iP hn ?_;intro σ st hs;obtain ⟨n,c,C3,h1,σ1,tm1,M1,du,h2⟩:=h hr σ st hs;exact ⟨n,c,C3,h1,σ1,tm1,M1,du,h2.out⟩
end Go.j4

namespace Go.j4
theorem Xq (x:Rat):x.num<0↔x<0:=by rw[<-Int.not_le,Rat.num_nonneg,Rat.not_le]
theorem qL (x:Rat):KC x=if x<0 then -x else x:=by
 unfold KC;by_cases h:x<0
 ·rw[if_pos h,if_pos ((Xq x).2 h)]
 ·rw[if_neg h,if_neg (λ e=>h ((Xq x).1 e))]
theorem Aks (x y:Rat):KC (x*y)=KC x*KC y:=by
 have pp : ∀ a b:Rat,0<=a->0<=b->0<=a*b:=λ a b=>Rat.mul_nonneg
 rw[qL,qL,qL];by_cases hx:x<0
 ·by_cases hy:y<0
  ·have h:=pp (-x) (-y) v_ v_
   rw[if_pos hx,if_pos hy,if_neg (by rw[Rat.not_lt];grind)];grind
  ·have h:=pp (-x) y v_ v_
   rw[if_pos hx,if_neg hy];by_cases h0:x*y<0
   ·rw[if_pos h0];grind
   ·rw[if_neg h0];grind
 ·by_cases hy:y<0
  ·have h:=pp x (-y) v_ v_
   rw[if_neg hx,if_pos hy];by_cases h0:x*y<0
   ·rw[if_pos h0];grind
   ·rw[if_neg h0];grind
  ·have h:=pp x y v_ v_
   rw[if_neg hx,if_neg hy,if_neg v_]
theorem Aku {x:Rat} (h:0<=x):KC x=x:=by
 rw[qL,if_neg v_]
def EM:Z_->Rat
 | []=>0
 | x::l=>KC x+EM l
theorem Agy (x:Rat) : ∀ l,EM (l++[x])=EM l+KC x
 | []=>by simp only[Gg,EM];grind
 | y::l=>by
  simp only[Fb,EM,Agy x l];grind
theorem Abg {c:Rat} (hc:0<=c) : ∀ l,EM (l.map (· * c))=EM l*c
 | []=>by simp only[Af,EM];grind
 | x::l=>by
  simp only[He,EM,Abg hc l,Aks,Aku hc];grind
def HP (a:Y_):Bool:=a.all λ r=>decide (EM r<=1/2)
def EU (n:Nat) (a:Y_):Nat->Y_
 | 0=>a
 | k+1=>LF (EU n a k) (EU n a k) n
theorem iG {n:Nat} {a:Y_} (h:Sq n a) : ∀ k,Sq n (EU n a k)
 | 0=>h
 | k+1=>Sq.mul (iG h k).l _
def FX (c:Rat) (a:Y_):Y_:=a.map λ r=>r.map (· * c)
theorem AgA (c:Rat) (a:Y_):(FX c a).length=a.length:=by simp [FX]
theorem AgB {n:Nat} (c:Rat) {a:Y_} (h : ∀ r∈a,r.length=n) : ∀ r∈FX c a,r.length=n:=λ r hr=>by
 obtain ⟨s,hs,rfl⟩:=Sb.1 hr;rw[ta];exact h s hs
theorem Asd {n:Nat} (c:Rat) {a:Y_} (h:Sq n a):Sq n (FX c a):=⟨by rw[AgA,h.l],AgB c h.r⟩
theorem Asc {c:Rat} {a:Y_} {i:Nat} {r:Z_} (h:a[i]? = some r):(FX c a)[i]? = some (r.map (· * c)):=by rw[FX,na,h];rfl
theorem Ao8 (r:Z_) (c:Rat) (j:Nat):(r.map (· * c)).getD j 0=r.getD j 0*c:=by
 rw[Wa,Wa,na];cases r[j]? with
 | none=>simp [Ug]
 | some x=>rfl
theorem All (c:Rat) (a:Y_) (j:Nat):GI (FX c a) j=(GI a j).map (· * c):=by
 rw[GI,GI,FX,Wc,Wc];exact Kd λ r _=>Ao8 r c j
theorem AmO (c d:Rat) (u v:Z_):B4 (u.map (· * c)) (v.map (· * d))=B4 u v*(c*d):=by
 rw[fA,OR,fA,OR];grind
theorem AqO (c d:Rat) (a b:Y_) (n:Nat):LF (FX c a) (FX d b) n=FX (c*d) (LF a b n):=by
 show (a.map λ r=>r.map (· * c)).map (λ r=>JQ r (FX d b) n)=(a.map λ r=>JQ r b n).map (λ r=>r.map (· * (c*d)));rw[Wc,Wc];refine Kd λ r _ => ?_
 show JQ (r.map (· * c)) (FX d b) n=(JQ r b n).map (· * (c*d));rw[JQ,JQ,Wc];refine Kd λ j _ => ?_
 show B4 (r.map (· * c)) (GI (FX d b) j)=B4 r (GI b j)*(c*d);rw[All,AmO]
def G4 (D:Rat):Nat->Rat
 | 0=>D
 | i+1=>G4 D i*G4 D i
theorem xP {D:Rat} (h:0<D) : ∀ i,0<G4 D i
 | 0=>h
 | i+1=>Rat.mul_pos (xP h i) (xP h i)
theorem AgT (n:Nat) (a:Y_) (D:Rat) (i:Nat):LF (FX (G4 D i) (EU n a i)) (FX (G4 D i) (EU n a i)) n=FX (G4 D (i+1)) (EU n a (i+1)):=AqO _ _ _ _ _
theorem AeE {s D:Rat} (hD:0<D):s*D+s*D<=D↔s<=1/2:=by
 have e:s*D+s*D=(s+s)*D:=v_
 have h1:(s+s)*D<=1*D↔s+s<=1:=⟨λ h=>Rat.le_of_mul_le_mul_right h hD,λ h=>Rat.mul_le_mul_of_nonneg_right h v_⟩;rw[Rat.one_mul]at h1;rw[e,h1];constructor<;>intro h<;>grind
theorem As6 {k:Nat} {x:Rat} (hx:Bt k x) {S:Nat} {z:Int} (hz:x*(S:Rat)=(z:Rat)) {M:Nat} (hS:S<=2^M):Wh (k+M) (x*(S:Rat)):=by
 refine ⟨z,hz,?_⟩;have h1:=bH x;have h2:((z*(x.den:Int):Int):Rat)=((x.num*(S:Int):Int):Rat):=by
  rw[Dd,Dd,<-h1,<-hz,xc,xc];grind
 have h3:=congrArg Int.natAbs (yh.1 h2);rw[pe,pe,zc,zc]at h3;have h4:z.natAbs<=z.natAbs*x.den:=Bf _ x.den_pos;rw[Og];exact ve h4 (by rw[h3];exact rh hx.1 hS)
theorem Ar1 (S:Nat) (x:Rat):((S:Rat)*x).den ∣ x.den:=by
 refine rK (z:=S*x.num) ?_;have h:=bH x;rw[Dd,<-h,xc];grind
theorem Agr {k:Nat} : ∀ (l:Z_) (S:Nat),0<S->Bs k l -> ∃ S':Nat,l.foldl YJ (S:Rat)=(S':Rat)/\0<S'/\S'<=S*2^(l.length*k)/\S ∣ S' /\ ∀ x∈l,∃ z:Int,x*(S':Rat)=(z:Rat)
 | [],S,h,_=>⟨S,rfl,h,p_,Nat.dvd_refl S,λ x hx=>by cases hx⟩
 | x::l,S,h,hb=>by
  have h1:=Ar1 S x;have hx:=hb x Ue;have h2:((S:Rat)*x)*((((S:Rat)*x).den:Nat):Rat)=(((S:Rat)*x).num:Rat):=bH _;have h3:=Nat.le_of_dvd x.den_pos h1;have h4:=((S:Rat)*x).den_pos;generalize ((S:Rat)*x).num=u at h2;obtain ⟨S',e,p1,p2,p3,p4⟩:=Agr l (S*((S:Rat)*x).den) (Nat.mul_pos h h4) λ y hy=>hb y (Be _ hy)
  refine ⟨S',by rw[List.foldl_cons,<-e,YJ,Ud],p1,?_,Nat.dvd_trans (Nat.dvd_mul_right _ _) p3,λ y hy => ?_⟩
  ·have h5:S*((S:Rat)*x).den<=S*2^k:=Ui S (ve h3 hx.2)
   have h6:=zR (2^(l.length*k)) h5;rw[Ke,Re,Og,Nat.mul_comm (2^(l.length*k)),<-Nat.mul_assoc];exact ve p2 h6
  ·rcases Di.1 hy with rfl|hy
   ·obtain ⟨t,rfl⟩:=p3
    refine ⟨u*(t:Int),?_⟩;rw[Ud,Ud,Dd,<-h2,xc];grind
   ·exact p4 y hy
theorem Ags {k:Nat} {l:Z_} (hb:Bs k l) : ∃ S:Nat,FO l=(S:Rat)/\0<S/\S<=2^(l.length*k) /\ ∀ x∈l,∃ z:Int,x*(S:Rat)=(z:Rat):=by
 obtain ⟨S,e,h1,h2,_,h3⟩:=Agr l 1 D' hb;exact ⟨S,e,h1,by rwa [cg]at h2,h3⟩
theorem AlU (S:Nat) (x:Rat):((S:Rat)/(x.den:Rat)).den=((S:Rat)*x).den:=by
 have Ho:(x.den:Rat)≠0:=λ e=>by
  have:((x.den:Nat):Rat)=((0:Nat):Rat):=e
  have:=Eg.1 this
  have:=x.den_pos
  omega
 have hx:=bH x;refine Nat.dvd_antisymm ?_ ?_
 ·-- e=(S x).den: e S num/d whole,so d ∣ e S
  have h1:=bH ((S:Rat)*x);generalize hE:((S:Rat)*x).den=E at *;generalize ((S:Rat)*x).num=u at h1;have h2:(((E*S:Nat):Int)*x.num:Int)=u*(x.den:Int):=by
   refine yh.1 ?_;rw[Dd,Dd,<-hx,<-h1,xc,xc,Ud];grind
  have h3:x.den ∣ E*S*x.num.natAbs:=by
   have h4:(x.den:Int) ∣ ((E*S:Nat):Int)*x.num:=⟨u,by rw[h2,Int.mul_comm]⟩;have:=Int.natAbs_dvd_natAbs.2 h4
   rw[pe,zc,zc]at this;exact this
  obtain ⟨t,ht⟩:=Nat.Coprime.dvd_of_dvd_mul_right (Nat.Coprime.symm x.reduced) h3;refine rK (z:=t) ?_;have h5:((E*S:Nat):Rat)=((x.den*t:Nat):Rat):=congrArg _ ht;rw[Ud,Ud]at h5;rw[gg,<-Rh,h5,xc];have:=Lf _ Ho
  grind
 ·have h1:=bH ((S:Rat)/(x.den:Rat))
  generalize ((S:Rat)/(x.den:Rat)).num=u at h1;generalize ((S:Rat)/(x.den:Rat)).den=E at *;refine rK (z:=u*x.num) ?_;rw[Dd,<-h1,<-hx,gg];have:=Lf _ Ho
  grind
theorem AlB {a:Y_}:HP a=true ↔ ∀ r∈a,EM r<=1/2:=by
 rw[HP,ie];exact ⟨λ h r hr=>by simpa using h r hr,λ h r hr=>by simpa using h r hr⟩
theorem Ag5 {f:Nat->Rat} {c:Rat} : ∀ n,DL (λ j=>c*f j) n=c*DL f n
 | 0=>by simp only[DL];grind
 | n+1=>by simp only[DL,Ag5 n];grind
theorem wD {k:Nat} {x:Rat} {S:Nat} (hS:0<S) (Lm:S<=2^k) (h:Wh k (x*(S:Rat))):Bt k x:=by
 obtain ⟨z,hz,hk⟩:=h;have h0:(S:Rat)≠0:=λ e=>by
  have:((S:Nat):Rat)=((0:Nat):Rat):=e
  have:=Eg.1 this
  omega
 have e:x=mkRat z S:=by
  rw[Rat.mkRat_eq_div,<-hz,gg,Rh,Lf _ h0,cj]
 rw[e];exact Bt.mk hk Lm
theorem AgE {n k:Nat} {a:Y_} (hs:Sq n a) (hb:Ms k a) : ∃ S:Nat,FO a.flatten=(S:Rat)/\0<S/\S<=2^(n*n*k) /\ ∀ r∈FX (S:Rat) a,∀ x∈r,Wh (k+n*n*k) x:=by
 have hl:a.flatten.length=n*n:=by
  have : ∀ (a:Y_),(∀ r∈a,r.length=n)->a.flatten.length=a.length*n:=by
   intro a;induction a with
   | nil=>intro _;simp
   | cons r a ih =>
    intro h;rw[Ef,Gb,ih λ x hx=>h x (Be _ hx),h r Ue,Ke,Re,Nat.add_comm]
  rw[this a hs.r,hs.l]
 have Jo:Bs k a.flatten:=λ x hx=>by
  obtain ⟨r,hr,hx⟩:=Pg.1 hx;exact hb r hr x hx
 obtain ⟨S,e,h1,h2,h3⟩:=Ags Jo;rw[hl]at h2;refine ⟨S,e,h1,h2,λ r hr x hx => ?_⟩;obtain ⟨s,hs,rfl⟩:=Sb.1 hr;obtain ⟨y,hy,rfl⟩:=Sb.1 hx;obtain ⟨z,hz⟩:=h3 y (Pg.2 ⟨s,hs,hy⟩);exact As6 (hb s hs y hy) hz h2
def VW (n:Nat) (a:Y_) (i:Nat):Prop:=HP (EU n a i)=true /\ ∀ j,j<i->HP (EU n a j)=false
def I1 (k:Nat):Nat->Nat
 | 0=>17*k
 | i+1=>I1 k i+I1 k i+4
theorem AhT {k:Nat} : ∀ i,i<=7->I1 k i<=2176*k+508:=by
 intro i hi;have h1:I1 k 0=17*k:=rfl;have e1:I1 k 1=I1 k 0+I1 k 0+4:=rfl;have e2:I1 k 2=I1 k 1+I1 k 1+4:=rfl;have e3:I1 k 3=I1 k 2+I1 k 2+4:=rfl;have e4:I1 k 4=I1 k 3+I1 k 3+4:=rfl;have e5:I1 k 5=I1 k 4+I1 k 4+4:=rfl;have e6:I1 k 6=I1 k 5+I1 k 5+4:=rfl;have e7:I1 k 7=I1 k 6+I1 k 6+4:=rfl;obtain rfl|rfl|rfl|rfl|rfl|rfl|rfl|rfl:i=0\/i=1\/i=2\/i=3\/i=4\/i=5\/i=6\/i=7:=D'
 all_goals omega
theorem As4 {k l n:Nat} {a b:Y_} (ha : ∀ r∈a,∀ x∈r,Wh k x) (hl : ∀ r∈a,r.length=n) (hb : ∀ r∈b,∀ x∈r,Wh l x) : ∀ r∈LF a b n,∀ x∈r,Wh (k+l+n) x:=λ r hr x hx=>by
 obtain ⟨s,hs,rfl⟩:=Sb.1 hr;obtain ⟨j,_,rfl⟩:=Sb.1 hx;have hc : ∀ x∈GI b j,Wh l x:=λ x hx=>by
  obtain ⟨t,ht,rfl⟩:=Sb.1 hx;rw[Wa];cases e:t[j]? with
  | none=>exact Wh.zero l
  | some y=>exact hb t ht y (zM e)
 have:=Wh.dot (ha s hs) hc
 rwa [hl s hs]at this
theorem uN {n k:Nat} {a:Y_} {D:Nat} (hs:Sq n a) (hn:n<=4) (hA : ∀ r∈FX (D:Rat) a,∀ x∈r,Wh (k+n*n*k) x) : ∀ i,∀ r∈FX (G4 (D:Rat) i) (EU n a i),∀ x∈r,Wh (I1 k i) x
 | 0=>λ r hr x hx=>(hA r hr x hx).le (by
   show k+n*n*k<=17*k;have:n*n<=4*4:=rh hn hn
   have:=zR k this
   omega)
 | i+1=>λ r hr x hx=>by
  rw[<-AgT]at hr;exact (As4 (uN hs hn hA i) (AgB _ (iG hs i).r) (uN hs hn hA i) r hr x hx).le (by simp only[I1];omega)
theorem xQ {D M:Nat} (hD:D<=2^M) : ∀ i,Wh (2^i*M) (G4 (D:Rat) i)
 | 0=>⟨(D:Int),by rw[G4,xc],by rw[tj,cg];simpa using hD⟩
 | i+1=>((xQ hD i).mul (xQ hD i)).le (by rw[oj,Wj,Sj];exact Cb _)
theorem Add (D:Nat) : ∀ i,G4 (D:Rat) i=((D^2^i:Nat):Rat)
 | 0=>by simp [G4]
 | i+1=>by
  rw[G4,Add D i,<-Ud,<-Og,oj,Wj]
theorem AlE {n i:Nat} {a:Y_} {D:Rat} (hD:0<D):(∀ r∈FX (G4 D i) (EU n a i),EM r+EM r<=G4 D i)↔HP (EU n a i)=true:=by
 have hp:=xP hD i;rw[AlB];constructor
 ·intro h r hr
  have:=h _ (Sb.2 ⟨r,hr,rfl⟩)
  rw[Abg v_]at this;exact (AeE hp).1 this
 ·intro h r hr
  obtain ⟨s,hs,rfl⟩:=Sb.1 hr;rw[Abg v_];exact (AeE hp).2 (h s hs)
theorem oQ {k:Nat} : ∀ {l:Z_},Bs k l->Bt (l.length*(k+1)) (EM l)
 | [],_=>Bt.zero _
 | x::l,h=>by
  have h1:=oQ (l:=l) λ y hy=>h y (Be _ hy)
  have h2:Bt k (KC x):=by
   unfold KC;split
   ·exact (h x Ue).Fi
   ·exact h x Ue
  refine (h2.add h1).le ?_;rw[Ke,Re];omega
theorem Ach {k:Nat} {x:Rat} (h:Bt k x):Bt k (KC x):=by
 unfold KC;split
 ·exact h.Fi
 ·exact h
theorem Bt.ngN {k:Nat} {x:Rat} (h:Bt k x):Bt k (-x):=⟨by rw[wi,Uh];exact h.1,by rw[ui];exact h.2⟩
def jo (n i j:Nat):Nat:=i*n-i*(i-1)/2+j-i
def GU (i m:Nat):List (Nat × Nat):=(Sc m).map λ t=>(i,i+t)
def CW (n:Nat):Nat->List (Nat × Nat)
 | 0=>[]
 | i+1=>CW n i++GU i (n-i)
theorem AfZ (i m:Nat):GU i (m+1)=GU i m++[(i,i+m)]:=by
 rw[GU,Od,yf];rfl
theorem kJ (i m:Nat):(GU i m).length=m:=by simp [GU]
theorem AfY {n:Nat} : ∀ {m i j:Nat},(i,j)∈CW n m->i<m/\i<=j/\j<n
 | 0,_,_,h=>by cases h
 | m+1,i,j,h=>by
  rcases Ae.1 h with h|h
  ·have:=AfY h;omega
  ·obtain ⟨t,ht,e⟩:=Sb.1 h
   have:=Sf.1 ht
   have h1:=congrArg Prod.fst e;have h2:=congrArg Qj e;simp only at h1 h2;omega
theorem ZG {n:Nat} (h:n<=4):n=0\/n=1\/n=2\/n=3\/n=4:=D'
theorem Arj {n:Nat} (hn:n<=4):(CW n n).length=n*(n+1)/2:=by
 rcases ZG hn with rfl|rfl|rfl|rfl|rfl<;>rfl
theorem tO {n:Nat} (hn:n<=4):(CW n n).length<=10:=by
 rcases ZG hn with rfl|rfl|rfl|rfl|rfl<;>decide
def gC (A:Y_) (p q:Nat × Nat):Rat :=
 if q=p then (if q.1=q.2 then -(CK A p.1 q.1*CK A p.2 q.2) else -(CK A p.1 q.1*CK A p.2 q.2)-CK A p.1 q.2*CK A p.2 q.1)+1
 else if q.1=q.2 then -(CK A p.1 q.1*CK A p.2 q.2) else -(CK A p.1 q.1*CK A p.2 q.2)-CK A p.1 q.2*CK A p.2 q.1
def HC (A:Y_) (n:Nat) (p:Nat × Nat):Z_:=(CW n n).map (gC A p)
def gM (A:Y_) (n:Nat):Y_:=(CW n n).map (HC A n)
def bQ (B:Z_) (i:Nat):Rat:=B.getD i 0
theorem AkG {B:Z_} {i:Nat} {x:Rat} (h:B[i]? = some x):bQ B i=x:=by rw[bQ,Wa,h];rfl
def gR (B:Z_) (n:Nat):Z_:=(CW n n).map λ p=>bQ B p.1*bQ B p.2
theorem I3 {k:Nat} {A:Y_} (h:Ms k A) (i j:Nat):Bt k (CK A i j):=by
 cases e:A[i]? with
 | none =>
  rw[CK,show A.getD i []=[] by rw[Wa,e];rfl];exact Bt.zero k
 | some r =>
  rw[OD e];exact Bs.getD (h.at e) j
theorem Ao2 {k:Nat} {A:Y_} (h:Ms k A) (p q:Nat × Nat):Bt (4*k+2) (gC A p q):=by
 have h1:=((I3 h p.1 q.1).mul (I3 h p.2 q.2)).ngN;have h2:=(I3 h p.1 q.2).mul (I3 h p.2 q.1);unfold gC;split<;>split
 ·exact (h1.add (Bt.one 0)).le D'
 ·exact ((h1.yo h2).add (Bt.one 0)).le D'
 ·exact h1.le D'
 ·exact (h1.yo h2).le D'
theorem Ao4 {k:Nat} {A:Y_} (h:Ms k A) (n:Nat):Ms (4*k+2) (gM A n):=λ r hr=>by
 obtain ⟨p,_,rfl⟩:=Sb.1 hr;intro x hx;obtain ⟨q,_,rfl⟩:=Sb.1 hx;exact Ao2 h p q
theorem Ao5 {k:Nat} {B:Z_} (h:Bs k B) (n:Nat):Bs (4*k+2) (gR B n):=λ x hx=>by
 obtain ⟨p,_,rfl⟩:=Sb.1 hx;exact ((Bs.getD h p.1).mul (Bs.getD h p.2)).le D'
theorem V4 {n:Nat} (A:Y_):Sq (CW n n).length (gM A n):=⟨by simp [gM],λ r hr=>by
 obtain ⟨p,_,rfl⟩:=Sb.1 hr;simp [HC]⟩
theorem jV (B:Z_) (n:Nat):(gR B n).length=(CW n n).length:=by simp [gR]
theorem sH {M k:Nat} {A:Y_} (h : ∀ i j,Wh k ((M:Rat)*CK A i j)) (hM:M<=2^k) {n:Nat} : ∀ r∈gM A n,∀ x∈r,Wh (2*k+2) (((M*M:Nat):Rat)*x):=λ r hr x hx=>by
 obtain ⟨p,_,rfl⟩:=Sb.1 hr;obtain ⟨q,_,rfl⟩:=Sb.1 hx;have h1:=(h p.1 q.1).mul (h p.2 q.2);have h2:=(h p.1 q.2).mul (h p.2 q.1);have h3:Wh (k+k) (((M*M:Nat):Rat)):=⟨((M*M:Nat):Int),by rw[xc],by
  rw[zc,Og];exact rh hM hM⟩
 have e1:(M:Rat)*CK A p.1 q.1*((M:Rat)*CK A p.2 q.2)=((M*M:Nat):Rat)*(CK A p.1 q.1*CK A p.2 q.2):=by rw[Ud];grind
 have e2:(M:Rat)*CK A p.1 q.2*((M:Rat)*CK A p.2 q.1)=((M*M:Nat):Rat)*(CK A p.1 q.2*CK A p.2 q.1):=by rw[Ud];grind
 rw[e1]at h1;rw[e2]at h2;unfold gC;generalize CK A p.1 q.1*CK A p.2 q.2=u at *;generalize CK A p.1 q.2*CK A p.2 q.1=v at *;generalize ((M*M:Nat):Rat)=w at *;split<;>split
 ·rw[show w*(-u+1) = -(w*u)+w by grind]
  exact (h1.neg.add h3).le D'
 ·rw[show w*(-u-v+1) = -(w*u)-w*v+w by grind]
  exact ((h1.neg.sub h2).add (h3.le (Nat.le_succ _))).le D'
 ·rw[show w * -u = -(w*u) by grind]
  exact h1.neg.le D'
 ·rw[show w*(-u-v) = -(w*u)-w*v by grind]
  exact (h1.neg.sub h2).le D'
def kM (X:Z_) (n:Nat):Y_:=(Sc n).map λ i=>(Sc n).map λ j=>X.getD (jo n (min i j) (max i j)) 0
theorem nF (X:Z_) (n:Nat):Sq n (kM X n):=⟨by simp [kM],λ r hr=>by
 obtain ⟨i,_,rfl⟩:=Sb.1 hr;simp⟩
theorem sL (X:Z_) {n i j:Nat} (hi:i<n) (hj:j<n):CK (kM X n) i j=X.getD (jo n (min i j) (max i j)) 0:=by
 rw[OD (r:=(Sc n).map λ j=>X.getD (jo n (min i j) (max i j)) 0) (by rw[kM,na,Vd hi];rfl),Wa,na,Vd hj];rfl
theorem Ys {k:Nat} {X:Z_} (h:Bs k X) (n:Nat):Ms k (kM X n):=λ r hr=>by
 obtain ⟨i,_,rfl⟩:=Sb.1 hr;intro x hx;obtain ⟨j,_,rfl⟩:=Sb.1 hx;exact Bs.getD h _
def jD (A K:Y_) (n i j:Nat):Rat:=DL (λ a=>DL (λ b=>CK A i a*CK A j b*CK K a b) n) n
def NI (A:Y_) (B X:Z_) (n:Nat):Prop:=X.length=(CW n n).length /\ ∀ (i:Nat) (r:Z_) (s:Rat),(gM A n)[i]? = some r->(gR B n)[i]? = some s->B4 r X=s
theorem NI.eq {A:Y_} {B X:Z_} {n:Nat} (hn:n<=4) (h:NI A B X n) : ∀ i j,i<n->j<n->CK (kM X n) i j=bQ B i*bQ B j+jD A (kM X n) n i j:=by
 obtain ⟨hl,h⟩:=h;rcases ZG hn with rfl|rfl|rfl|rfl|rfl
 ·intro i j hi;omega
 ·obtain ⟨x0,rfl⟩ : ∃ x0,X=[x0]:=by
   match X,hl with
   | [x0],_=>exact ⟨x0,rfl⟩
  have h0:=h 0 _ _ rfl rfl;simp [B4,HC,gC,CW,GU,Od]at h0;intro i j hi hj;obtain rfl:i=0:=D'
  obtain rfl:j=0:=D'
  simp only[jD,DL,sL _ (show 0<1 by omega) (show 0<1 by omega)];show x0=_+(0+(0+_*x0));grind
 ·obtain ⟨x0,x1,x2,rfl⟩ : ∃ x0 x1 x2,X=[x0,x1,x2]:=by
   match X,hl with
   | [x0,x1,x2],_=>exact ⟨x0,x1,x2,rfl⟩
  have h0:=h 0 _ _ rfl rfl;have h1:=h 1 _ _ rfl rfl;have h2:=h 2 _ _ rfl rfl;simp [B4,HC,gC,CW,GU,Od]at h0 h1 h2;have key : ∀ i j,i<2->j<2->CK (kM [x0,x1,x2] 2) i j=if i=0 then (if j=0 then x0 else x1) else (if j=0 then x1 else x2):=by
   intro i j hi hj;rw[sL _ hi hj];obtain rfl|rfl:i=0\/i=1:=D'
   all_goals obtain rfl|rfl:j=0\/j=1:=D'
   all_goals rfl
  intro i j hi hj;rw[key i j hi hj];simp only[jD,DL,key 0 0 D' D',key 0 1 D' D',key 1 0 D' D',key 1 1 D' D'];obtain rfl|rfl:i=0\/i=1:=D'
  all_goals obtain rfl|rfl:j=0\/j=1:=D'
  all_goals simp
  all_goals grind
 ·obtain ⟨x0,x1,x2,x3,x4,x5,rfl⟩ : ∃ x0 x1 x2 x3 x4 x5,X=[x0,x1,x2,x3,x4,x5]:=by
   match X,hl with
   | [x0,x1,x2,x3,x4,x5],_=>exact ⟨x0,x1,x2,x3,x4,x5,rfl⟩
  have h0:=h 0 _ _ rfl rfl;have h1:=h 1 _ _ rfl rfl;have h2:=h 2 _ _ rfl rfl;have h3:=h 3 _ _ rfl rfl;have h4:=h 4 _ _ rfl rfl;have h5:=h 5 _ _ rfl rfl;clear h hl;simp [B4,HC,gC,CW,GU,Od]at h0 h1 h2 h3 h4 h5;have key : ∀ i j,i<3->j<3->CK (kM [x0,x1,x2,x3,x4,x5] 3) i j=if i=0 then (if j=0 then x0 else if j=1 then x1 else x2) else if i=1 then (if j=0 then x1 else if j=1 then x3 else x4) else (if j=0 then x2 else if j=1 then x4 else x5):=by
   intro i j hi hj;rw[sL _ hi hj];obtain rfl|rfl|rfl:i=0\/i=1\/i=2:=D'
   all_goals obtain rfl|rfl|rfl:j=0\/j=1\/j=2:=D'
   all_goals rfl
  intro i j hi hj;rw[key i j hi hj];simp only[jD,DL,key 0 0 D' D',key 0 1 D' D',key 0 2 D' D',key 1 0 D' D',key 1 1 D' D',key 1 2 D' D',key 2 0 D' D',key 2 1 D' D',key 2 2 D' D'];obtain rfl|rfl|rfl:i=0\/i=1\/i=2:=D'
  all_goals obtain rfl|rfl|rfl:j=0\/j=1\/j=2:=D'
  all_goals simp
  ·clear h1 h2 h3 h4 h5;grind
  ·clear h0 h2 h3 h4 h5;grind
  ·clear h0 h1 h3 h4 h5;grind
  ·clear h0 h2 h3 h4 h5;grind
  ·clear h0 h1 h2 h4 h5;grind
  ·clear h0 h1 h2 h3 h5;grind
  ·clear h0 h1 h3 h4 h5;grind
  ·clear h0 h1 h2 h3 h5;grind
  ·clear h0 h1 h2 h3 h4;grind
 ·obtain ⟨x0,x1,x2,x3,x4,x5,x6,x7,x8,x9,rfl⟩ : ∃ x0 x1 x2 x3 x4 x5 x6 x7 x8 x9,X=[x0,x1,x2,x3,x4,x5,x6,x7,x8,x9]:=by
   match X,hl with
   | [x0,x1,x2,x3,x4,x5,x6,x7,x8,x9],_=>exact ⟨x0,x1,x2,x3,x4,x5,x6,x7,x8,x9,rfl⟩
  have h0:=h 0 _ _ rfl rfl;have h1:=h 1 _ _ rfl rfl;have h2:=h 2 _ _ rfl rfl;have h3:=h 3 _ _ rfl rfl;have h4:=h 4 _ _ rfl rfl;have h5:=h 5 _ _ rfl rfl;have h6:=h 6 _ _ rfl rfl;have h7:=h 7 _ _ rfl rfl;have h8:=h 8 _ _ rfl rfl;have h9:=h 9 _ _ rfl rfl;clear h hl;simp [B4,HC,gC,CW,GU,Od]at h0 h1 h2 h3 h4 h5 h6 h7 h8 h9;have key : ∀ i j,i<4->j<4->CK (kM [x0,x1,x2,x3,x4,x5,x6,x7,x8,x9] 4) i j=if i=0 then (if j=0 then x0 else if j=1 then x1 else if j=2 then x2 else x3) else if i=1 then (if j=0 then x1 else if j=1 then x4 else if j=2 then x5 else x6) else if i=2 then (if j=0 then x2 else if j=1 then x5 else if j=2 then x7 else x8) else (if j=0 then x3 else if j=1 then x6 else if j=2 then x8 else x9):=by
   intro i j hi hj;rw[sL _ hi hj];obtain rfl|rfl|rfl|rfl:i=0\/i=1\/i=2\/i=3:=D'
   all_goals obtain rfl|rfl|rfl|rfl:j=0\/j=1\/j=2\/j=3:=D'
   all_goals rfl
  intro i j hi hj;rw[key i j hi hj];simp only[jD,DL,key 0 0 D' D',key 0 1 D' D',key 0 2 D' D',key 0 3 D' D',key 1 0 D' D',key 1 1 D' D',key 1 2 D' D',key 1 3 D' D',key 2 0 D' D',key 2 1 D' D',key 2 2 D' D',key 2 3 D' D',key 3 0 D' D',key 3 1 D' D',key 3 2 D' D',key 3 3 D' D'];clear key;obtain rfl|rfl|rfl|rfl:i=0\/i=1\/i=2\/i=3:=D'
  ·obtain rfl|rfl|rfl|rfl:j=0\/j=1\/j=2\/j=3:=D'
   ·clear h1 h2 h3 h4 h5 h6 h7 h8 h9;simp;grind
   ·clear h0 h2 h3 h4 h5 h6 h7 h8 h9;simp;grind
   ·clear h0 h1 h3 h4 h5 h6 h7 h8 h9;simp;grind
   ·clear h0 h1 h2 h4 h5 h6 h7 h8 h9;simp;grind
  ·obtain rfl|rfl|rfl|rfl:j=0\/j=1\/j=2\/j=3:=D'
   ·clear h0 h2 h3 h4 h5 h6 h7 h8 h9;simp;grind
   ·clear h0 h1 h2 h3 h5 h6 h7 h8 h9;simp;grind
   ·clear h0 h1 h2 h3 h4 h6 h7 h8 h9;simp;grind
   ·clear h0 h1 h2 h3 h4 h5 h7 h8 h9;simp;grind
  ·obtain rfl|rfl|rfl|rfl:j=0\/j=1\/j=2\/j=3:=D'
   ·clear h0 h1 h3 h4 h5 h6 h7 h8 h9;simp;grind
   ·clear h0 h1 h2 h3 h4 h6 h7 h8 h9;simp;grind
   ·clear h0 h1 h2 h3 h4 h5 h6 h8 h9;simp;grind
   ·clear h0 h1 h2 h3 h4 h5 h6 h7 h9;simp;grind
  ·obtain rfl|rfl|rfl|rfl:j=0\/j=1\/j=2\/j=3:=D'
   ·clear h0 h1 h2 h4 h5 h6 h7 h8 h9;simp;grind
   ·clear h0 h1 h2 h3 h4 h5 h7 h8 h9;simp;grind
   ·clear h0 h1 h2 h3 h4 h5 h6 h7 h9;simp;grind
   ·clear h0 h1 h2 h3 h4 h5 h6 h7 h8;simp;grind
theorem NI.uniq {A:Y_} {B X Y:Z_} {n:Nat} (hx:NI A B X n) (hy:NI A B Y n) (hs:NS (CW n n).length (gM A n)):X=Y:=by
 have h1:=hs (jC X (Y.map (-1 * ·))) (by simp [jC,hx.1,hy.1]) (λ r hr=>by
  obtain ⟨i,hi⟩:=te hr;have dw:=(zS hi).1;obtain ⟨s,hs⟩:=X_ (gR B n) i (by rw[jV];rw[(V4 A).l]at dw;exact dw);have e1:=hx.2 i r s hi hs;have e2:=hy.2 i r s hi hs;rw[Adl (by simp [hx.1,hy.1]),OR r (Y.map _),eV,OR Y r,e1,e2];grind)
 refine Se λ i => ?_
 by_cases hi:i<(CW n n).length
 ·obtain ⟨x,ni⟩:=X_ X i (by rw[hx.1];exact hi)
  obtain ⟨y,Cy⟩:=X_ Y i (by rw[hy.1];exact hi);have h2:=h1 i;rw[Wa,jC,Ah,ni,na,Cy]at h2;have h3:x + -1*y=0:=h2;rw[ni,Cy,show x=y by grind]
 ·rw[oc (by rw[hx.1];omega),oc (by rw[hy.1];omega)]
def ZS (n:Nat) (row:List (Option Rat)) (k h:Nat) (v:Rat):List (Option Rat):=row.set (jo n (min k h) (max k h)) (some ((((row[jo n (min k h) (max k h)]?).getD none).getD 0)-v))
def NX (n:Nat) (row:List (Option Rat)) (k:Nat) (f:Nat->Rat):Nat->List (Option Rat)
 | 0=>row
 | h+1=>ZS n (NX n row k f h) k h (f h)
def P7 (n:Nat) (row:List (Option Rat)) (f:Nat->Nat->Rat):Nat->List (Option Rat)
 | 0=>row
 | k+1=>NX n (P7 n row f k) k (f k) n
def YF (n i j:Nat):List (Option Rat):=(jb (n*(n+1)/2) none).set (jo n i j) (some 1)
theorem Yi (n:Nat) (row:List (Option Rat)) (k:Nat) (f:Nat->Rat) : ∀ h,(NX n row k f h).length=row.length
 | 0=>rfl
 | h+1=>by rw[NX,ZS,Ic,Yi n row k f h]
theorem Agc (n:Nat) (row:List (Option Rat)) (f:Nat->Nat->Rat) : ∀ k,(P7 n row f k).length=row.length
 | 0=>rfl
 | k+1=>by rw[P7,Yi,Agc n row f k]
theorem tQ {n k h:Nat} (hn:n<=4) (hk:k<n) (hh:h<n):jo n (min k h) (max k h)<n*(n+1)/2:=by
 have h1 : ∀ n,n<5 -> ∀ k,k<n -> ∀ h,h<n->jo n (min k h) (max k h)<n*(n+1)/2:=o_
 exact h1 n D' k hk h hh
def OB (k:Nat) (row:List (Option Rat)):Prop := ∀ x,some x∈row->Bt k x
theorem OB.at {k:Nat} {row:List (Option Rat)} (h:OB k row) (i:Nat):Bt k (((row[i]?).getD none).getD 0):=by
 cases e:row[i]? with
 | none=>exact Bt.zero k
 | some o =>
  cases o with
  | none=>exact Bt.zero k
  | some x=>exact h x (zM e)
theorem ArI {n k l:Nat} {row:List (Option Rat)} {a b:Nat} {v:Rat} (h:OB k row) (hv:Bt l v):OB (k+l+1) (ZS n row a b v):=λ x hx=>by
 rcases Ed hx with hx|hx
 ·exact (h x hx).le D'
 ·obtain rfl:=uc hx
  exact (h.at _).yo hv
theorem Ww {n k l:Nat} {row:List (Option Rat)} {a:Nat} {f:Nat->Rat} (h:OB k row) (hf : ∀ i,Bt l (f i)) : ∀ t,OB (k+t*(l+1)) (NX n row a f t)
 | 0=>by simpa [NX] using h
 | t+1=>by
  have:=ArI (n:=n) (a:=a) (b:=t) (Ww (n:=n) (a:=a) h hf t) (hf t)
  intro x hx;exact (this x hx).le (by rw[Re];omega)
theorem Agd {n k l:Nat} {row:List (Option Rat)} {f:Nat->Nat->Rat} (h:OB k row) (hf : ∀ i j,Bt l (f i j)) : ∀ t,OB (k+t*(n*(l+1))) (P7 n row f t)
 | 0=>by simpa [P7] using h
 | t+1=>by
  have:=Ww (n:=n) (a:=t) (Agd (n:=n) h hf t) (hf t) n
  intro x hx;exact (this x hx).le (by rw[Re];omega)
theorem ArH (n i j:Nat):OB 0 (YF n i j):=λ x hx=>by
 rcases Ed hx with hx|hx
 ·have:=List.eq_of_mem_replicate hx
  cases this
 ·obtain rfl:=uc hx
  exact Bt.one 0
theorem ArG {A:Y_} {n i j:Nat} (hn:n<=4) (lu:i<=j) (hj:j<n):P7 n (YF n i j) (λ k h=>CK A i k*CK A j h) n=(HC A n (i,j)).map some:=by
 rcases ZG hn with rfl|rfl|rfl|rfl|rfl
 ·omega
 ·obtain rfl:j=0:=D'
  obtain rfl:i=0:=D'
  simp [P7,NX,ZS,YF,HC,gC,CW,GU,jo,Od];grind
 ·obtain ⟨rfl,rfl⟩|⟨rfl,rfl⟩|⟨rfl,rfl⟩:(i=0/\j=0)\/(i=0/\j=1)\/(i=1/\j=1):=D'
  all_goals simp [P7,NX,ZS,YF,HC,gC,CW,GU,jo,Od]
  all_goals grind
 ·obtain ⟨rfl,rfl⟩|⟨rfl,rfl⟩|⟨rfl,rfl⟩|⟨rfl,rfl⟩|⟨rfl,rfl⟩|⟨rfl,rfl⟩:(i=0/\j=0)\/(i=0/\j=1)\/(i=0/\j=2)\/(i=1/\j=1)\/(i=1/\j=2)\/(i=2/\j=2):=D'
  all_goals simp [P7,NX,ZS,YF,HC,gC,CW,GU,jo,Od]
  all_goals grind
 ·obtain ⟨rfl,rfl⟩|⟨rfl,rfl⟩|⟨rfl,rfl⟩|⟨rfl,rfl⟩|⟨rfl,rfl⟩|⟨rfl,rfl⟩|⟨rfl,rfl⟩|⟨rfl,rfl⟩|⟨rfl,rfl⟩|⟨rfl,rfl⟩:(i=0/\j=0)\/(i=0/\j=1)\/(i=0/\j=2)\/(i=0/\j=3)\/(i=1/\j=1)\/(i=1/\j=2)\/(i=1/\j=3)\/(i=2/\j=2)\/(i=2/\j=3)\/(i=3/\j=3):=D'
  all_goals simp [P7,NX,ZS,YF,HC,gC,CW,GU,jo,Od]
  all_goals grind
def fR (M:List (List (Option Rat))) (i j:Nat) (x:Rat):List (List (Option Rat)):=(M.set i ((M.getD i []).set j (some x))).set j (((M.set i ((M.getD i []).set j (some x))).getD j []).set i (some x))
def V3 (X:Z_) (n:Nat):Nat->List (List (Option Rat))
 | 0=>jb n (jb n none)
 | u+1=>fR (V3 X n u) ((CW n n).getD u (0,0)).1 ((CW n n).getD u (0,0)).2 (X.getD u 0)
theorem AoX {n i j:Nat} {M:List (List (Option Rat))} {x:Rat} (h:M.length=n /\ ∀ r∈M,r.length=n) (hi:i<n) (hj:j<n):(fR M i j x).length=n /\ ∀ r∈fR M i j x,r.length=n:=by
 have hg : ∀ (M:List (List (Option Rat))) (i:Nat),M.length=n->(∀ r∈M,r.length=n)->i<n->(M.getD i []).length=n:=λ M i h1 h2 h3=>by
  rw[Wa,zE D'];exact h2 _ (List.getElem_mem _)
 have h1:(M.set i ((M.getD i []).set j (some x))).length=n /\ ∀ r∈M.set i ((M.getD i []).set j (some x)),r.length=n:=⟨by rw[Ic,h.1],λ r hr=>by
  rcases Ed hr with hr|rfl
  ·exact h.2 r hr
  ·rw[Ic,hg M i h.1 h.2 hi]⟩
 refine ⟨by rw[fR,Ic];exact h1.1,λ r hr => ?_⟩;rcases Ed hr with hr|rfl
 ·exact h1.2 r hr
 ·rw[Ic,hg _ j h1.1 h1.2 hj]
theorem AoU {X:Z_} {n:Nat} (hn:n<=4) (h:X.length=(CW n n).length):V3 X n (CW n n).length=(kM X n).map (·.map some):=by
 rcases ZG hn with rfl|rfl|rfl|rfl|rfl
 ·rfl
 ·match X,h with
  | [x0],_=>rfl
 ·match X,h with
  | [x0,x1,x2],_=>rfl
 ·match X,h with
  | [x0,x1,x2,x3,x4,x5],_=>rfl
 ·match X,h with
  | [x0,x1,x2,x3,x4,x5,x6,x7,x8,x9],_=>rfl
theorem Ab9 {es:c_} {off len:Nat} {K:c_->Prop} (h:Nat.ble (off+len) es.length=true) (hz:es.all JW=true) (hk:K ((es.drop off).take len)):CT es off len K :=
 lQ (Nat.le_of_ble_eq_true h) (λ e he=>ie.1 hz e he) hk
theorem AjS {β:Type} {rows:List (b_)} {z:Nat} {en:β->d_} {q:Bool} {off len:Nat} {K:c_->Prop} (ll:List (List β)) (hr:rows=DD z en ll) (hz : ∀ x,JW (en x)=true) (ho:off=0) (hl:len=ll.length) (h:K (ll.map λ r=>[AV.sl q (r.map en)])):E6 q rows off len K:=by
 subst hr;exact RY hz ho hl h
def LP (K:Y_) (v:Z_) (n:Nat):Rat:=DL (λ i=>DL (λ j=>CK K i j*(bQ v i*bQ v j)) n) n
def M6 (c:Z_) (A:Y_) (n:Nat):Z_:=(Sc n).map λ j=>DL (λ i=>bQ c i*CK A i j) n
def J0 (c:Z_) (A:Y_) (n:Nat):Nat->Z_
 | 0=>c
 | k+1=>M6 (J0 c A n k) A n
def VU (S:G3) (K:Y_) (n:Nat):Nat->Rat
 | 0=>S.d*S.d+LP K S.c n
 | k+1=>LP K (J0 S.c S.a n k) n
theorem Zr (c:Z_) (A:Y_) (n:Nat):(M6 c A n).length=n:=by simp [M6]
theorem AsY {c:Z_} {A:Y_} {n:Nat} (h:c.length=n) : ∀ k,(J0 c A n k).length=n
 | 0=>h
 | k+1=>Zr _ _ _
theorem Adm {a b:Z_} {n:Nat} (ha:a.length=n):B4 a b=DL (λ i=>bQ a i*bQ b i) n:=by
 rw[aM a b n D'];rfl
theorem AsE (c:Rat) (f:Nat->Rat) (n:Nat):c*DL f n=DL (λ i=>c*f i) n:=(Ag5 n).symm
theorem AqS {A:Y_} {v:Z_} {n i:Nat} (hA:Sq n A) (hi:i<n):bQ (J4 A v) i=DL (λ j=>CK A i j*bQ v j) n:=by
 obtain ⟨r,hr⟩:=X_ A i (by rw[hA.l];exact hi);rw[AkG (x:=B4 r v) (by rw[J4,na,hr];rfl),Adm (hA.at hr)];refine kV n λ j _ => ?_
 rw[OD hr];rfl
theorem AoZ {K:Y_} {c:Z_} {n:Nat} (hK:Sq n K) (hc:c.length=n):B4 c (J4 K c)=LP K c n:=by
 rw[Adm hc,LP];refine kV n λ i hi => ?_
 rw[AqS hK hi,AsE];exact kV n λ j _=>v_
theorem Q6 {k:Nat} {f:Nat->Rat} (h : ∀ j,Bt k (f j)) : ∀ m,Bt (m*(k+1)) (DL f m)
 | 0=>Bt.zero _
 | m+1=>by
  rw[DL];exact ((Q6 h m).add (h m)).le (by rw[Re];omega)
theorem JG {k:Nat} {v:Z_} (h:Bs k v) (i:Nat):Bt k (bQ v i):=Bs.getD h i
end Go.j4

namespace Go.j4
open F
attribute [local irreducible] AJ A5 BZ A0 FH B2 C6 C9 EO EC E0 HH D6 CT EJ E3 AM CZ BH pw EF DP FF FR F5 F7 E6 DQ GN
variable {L:Lib}
set_option maxRecDepth 8000
abbrev L6 (q:Bool) (m:Y_):c_:=m.map λ r=>[AV.sl q (r.map eQ)]
theorem KZ (m:Y_) (e:Int):CI (.e9 [.sl false (eM m),.int .i64 e]):=by
 simp only[CI,ES,and_true,true_and];exact wK m
def cw (n:Nat) (v:Z_):List (Option Rat):=jb (n-v.length) none++v.map some
theorem Ac1 {n:Nat} {v:Z_} (h:v.length<=n):(cw n v).length=n:=by simp [cw];omega
theorem AlO (n:Nat):cw n []=jb n none:=by simp [cw]
theorem AlM {n s:Nat} {v:Z_} {x:Rat} (h:v[s]? = some x):(cw n v)[n-v.length+s]? = some (some x):=by
 rw[cw,Vc p_,Le,Nat.add_sub_cancel_left,na,h];rfl
theorem AlP {n:Nat} {v:Z_} {x:Rat} (h:v.length<n):(cw n v).set (n-(v.length+1)) (some x)=cw n (x::v):=by
 obtain ⟨k,hk⟩ : ∃ k,n-v.length=k+1:=⟨n-v.length-1,D'⟩;have e:n-(v.length+1)=k:=D'
 simp only[cw,hk,Ke,e];rw[zg,Bd,Td _ _ p_,Le,Sd];rfl
theorem AlN {n:Nat} {v:Z_} (h:v.length=n):(cw n v).map eO=v.map eQ:=by
 simp [cw,h,Uf]
theorem fW {l:Z_} {i:Nat} (h:i<l.length):l[i]? = some (l.getD i 0):=by
 rw[Wa,zE h];rfl
theorem AnK (N:ay L) (q q':Bool) (m:Y_) (n W c S:Nat) (l:Rat) (hm:m.length=n) (hW : ∀ r∈m,r.length=W) (hn:1<=n/\n<=1000) (hnW:n<=W) (hc:c<W) (hW2:W<=100000)
  (hd : ∀ (k:Nat) (r:Z_),m[k]? = some r->r.getD k 0≠0) (um:Ms S m) (hl:Bt S l) {C:Nat->Nat} (hC : ∀ k,Bs (C k) (HW c l (m.drop k) k)) (hB : ∀ k,k<n->3*S+n*(S+C (k+1)+1)<=1000000000000):Ev L 234 [.sl q (L6 q' m),.int .i64 c,.agg (eQ l)] (.sl false ((HW c l m 0).map eQ)):=by
 have hS:S<2199023255552:=by
  have:=hB 0 D'
  omega
 refine Ev.x N.SD rfl rfl ?_;repeat' (first|apply BW|apply AQ)<;>conv=>whnf
 refine I2 (enc:=eO) none n rfl D' D' ?_;conv=>whnf
 repeat' (first|(apply EP;omega)|apply BW)<;>conv=>whnf
 rw[hm];refine GV (λ k=>k) (λ(k:Nat)=>k<=n) (λ k=>[(8,.int .i64 ((k:Int)-1))]) (λ k=>[(13,13,.rw 3 ((cw n (HW c l (m.drop k) k)).map eO))]) [] [] n (by first|exact w_|(rw[Gd D',HW,AlO];exact w_)) D' ?_;intro k p1 kh;rcases k with _|k
 ·clear kh
  rw[vh,AlN (by rw[YY];exact hm)];repeat' (first|(apply A7<;>intro hc<;>try omega)|apply AQ)<;>conv=>whnf
  refine G9 (enc:=eQ) (λ_=>rfl) rfl (by rw[YY];omega) ?_;conv=>whnf
  exact B1 rfl (by simp only[CI,true_and];exact OL _)
 ·obtain ⟨r,hr⟩:=X_ m k
  have nh:m[(k:Int).toNat]? = some r:=hr;have ff:=hW r (zM hr);have e1:((k+1:Nat):Int)-1=k:=D'
  have hv:HW c l (m.drop k) k=(r.getD c 0*l-B4 (r.drop (k+1)) (HW c l (m.drop (k+1)) (k+1)))/r.getD k 0::HW c l (m.drop (k+1)) (k+1):=by
   obtain ⟨h1,h2⟩:=zS hr;rw[xd h1,HW,h2]
  have qm:(HW c l (m.drop (k+1)) (k+1)).length=n-(k+1):=by rw[YY,Cf,hm]
  have fc:=hC (k+1);have hB2:=hB k D';have ri:=um.at hr;have Qf:r[(c:Int).toNat]? = some (r.getD c 0):=fW D';have Qg:r[(k:Int).toNat]? = some (r.getD k 0):=fW D';have AuN:=hd k r hr;have bc:=ri.at Qf;have bk:=ri.at Qg;have hM:=R6 N.toa7 bc hl hS hS;generalize Ik:r.getD c 0=rc at *;generalize ANT:r.getD k 0=rk at *;generalize HW c l (m.drop (k+1)) (k+1)=v at *;generalize C (k+1)=X at *;rw[e1];repeat' (first|(apply A7<;>intro hc<;>try omega)|(apply B5;omega)|(refine CU G' ?_ rfl ?_;omega)|apply AQ|refine AU (hM) ?_)<;>conv=>whnf
  refine LJ (λ s _=>n-s) (λ(s:Nat) (acc:Rat)=>k+1+s<=n/\acc=rc*l-B4 ((r.drop (k+1)).take s) (v.take s)) (λ s _=>[(10,.int .i64 ((k+1+s:Nat):Int))]) (λ_ acc=>[(9,9,.bx (eQ acc))]) 0 (rc*l) ⟨D',by simp only[od,B4];grind⟩ ?_;intro s acc ⟨p2,p3⟩ sh;have tz:Bt (2*S+(n-(k+1))*(S+X+1)+1) acc:=by
   rw[p3];have h1:=AmR (k:=S) (l:=X) (a:=(r.drop (k+1)).take s) (b:=v.take s) (n:=n-(k+1)) (λ x hx=>ri x (yi (pg hx))) (fc.take s) V_;exact ((bc.mul hl).yo h1).le D'
  have hmul:=zR (S+X+1) (show n-(k+1)+1<=n by omega);rw[Sj,cg]at hmul;have hX:X<2199023255552:=by
   have:=Bh (S+X+1) (show 0<n by omega)
   omega
  by_cases hs:k+1+s<n
  ·obtain ⟨x,hx⟩:=X_ v s
   obtain ⟨y,hy⟩:=X_ r (k+1+s);have Cy:r[((k+1+s:Nat):Int).toNat]? = some y:=hy;have Qn:(r.drop (k+1))[s]? = some y:=by rw[Te];exact hy
   have wq:=AlM (n:=n) hx;rw[qm,show n-(n-(k+1))+s=k+1+s by omega]at wq;have q5:=Ac1 (n:=n) (v:=v) D';have De:=ri.at hy
   have bx:=fc.at hx;have fr:=R6 N.toa7 De bx hS hX
   have Rz:=sB N.toer tz (De.mul bx) D' (by
    have:=Bh (S+X+1) (show 0<n-(k+1) by omega)
    omega)
   have hdt:=fD Qn hx;generalize cw n v=C at *;repeat' (first|(apply A7<;>intro hc<;>try omega)|(apply CB;omega)|apply BW|(refine CU G' ?_ rfl ?_;omega)|apply AQ)<;>conv=>whnf
   refine iV (enc:=eO) (e:=some x) (by rw[Tg];exact wq) rfl ?_;conv=>whnf
   repeat' (first|(apply B5;omega)|refine AU (fr) ?_|refine AU (Rz) ?_)<;>conv=>whnf
   refine EA [] w_ (sh (s+1) (acc-y*x) D' ⟨D',?_⟩);rw[hdt,p3];grind
  ·obtain rfl:s=n-(k+1):=D'
   clear sh;have hdt:acc=rc*l-B4 (r.drop (k+1)) v:=by
    rw[p3,OR,aL qm,OR]
   have hD:=rV N.toa7 tz bk D' hS AuN;have qj:=AlP (n:=n) (v:=v) (x:=acc/rk) D';rw[qm,show n-(n-(k+1)+1)=k by omega]at qj;have q5:=Ac1 (n:=n) (v:=v) D';rw[<-hdt]at hv;rw[<-hv]at qj;generalize cw n v=C at *;repeat' (first|(apply A7<;>intro hc<;>try omega)|(apply CB;omega)|apply BW|(refine CU G' ?_ rfl ?_;omega)|apply AQ|refine AU (hD) ?_)<;>conv=>whnf
   refine LB (enc:=eO) (some (acc/rk)) rfl (λ e=>by cases e<;>rfl) D' ?_;conv=>whnf
   rw[qj];repeat' (first|(apply EP;omega)|fail)<;>conv=>whnf
   exact DB [] (kh k D' D')
theorem xK:dg 1=[1]:=by rw[QJ o_];simp [I6]
theorem AnY (N:a7 L) {s:Rat} {a l d:Nat} (q:Bool) (hs:Bt a s) (hd:d<=2^l) (ha:a<2199023255552) (hl:l<2199023255552):Ev L 99 [.agg (eQ s),.agg [.bool false,.sl false ((dg d).map BK),.sl q [[.int .u32 1]]]] (.agg (eQ (s*((d:Nat):Rat)))):=by
 have zj:Bt l ((d:Nat):Rat):=⟨by simpa using hd,by simpa using Jf⟩;have e:=H6 ((d:Nat):Rat);have h1:=(zj.sm hl).1;have h2:=(zj.sm hl).2;rw[vf,rf,zc,show decide ((d:Int)<0)=false by simp,xK]at e;rw[vf,zc]at h1;rw[rf,xK]at h2;have h:=jQ N 68719476736 D' (decide (s.num<0)) false false false false q _ _ (dg d) [1] (hs.sm ha).1 (hs.sm ha).2 h1 h2;rw[H6,e]at h;exact h
theorem Ahw {N i k:Nat} (hk:k<N) : ∀ t,t∈(Sc N).set i k->t<N:=λ t ht=>by
 rcases Ed ht with h|h
 ·exact Sf.1 h
 ·omega
theorem sU {z:Nat} {m:Y_} {i:Nat} {r:Z_} (h:m[i]? = some r):(DD z eQ m)[i]? = some (some (z,r.map eQ)):=by
 rw[DD,na,h];rfl
theorem AqW {z:Nat} {m:Y_} {i j:Nat} {a b:Z_}:((DD z eQ m).set i (some (z,b.map eQ))).set j (some (z,a.map eQ))=DD z eQ ((m.set i b).set j a):=by
 simp only[DD,Ci]
theorem pW {R:List (b_)} {e z:Nat} {es:c_} {K:Nat->c_->Prop} (h:R[e]? = some (some (z,es))) (hk:K z es):DP R e K:=by
 unfold DP;exact ⟨z,es,h,hk⟩
theorem Zv {α:Type} {l:List α} {i:Nat} {x:α} (h:l[i]? = some x):l.set i x=l:=by
 obtain ⟨h1,rfl⟩:=zS h;exact List.set_getElem_self h1
theorem AqG {a b:Z_} {c:Nat} (hl:a.length=b.length) (h : ∀ j,j<c->a.getD j 0=0/\b.getD j 0=0):a.take c++b.drop c=b:=by
 have e:a.take c=b.take c:=by
  refine Se λ j => ?_
  rw[Si,Si];by_cases hj:j<c
  ·rw[if_pos hj,if_pos hj]
   obtain ⟨h1,h2⟩:=h j hj;rw[Wa]at h1 h2;by_cases lv:j<a.length
   ·rw[zE lv,zE D']at *
    simp only[Vi]at h1 h2;rw[h1,h2]
   ·rw[oc D',oc D']
  ·rw[if_neg hj,if_neg hj]
 rw[e,Oe]
theorem AqE {a b:Z_} {j:Nat} {x:Rat} (hl:a.length=b.length) (hx:b[j]? = some x):(a.take j++b.drop j)[j]? = some x:=by
 have h1:=(zS hx).1;have ht:(a.take j).length=j:=by rw[Sa];omega
 rw[Vc D',ht,Sd,Te];exact hx
theorem AqF {a b:Z_} {j:Nat} {y:Rat} (hl:a.length=b.length) (hy:a[j]? = some y):(a.take j++b.drop j).set j y=a.take (j+1)++b.drop (j+1):=by
 have h1:=(zS hy).1;have ht:(a.take j).length=j:=by rw[Sa];omega
 rw[Td _ _ D',ht,Sd,xd D',ye,VV hy,Bd];rfl
theorem AdC {m0 m a b:Y_} {K n w c:Nat} {P:a_} {odd:Bool} {l:Rat} (hE:L4 m0 K (n+w) n m P c odd l) (hs:lO m0 (GT a b)) (hl:a.length=b.length) (ha : ∀ r∈a,r.length=n) (ig:a.length=n) (ix:n<=c\/n<=P.length):P.length=n↔NS n a:=by
 have At8:GW m (n+w) n P:=by
  have hc:=hE.cc;rcases ix with h|h
  ·obtain rfl:c=n:=D'
   exact hE.bj
  ·have h1:=hE.bj.pl
   have h2:=hE.len;have h3:=hs.1;simp only[GT,ai]at h3;exact hE.bj.wide D' hc
 exact Af7 At8 (λ X=>(hE.xe X).trans (hs.xe X)) hl ha
theorem Ano (N:ae L) {h:Rat} (hh:Bt 4 (-h)) (n6 : -h≠0):Ev L 207 [.agg [.sl true ([(1:Rat)].map eQ),.sl true ([1,-h].map eQ)]] (.e9 [.agg (eS ⟨[[h]],[1],[h],1⟩),.int .i64 0]):=by
 have hA:Bs 4 [1,-h]:=λ x hx=>by
  rcases Di.1 hx with rfl|hx
  ·exact Bt.one 4
  ·obtain rfl:=Tf.1 hx
   exact hh
 have hB:Bs 4 [(1:Rat)]:=λ x hx=>by
  obtain rfl:=Tf.1 hx;exact Bt.one 4
 have tB:dP [(1:Rat)]=[1]:=o_
 have tA:dP [1,-h]=[1,-h]:=by
  show List.take (if -h=0 then _ else 2) [1,-h]=_;rw[if_neg n6];rfl
 have hV:=AoI N true true [1] [1,-h] 4 hB hA (by first|omega|simp) (by first|omega|simp) (by first|omega|simp) rfl;have Dh:Ev L 204 [.sl true ([(1:Rat)].map eQ)] (.int .i64 0):=Aee N true [1] 4 tB hB D' p_;have ux:Ev L 204 [.sl true ([1,-h].map eQ)] (.int .i64 1):=Aee N true [1,-h] 4 tA hA D' p_;have hO:=QL N.toa7 1 D';have hB0:Ev L 205 [.sl true ([(1:Rat)].map eQ),.int .i64 0] (.agg (eQ 1)):=zA N true [1] 0 4 D' hB D' p_;have hB1:Ev L 205 [.sl true ([(1:Rat)].map eQ),.int .i64 (0+1)] (.agg (eQ 0)):=zA N true [1] (0+1) 4 D' hB D' p_;have Vm:Ev L 205 [.sl true ([1,-h].map eQ),.int .i64 (0+1)] (.agg (eQ (-h))):=zA N true [1,-h] (0+1) 4 D' hA D' p_;have hM:=R6 N.toa7 (Bt.one 4) hh D' D';have hS:=sB N.toer (Bt.zero 4) ((Bt.one 4).mul hh) D' D';have hN:=AdZ N hh D';rw[show (0:Rat)-1 * -h=h by grind]at hS;rw[Rat.neg_neg]at hN;rw[show ((1:Int):Rat)=1 from rfl]at hO;have hZ:=AoL N 1 D';have gm:=AkV ⟨[[h]],[1],[h],1⟩ 0;generalize -h=g at *;refine Ev.x N.VT rfl rfl ?_;repeat' (first|(apply A7<;>intro hc<;>try omega)|apply AQ|refine AU (hV) ?_|refine AU (Dh) ?_|refine AU (ux) ?_|refine AU (hB0) ?_)<;>conv=>whnf
 refine AbR (enc:=eQ) 1 hZ rfl ?_;conv=>whnf
 repeat' (first|(apply A7<;>intro hc<;>try omega)|(apply CB;omega)|refine AU (hO) ?_)<;>conv=>whnf
 refine qI (enc:=eQ) 0 1 rfl rfl (λ_=>rfl) p_ ?_;conv=>whnf
 skip
 refine QH ?_;repeat' (first|(apply A7<;>intro hc<;>try omega)|apply AQ)<;>conv=>whnf
 refine AbR (enc:=eQ) 1 hZ rfl ?_;conv=>whnf
 repeat' (first|(apply A7<;>intro hc<;>try omega)|fail)<;>conv=>whnf
 refine QH ?_;repeat' (first|(apply A7<;>intro hc<;>try omega)|(apply CB;omega)|(apply B5;omega)|apply AQ|refine AU (Vm) ?_|refine AU (hN) ?_)<;>conv=>whnf
 refine qI (enc:=eQ) 0 h rfl rfl (λ_=>rfl) p_ ?_;conv=>whnf
 repeat' (first|(apply B5;omega)|fail)<;>conv=>whnf
 refine QH ?_;repeat' (first|(apply A7<;>intro hc<;>try omega)|apply AQ)<;>conv=>whnf
 refine CB ⟨rfl,D'⟩ ?_;conv=>whnf
 repeat' (first|(apply B5;omega)|apply HL|refine AU (hB0) ?_|refine AU (hB1) ?_|refine AU (Vm) ?_|refine AU (hM) ?_|refine AU (hS) ?_)<;>conv=>whnf
 refine pM (enc:=eQ) h rfl rfl D' ?_;conv=>whnf
 repeat' (first|(apply B5;omega)|fail)<;>conv=>whnf
 refine QH ?_;repeat' (first|(apply A7<;>intro hc<;>try omega)|apply AQ)<;>conv=>whnf
 refine AjS (en:=eQ) [[h]] rfl (λ_=>rfl) rfl rfl ?_;conv=>whnf
 refine Ab9 rfl rfl ?_;conv=>whnf
 refine Ab9 rfl rfl ?_;conv=>whnf
 exact B1 rfl gm
abbrev FW (q:Bool) (m:List (List BI)):c_:=m.map λ r=>[AV.sl q (r.map eW)]
def vM (m:List (List BI)):Y_:=m.map λ r=>r.map BI.v
def BI.Fit (k:Nat) (w:BI):Prop:=Bt k w.v/\w.Sz 68719476736
def FQ (k:Nat) (m:List (List BI)):Prop := ∀ r∈m,∀ x∈r,x.Fit k
def wR (r:Z_):List BI:=r.map WF
def wM (m:Y_):List (List BI):=m.map wR
theorem V2 (r:Z_):(wR r).map eW=r.map eQ:=by
 rw[wR,Wc];rfl
theorem RS (r:Z_):(wR r).map BI.v=r:=by
 rw[wR,Wc];exact (Kd λ x _=>kT x).trans (vj r)
theorem rP (q:Bool) (m:Y_):FW q (wM m)=L6 q m:=by
 simp only[wM,Wc,Uf,V2]
theorem Z3 (m:Y_):vM (wM m)=m:=by
 simp only[vM,wM,Wc,Uf,RS,vj]
theorem jU {k:Nat} {x:Rat} (h:Bt k x) (hk:k<2199023255552):(WF x).Fit k:=by
 refine ⟨by rw[kT];exact h,?_⟩;exact h.qe hk
theorem FQ.of {k:Nat} {m:Y_} (h:Ms k m) (hk:k<2199023255552):FQ k (wM m):=λ r hr x hx=>by
 obtain ⟨s,hs,rfl⟩:=Sb.1 hr;obtain ⟨y,hy,rfl⟩:=Sb.1 hx;exact jU (h s hs y hy) hk
theorem FQ.ms {k:Nat} {m:List (List BI)} (h:FQ k m):Ms k (vM m):=λ r hr x hx=>by
 obtain ⟨s,hs,rfl⟩:=Sb.1 hr;obtain ⟨y,hy,rfl⟩:=Sb.1 hx;exact (h s hs y hy).1
theorem BI.Sz.fit {w:BI} {k:Nat} (h:w.Sz k) (hk:k<=68719476736):w.Fit (32*k):=⟨BI.bt h,h.1.le hk,h.2.le hk⟩
theorem Z2 {m:List (List BI)} {n:Nat} (h:m.length=n):(vM m).length=n:=by rw[vM,ta];exact h
theorem iJ {m:List (List BI)} {w:Nat} (h : ∀ r∈m,r.length=w) : ∀ r∈vM m,r.length=w:=λ r hr=>by
 obtain ⟨s,hs,rfl⟩:=Sb.1 hr;rw[ta];exact h s hs
theorem vC {m:Y_} {n:Nat} (h:m.length=n):(wM m).length=n:=by rw[wM,ta];exact h
theorem vD {m:Y_} {w:Nat} (h : ∀ r∈m,r.length=w) : ∀ r∈wM m,r.length=w:=λ r hr=>by
 obtain ⟨s,hs,rfl⟩:=Sb.1 hr;rw[wR,ta];exact h s hs
theorem lC {r:List BI} {j:Nat} {x:BI} (h:r[j]? = some x):(r.map BI.v)[j]? = some x.v:=by rw[na,h];rfl
theorem J5 {m:List (List BI)} {i:Nat} {r:List BI} (h:m[i]? = some r):(vM m)[i]? = some (r.map BI.v):=by rw[vM,na,h];rfl
def Ajo {α:Type} (a:List (List α)) (n w:Nat):Prop:=a.length=n/\(∀ r∈a,r.length=w)/\(1<=n/\n<=52)/\1<=w/\w<=52
def UC {α:Type} (a:List (List α)):Bool:=decide (1<=a.length/\a.length<=52)&&(decide (1<=(a.headD []).length/\(a.headD []).length<=52)&&a.all λ r=>decide (r.length=(a.headD []).length))
theorem ArE {α:Type} {a:List (List α)}:UC a=true ↔ ∃ n w,Ajo a n w:=by
 constructor
 ·intro h
  simp only[UC,Wb,decide_eq_true_eq,ie]at h;exact ⟨a.length,(a.headD []).length,rfl,h.2.2,h.1,h.2.1⟩
 ·rintro ⟨n,w,h1,h2,h3,h4⟩
  have hd:(a.headD []).length=w:=by
   cases a with
   | nil=>simp at h1;omega
   | cons r a=>exact h2 r p_
  simp only[UC,Wb,decide_eq_true_eq,ie];rw[hd,h1];exact ⟨h3,h4,h2⟩
theorem Af9 {α:Type} {a:List (List α)} {r:List α} (h:a[0]? = some r):a.headD []=r:=by
 cases a with
 | nil=>simp at h
 | cons x a=>simpa using h
theorem lT {α:Type} {p:α->Bool} {l:List α} {i:Nat} {x:α} (hx:l[i]? = some x) (h:p x=false):l.all p=false:=by
 rw[List.all_eq_false];exact ⟨x,zM hx,by rw[h];decide⟩
theorem lS {α:Type} {p:α->Bool} {l:List α} (h : ∀ (j:Nat) (x:α),l[j]? = some x->p x=true):l.all p=true:=by
 rw[ie];intro x hx;obtain ⟨j,hj⟩:=te hx;exact h j x hj
theorem AnV (N:ay L) (q q':Bool) (a:List (List BI)) (hn:a.length<=100000) (hr : ∀ r∈a,r.length<=100000):Ev L 229 [.sl q (FW q' a)] (.bool (UC a)):=by
 by_cases h0:1<=a.length/\a.length<=52
 ·obtain ⟨r0,z7⟩:=X_ a 0
  have Nu:a[(0:Int).toNat]? = some r0:=z7;have qz:=hr r0 (zM z7);have hB:UC a=(decide (1<=r0.length/\r0.length<=52)&&a.all λ r=>decide (r.length=r0.length)):=by
   rw[UC,decide_eq_true h0,ze,Af9 z7]
  rw[hB];refine Ev.x N.SC rfl rfl ?_;repeat' (first|(apply A7<;>intro hc<;>try omega)|apply BW|(refine CU G' ?_ rfl ?_;omega)|apply AQ)<;>conv=>whnf
  refine FP (λ i=>a.length-i) (λ(i:Nat)=>i<=a.length /\ ∀ j x,j<i->a[j]? = some x->x.length=r0.length) (λ i=>[(20,.int .i64 i)]) (λ_=>[]) 0 ⟨D',D'⟩ ?_;intro i ⟨p1,p2⟩ ih;by_cases hi:i<a.length
  ·obtain ⟨r,du⟩:=X_ a i
   have nh:a[(i:Int).toNat]? = some r:=du;have hl:=hr r (zM du);by_cases he:r.length=r0.length
   ·repeat' (first|(apply A7<;>intro hc<;>try omega)|(apply B5;omega)|apply BW|(refine CU G' ?_ rfl ?_;omega)|apply AQ)<;>conv=>whnf
    exact DB [] (ih (i+1) D' ⟨D',λ j x hj hx=>by
     by_cases e:j=i
     ·subst e;rw[du]at hx;obtain rfl:=uc hx;exact he
     ·exact p2 j x D' hx⟩)
   ·rw[lT du (decide_eq_false he),Nf]
    repeat' (first|(apply A7<;>intro hc<;>try omega)|apply BW|(refine CU G' ?_ rfl ?_;omega)|apply AQ)<;>conv=>whnf
    exact HK rfl
  ·obtain rfl:i=a.length:=D'
   clear ih;rw[lS (p:=λ r=>decide (r.length=r0.length)) λ j x hx=>decide_eq_true (p2 j x (zS hx).1 hx),Bool.and_true];repeat' (first|(apply A7<;>intro hc<;>try omega)|apply AQ)<;>conv=>whnf
   all_goals exact HK W_
 ·rw[UC,decide_eq_false h0,Uc]
  refine Ev.x N.SC rfl rfl ?_;repeat' (first|(apply A7<;>intro hc<;>try omega)|apply BW|apply AQ)<;>conv=>whnf
  all_goals exact HK rfl
theorem Aga {α:Type} {a:List (List α)} {n w:Nat} (h:a.length=n) (hw : ∀ r∈a,r.length=w) (h1:1<=n/\n<=52) (h2:1<=w/\w<=52):UC a=true:=ArE.2 ⟨n,w,h,hw,h1,h2⟩
theorem AnU (N:ay L) (q q':Bool) (a:List (List BI)) (n w:Nat) (hn:a.length=n) (hw : ∀ r∈a,r.length=w) (h1:1<=n/\n<=52) (h2:1<=w/\w<=52):Ev L 229 [.sl q (FW q' a)] (.bool true):=by
 rw[<-Aga hn hw h1 h2];exact AnV N q q' a D' λ r hr=>by rw[hw r hr];omega
theorem Aov (N:mf L) (q q':Bool) (a:List (List BI)) (hn:a.length<=100000) (hr : ∀ r∈a,r.length<=100000):Ev L 239 [.sl q (FW q' a)] (.bool (UC a)):=by
 by_cases h0:1<=a.length/\a.length<=52
 ·obtain ⟨r0,z7⟩:=X_ a 0
  have Nu:a[(0:Int).toNat]? = some r0:=z7;have qz:=hr r0 (zM z7);have hB:UC a=(decide (1<=r0.length/\r0.length<=52)&&a.all λ r=>decide (r.length=r0.length)):=by
   rw[UC,decide_eq_true h0,ze,Af9 z7]
  rw[hB];by_cases hw:1<=r0.length/\r0.length<=52
  ·rw[decide_eq_true hw,ze]
   refine Ev.x N.QT rfl rfl ?_;repeat' (first|(apply A7<;>intro hc<;>try omega)|apply BW|(refine CU G' ?_ rfl ?_;omega)|apply AQ)<;>conv=>whnf
   refine FP (λ i=>a.length-i) (λ(i:Nat)=>i<=a.length /\ ∀ j x,j<i->a[j]? = some x->x.length=r0.length) (λ i=>[(29,.int .i64 i)]) (λ_=>[]) 0 ⟨D',D'⟩ ?_;intro i ⟨p1,p2⟩ ih;by_cases hi:i<a.length
   ·obtain ⟨r,du⟩:=X_ a i
    have nh:a[(i:Int).toNat]? = some r:=du;have hl:=hr r (zM du);by_cases he:r.length=r0.length
    ·repeat' (first|(apply A7<;>intro hc<;>try omega)|(apply B5;omega)|apply BW|(refine CU G' ?_ rfl ?_;omega)|apply AQ)<;>conv=>whnf
     exact DB [] (ih (i+1) D' ⟨D',λ j x hj hx=>by
      by_cases e:j=i
      ·subst e;rw[du]at hx;obtain rfl:=uc hx;exact he
      ·exact p2 j x D' hx⟩)
    ·rw[lT du (decide_eq_false he)]
     repeat' (first|(apply A7<;>intro hc<;>try omega)|apply BW|(refine CU G' ?_ rfl ?_;omega)|apply AQ)<;>conv=>whnf
     exact HK rfl
   ·obtain rfl:i=a.length:=D'
    clear ih;rw[lS (p:=λ r=>decide (r.length=r0.length)) λ j x hx=>decide_eq_true (p2 j x (zS hx).1 hx)];repeat' (first|(apply A7<;>intro hc<;>try omega)|apply AQ)<;>conv=>whnf
    all_goals exact HK rfl
  ·rw[decide_eq_false hw,Uc]
   refine Ev.x N.QT rfl rfl ?_;repeat' (first|(apply A7<;>intro hc<;>try omega)|apply BW|(refine CU G' ?_ rfl ?_;omega)|apply AQ)<;>conv=>whnf
   all_goals exact HK rfl
 ·rw[UC,decide_eq_false h0,Uc]
  refine Ev.x N.QT rfl rfl ?_;repeat' (first|(apply A7<;>intro hc<;>try omega)|apply BW|apply AQ)<;>conv=>whnf
  all_goals exact HK rfl
theorem Aou (N:mf L) (q q':Bool) (a:List (List BI)) (n w:Nat) (hn:a.length=n) (hw : ∀ r∈a,r.length=w) (h1:1<=n/\n<=52) (h2:1<=w/\w<=52):Ev L 239 [.sl q (FW q' a)] (.bool true):=by
 rw[<-Aga hn hw h1 h2];exact Aov N q q' a D' λ r hr=>by rw[hw r hr];omega
theorem AkW (w:BI):ES (eW w):=by
 simp only[eW,rQ,ES,CI,and_true,true_and];exact ⟨EW _,EW _⟩
theorem AcG : ∀ l:List BI,J6 (l.map eW)
 | []=>trivial
 | w::l=>⟨AkW w,AcG l⟩
def HV (a b:List (List BI)):List (List BI):=List.zipWith (· ++ ·) a b
theorem Yr {a b:List (List BI)} {i:Nat} {r s:List BI} (hr:a[i]? = some r) (hs:b[i]? = some s):(HV a b)[i]? = some (r++s):=by
 rw[HV,Ah,hr,hs]
theorem Zo : ∀ a b:List (List BI),vM (HV a b)=GT (vM a) (vM b)
 | [],_=>by simp [HV,GT,vM]
 | _::_,[]=>by simp [HV,GT,vM]
 | r::a,s::b=>by
  have:=Zo a b
  simp only[HV,GT,vM,List.zipWith_cons_cons,He,yf]at this ⊢;rw[this]
theorem AeX {a b:List (List BI)} {n:Nat} (h:a.length=n) (g:b.length=n):(HV a b).length=n:=by simp [HV,h,g]
theorem AeW {a b:List (List BI)} {n w k:Nat} (ud : ∀ r∈a,r.length=n) (Dm : ∀ r∈b,r.length=w) (tz:FQ k a) (Ab:FQ k b):(∀ r∈HV a b,r.length=n+w)/\FQ k (HV a b):=by
 have key : ∀ r∈HV a b,∃ x∈a,∃ y∈b,r=x++y:=λ r hr=>by
  obtain ⟨i,hi⟩:=te hr;have dw:=(zS hi).1;simp only[HV,ai]at dw;obtain ⟨x,hx⟩:=X_ a i;obtain ⟨y,hy⟩:=X_ b i;obtain rfl:=uc ((Yr hx hy).symm.trans hi);exact ⟨x,zM hx,y,zM hy,rfl⟩
 constructor
 ·intro r hr
  obtain ⟨x,hx,y,hy,rfl⟩:=key r hr;rw[Gb,ud x hx,Dm y hy]
 ·intro r hr z hz
  obtain ⟨x,hx,y,hy,rfl⟩:=key r hr;rcases Ae.1 hz with hz|hz
  ·exact tz x hx z hz
  ·exact Ab y hy z hz
def yG:Option (List BI)->d_
 | none=>[.nil]
 | some r=>[.sl false (r.map eW)]
theorem Ao1 {n:Nat} {l:List (List BI)} (h:l.length=n):(fz none (l.map some) n).map yG=FW false l:=by
 rw[nA (by simpa using h),Wc];rfl
def AdD (p:Bool × List BI):d_:=[.sl p.1 (p.2.map eW)]
def MF (P:List (Bool × List BI)) (i:Nat):List BI:=((P.take i).map Qj).flatten
theorem Aeu {P:List (Bool × List BI)} {i:Nat} {p:Bool × List BI} (h:P[i]? = some p):MF P (i+1)=MF P i++p.2:=by
 simp only[MF,Pc,h,ag,yf,He,Af,Vf,Ef,List.flatten_nil,Ve]
theorem Anm (N:ay L) (q:Bool) (P:List (Bool × List BI)) (n:Nat) (hn:P.length=n) (vk:n<=100) (hB : ∀ i,(MF P i).length<=2000) (h0:0<(MF P n).length):Ev L 228 [.sl q (P.map AdD)] (.sl false ((MF P n).map eW)):=by
 refine Ev.x N.VM rfl rfl ?_;repeat' (first|apply BW|apply AQ)<;>conv=>whnf
 refine FP (λ i=>n-i) (λ(i:Nat)=>i<=n) (λ i=>[(11,.int .i64 i),(3,.int .i64 (MF P i).length)]) (λ_=>[]) 0 D' ?_;intro i p1 ih;by_cases hi:i<n
 ·obtain ⟨p,hp⟩:=X_ P i
  have Ub:P[(i:Int).toNat]? = some p:=hp;have hs:=Aeu hp;have hb:=hB i;have Dk:=hB (i+1);have hl:(MF P (i+1)).length=(MF P i).length+p.2.length:=by rw[hs,Gb]
  repeat' (first|(apply A7<;>intro hc<;>try omega)|(apply B5;omega)|apply BW|(refine CU G' ?_ rfl ?_;omega)|apply AQ)<;>conv=>whnf
  rw[show ((MF P i).length:Int)+(p.2.length:Int)=((MF P (i+1)).length:Nat) by rw[hl];omega];exact DB [] (ih (i+1) D' D')
 ·obtain rfl:i=n:=D'
  clear ih;have hb:=hB i;repeat' (first|(apply A7<;>intro hc<;>try omega)|apply AQ)<;>conv=>whnf
  refine K5 1000 N.dM rfl rfl ?_;repeat' (first|(apply A7<;>intro hc<;>try omega)|(apply CB;omega)|(apply EP;omega)|apply AQ)<;>conv=>whnf
  refine CB ⟨D',by simp only[H8];omega,D'⟩ ?_;conv=>whnf
  refine AbN ⟨D',D'⟩ ?_;conv=>whnf
  skip
  refine ⟨rfl,_,rfl,?_⟩;conv=>whnf
  (repeat' (apply BW<;>conv=>whnf))
  refine FP (λ j=>i-j) (λ(j:Nat)=>j<=i) (λ j=>[(27,.int .i64 j),(6,.row 227022 0 3 0 (MF P j).length)]) (λ j=>[(227022,227022,.rw 3 ((MF P j).map eW))]) 0 D' ?_;intro j p2 jh;by_cases hj:j<i
  ·obtain ⟨p,hp⟩:=X_ P j
   have Ub:P[(j:Int).toNat]? = some p:=hp;have hs:=Aeu hp;have hb:=hB j;have Dk:=hB (j+1);have hl:(MF P (j+1)).length=(MF P j).length+p.2.length:=by rw[hs,Gb]
   repeat' (first|(apply A7<;>intro hc<;>try omega)|(refine CU G' ?_ rfl ?_;omega)|apply AQ)<;>conv=>whnf
   refine pO rfl (λ_=>rfl) D' D' ?_;rw[<-hs];conv=>whnf
   repeat' (first|(apply B5;omega)|fail)<;>conv=>whnf
   exact DB [(227022,33)] (jh (j+1) D' D')
  ·obtain rfl:j=i:=D'
   clear jh;repeat' (first|(apply A7<;>intro hc<;>try omega)|(refine G9 (λ_=>rfl) rfl ?_ ?_;(first|rfl|simp))|apply AQ)<;>conv=>whnf
   exact B1 rfl (by simp only[CI,true_and];exact AcG _)
theorem Ann (N:ay L) (q q1 q2:Bool) (a b:List BI) (ha:a.length<=1000) (hb:b.length<=1000) (h0:0<a.length):Ev L 228 [.sl q [[.sl q1 (a.map eW)],[.sl q2 (b.map eW)]]] (.sl false ((a++b).map eW)):=by
 have:=Anm N q [(q1,a),(q2,b)] 2 rfl D' (λ i=>by
  rcases i with _|_|_|i<;>simp [MF]<;>omega) (by simp [MF];omega)
 simpa [MF,AdD] using this
def RI (y:Nat->Z_) (n w:Nat):Y_:=(Sc n).map λ i:Nat=>(Sc w).map λ c=>(y c).getD i 0
theorem AgP {m0 m:Y_} {K n W c:Nat} {P:a_} {odd:Bool} {l:Rat} (hE:L4 m0 K W n m P c odd l) (hP:P.length=n) (gx:m.length=n):iZ (CK m) n:=by
 have hc:c=n:=by have:=hE.bj.le;have:=hE.cc;omega
 subst hc;exact hE.bj.tri λ i hi=>by
  obtain ⟨q,hq⟩:=X_ P i;rw[hq,hE.bj.diag hP i q hq]
theorem Asm {m0 m a b:Y_} {K n w c:Nat} {P:a_} {odd:Bool} {l:Rat} (hE:L4 m0 K (n+w) n m P c odd l) (hs:lO m0 (GT a b)) (hl:a.length=b.length) (ud : ∀ r∈a,r.length=n) (Dm : ∀ r∈b,r.length=w) (hP:P.length=n) (gx:m.length=n) :
  ∀ c',c'<w -> ∀ (i:Nat) (r s:Z_),a[i]? = some r->b[i]? = some s->B4 r ((HW (n+c') l m 0).map (· / l))=s.getD c' 0:=by
 intro c' cn i r s hr Cd;have ht:=AgP hE hP gx;have hlen:=hE.bj.lr;refine AcX (λ X=>(hE.xe X).trans (hs.xe X)) hl ud Dm cn (by rw[ta,YY];exact gx) hlen (λ x hx => ?_) hr Cd;have h1:=AkM (c:=n+c') (l:=l) (λ r hr=>by rw[hlen r hr];omega) gx ht x hx;have Aq:((HW (n+c') l m 0).map (· * l⁻¹)).length=n:=by rw[ta,YY];exact gx
 rw[show ((HW (n+c') l m 0).map (· / l))=(HW (n+c') l m 0).map (· * l⁻¹) from Kd λ z _=>gg z l,OR,<-aL Aq,List.take_take,Nat.min_self,aL Aq,fA,OR,h1,Rh,Lf _ hE.l0,cj]
theorem Aso (N:ay L) (q q1 q2 q3:Bool) (a0 b0:List (List BI)) (a:List (List BI)) (n WW k:Nat) {K:Nat} (ig:a.length=n) (ud : ∀ r∈a,r.length=WW) (hn:1<=n/\n<=52) (hW:WW<=104) (tz:FQ k a) (vq : ∀ r∈vM a,∀ j,Bt K (FO (r.take j))) (Nc:k<=K) (hKB:K<=1000000000000) {kk:List It} {Q:Tm->Mem->Prop}
  (gm:AJ L kk ([(5,.row 231019 0 3 0 n),(4,.row 231016 0 1 0 n)]++[(1000+43,.row 22 0 1 0 n),(1000+26,.bool false),(1000+25,.int .i64 n),(1000+24,.int .i64 n),(1000+7,.row 22 0 1 0 n),(1000+6,.int .i64 n),(1000+0,.sl q (FW q1 a0)),(1000+(0+1),.sl q2 (FW q3 b0))]) ([(231016,231016,.mx (DD 3 eQ (whole (vM a)))),(231019,231019,.rw 3 (((vM a).map FO).map eQ))]++[(22,22,.rw 1 (FW false a))]) Q) :
  AJ L (.lp OS.l1 :: .g8 0::kk) ([(22,.int .i64 0),(21,.int .i64 n),(20,.row 22 0 1 0 n),(5,.row 231019 0 3 0 n),(4,.row 231016 0 1 0 n)]++[(1000+43,.row 22 0 1 0 n),(1000+26,.bool false),(1000+25,.int .i64 n),(1000+24,.int .i64 n),(1000+7,.row 22 0 1 0 n),(1000+6,.int .i64 n),(1000+0,.sl q (FW q1 a0)),(1000+(0+1),.sl q2 (FW q3 b0))]) ([(231016,231016,.mx (jb n none)),(231019,231019,.rw 3 ((jb n none).map eO))]++[(22,22,.rw 1 (FW false a))]) Q:=by
 have hI:=QL N.toa7 1 D';refine iP (l:=[_,_]) rfl ?_;refine GV (λ i=>n-i) (λ(i:Nat)=>i<=n) (λ i=>[(22,.int .i64 i)]) (λ i=>[(231016,231016,.mx (mz (whole (vM a)) n i)),(231019,231019,.rw 3 ((IL (((vM a).map FO).take i) n).map eO))]) [] [] 0 (by first|exact w_|(rw[<-Xn (whole (vM a)),od,<-aT];exact w_)) D' ?_;intro i p1 ih;have hzl:=Xl (Q:=whole (vM a)) p1;by_cases hi:i<n
 ·obtain ⟨r,hr⟩:=X_ a i
  have nh:a[(i:Int).toNat]? = some r:=hr;have ff:=ud r (zM hr);have ri:=tz r (zM hr);obtain ⟨rv,Qh⟩ : ∃ rv,r.map BI.v=rv:=⟨_,rfl⟩;have hvr:(vM a)[i]? = some rv:=by rw[<-Qh,vM,na,hr];rfl
  have AuQ:rv.length=WW:=by rw[<-Qh,ta];exact ff
  have ax : ∀ (j:Nat) (x:BI),r[j]? = some x->rv[j]? = some x.v:=λ j x hx=>by rw[<-Qh,na,hx];rfl
  have m4:=Xm (Q:=whole (vM a)) (i:=i) (n:=n) (row:=rv.map (· * FO rv)) (by rw[whole,na,hvr];rfl) hi;have AuV:((vM a).map FO)[i]? = some (FO rv):=by rw[na,hvr];rfl
  generalize mz (whole (vM a)) n i=R0 at *;have Ge : ∀ j,Bt K (FO (rv.take j)):=vq rv (zM hvr);have Up:=Ge WW;rw[zT D']at Up;repeat' (first|(apply A7<;>intro hc<;>try omega)|(apply CB;omega)|apply BW|(refine KX ?_ (λ_=>rfl) (λ v hv => ?_);omega)|apply AQ|refine AU (hI) ?_)<;>conv=>whnf
  try cases hr.symm.trans hv
  refine LJ (λ j _=>WW-j) (λ(j:Nat) (s:Rat)=>j<=WW/\s=FO (rv.take j)) (λ j _=>[(30,.int .i64 j)]) (λ_ s=>[(231008,231008,.bx (eQ s))]) 0 ((1:Int):Rat) ⟨D',by rw[od];rfl⟩ ?_;intro j s ⟨p2,p3⟩ jh;by_cases hj:j<WW
  ·obtain ⟨x,hx⟩:=X_ r j
   have ni:r[(j:Int).toNat]? = some x:=hx;have Nz:Bt K s:=by rw[p3];exact Ge j
   have sx:=ri x (zM hx);have bx:=sx.1;have fi:=An0 N.toa7 Nz sx.2 D' (Cb _);have fr:=AnY N.toa7 true Nz (Nz.mul bx).2 D' D';have Gc:FO (rv.take (j+1))=s*(((s*x.v).den:Nat):Rat):=by rw[VV (ax j x hx),Agt,<-p3];rfl
   repeat' (first|(apply A7<;>intro hc<;>try omega)|(apply B5;omega)|(refine CU G' ?_ rfl ?_;omega)|refine OA rfl ?_|apply AQ|refine AU (fi) ?_|refine AU (fr) ?_)<;>conv=>whnf
   exact EA [] w_ (jh (j+1) _ D' ⟨D',Gc.symm⟩)
  have ej:j=WW:=D'
  clear jh;rw[zT D']at p3;subst p3;repeat' (first|(apply A7<;>intro hc<;>try omega)|apply BW|apply AQ)<;>conv=>whnf
  rw[ff];refine I2 (enc:=eO) none WW rfl D' D' ?_;conv=>whnf
  repeat' (first|(apply CB;omega)|fail)<;>conv=>whnf
  refine CB p_ ?_;refine iW (i:=i) D' D' ?_;conv=>whnf
  (repeat' (apply BW<;>conv=>whnf))
  refine GV (λ j=>WW-j) (λ(j:Nat)=>j<=WW) (λ j=>[(53,.int .i64 j)]) (λ j=>[(231016,231016,.mx (R0.set i (some (3,(IL ((rv.map (· * FO rv)).take j) WW).map eO))))]) [] [] 0 (by first|exact w_|(rw[od,<-aT];exact w_)) D' ?_;intro j r2 jh;have Oh:((rv.map (· * FO rv)).take j).length=j:=by rw[Sa,ta];omega
  have Wg:=ZF (l:=(rv.map (· * FO rv)).take j) (m:=WW) D';by_cases hj:j<WW
  ·obtain ⟨x,hx⟩:=X_ r j
   have ni:r[(j:Int).toNat]? = some x:=hx;have sx:=ri x (zM hx);have fi:=AdU N.toa7 sx.2 Up (Cb _) D';have hs:=aU (l:=(rv.map (· * FO rv)).take j) (m:=WW) (x:=x.v*FO rv) D';rw[Oh,<-VV (show (rv.map (· * FO rv))[j]? = some (x.v*FO rv) by rw[na,ax j x hx];rfl)]at hs;generalize IL ((rv.map (· * FO rv)).take j) WW=W0 at *;repeat' (first|(apply A7<;>intro hc<;>try omega)|(apply CB;omega)|(refine CU G' ?_ rfl ?_;omega)|apply AQ)<;>conv=>whnf
   refine dY D' D' ?_;conv=>whnf
   (repeat' (refine AU (fi) ?_<;>conv=>whnf))
   refine CB U_ ?_;conv=>whnf
   skip
   refine YS D' D' ?_;conv=>whnf
   refine LB (enc:=eO) (some (x.v*FO rv)) rfl (λ e=>by cases e<;>rfl) D' ?_;conv=>whnf
   rw[hs];refine qF D' (by rw[ta,ta,<-hs,Ic]) ?_;conv=>whnf
   repeat' (first|(apply B5;omega)|fail)<;>conv=>whnf
   exact DB [] (jh (j+1) D' D')
  have ej:j=WW:=D'
  clear jh;rw[zT U_,aS (by rw[ta];exact AuQ),m4];have Cw:(((vM a).map FO).take i).length=i:=by rw[Sa,ta,vM,ta];omega
  have hfi:=ZF (l:=((vM a).map FO).take i) (m:=n) D';have pt:=aU (l:=((vM a).map FO).take i) (m:=n) (x:=FO rv) D';rw[Cw,<-VV AuV]at pt;generalize IL (((vM a).map FO).take i) n=W1 at *;repeat' (first|(apply A7<;>intro hc<;>try omega)|(apply CB;omega)|apply AQ)<;>conv=>whnf
  refine LB (enc:=eO) (some (FO rv)) rfl (λ e=>by cases e<;>rfl) D' ?_;conv=>whnf
  rw[pt];repeat' (first|(apply B5;omega)|fail)<;>conv=>whnf
  exact DB [] (ih (i+1) D' D')
 have ei:i=n:=D'
 clear ih;rw[ei,Xk (by simp [whole,vM,ig]),zT (by rw[ta,vM,ta];omega),aS (by rw[ta,vM,ta];exact ig)];repeat' (first|(apply A7<;>intro hc<;>try omega)|apply AQ)<;>conv=>whnf
 exact EA [] w_ gm
theorem Asn (N:ay L) (q2 q3:Bool) (b0 jm:List (List BI)) {m0 m1:Y_} {n cw WW K0 c:Nat} {P:a_} {o:Bool} {l:Rat} {rp:Z_} (sc:Z_) (Cc:m0.length=n) (hn:1<=n/\n<=52) (hW:cw<=WW) (hW2:WW<=104) (Je:1<=K0) (hB:6^n*K0<=1000000000000) (hP:P.length<n) (Bi:c<cw) (hS:YX m0 K0 WW cw P c o l rp m1 (P.length+1)) {kk:List It} {Q:Tm->Mem->Prop}
  (gm : ∀ m2,YX m0 K0 WW cw P c o l rp m2 n->AJ L kk ([(9,.bool o),(8,.int .i64 c),(7,.int .i64 (P.length:Nat)),(10,.ptr 233010 0 0 0),(5,.ptr 233005 0 0 0),(0,.row 231016 0 1 0 n),(0+1,.int .i64 cw)]++[(1000+49,.int .i64 n),(1000+48,.row 231016 0 1 0 n),(1000+9,.row 231016 0 1 0 n),(1000+6,.int .i64 n),(1000+(0+1),.sl q2 (FW q3 b0))]) ([(231016,231016,.mx (DD 3 eQ m2)),(233010,233010,.bx (eQ l)),(233005,233005,.bx [.bool false,.nil,.nil])]++[(22,22,.rw 1 (FW false jm)),(231019,231019,.rw 3 (sc.map eQ))]) Q) :
  AJ L (.lp NG.l4 :: .g8 6::kk) ([(12,.int .i64 ((P.length+1:Nat):Int)),(9,.bool o),(8,.int .i64 c),(7,.int .i64 (P.length:Nat)),(10,.ptr 233010 0 0 0),(5,.ptr 233005 0 0 0),(0,.row 231016 0 1 0 n),(0+1,.int .i64 cw)]++[(1000+49,.int .i64 n),(1000+48,.row 231016 0 1 0 n),(1000+9,.row 231016 0 1 0 n),(1000+6,.int .i64 n),(1000+(0+1),.sl q2 (FW q3 b0))]) ([(231016,231016,.mx (DD 3 eQ m1)),(233010,233010,.bx (eQ l)),(233005,233005,.bx [.bool false,.nil,.nil])]++[(22,22,.rw 1 (FW false jm)),(231019,231019,.rw 3 (sc.map eQ))]) Q:=by
 refine iP (l:=[_,_]) rfl ?_;refine LJ (λ_ i=>n-i) (λ(m:Y_) (i:Nat)=>YX m0 K0 WW cw P c o l rp m i/\P.length+1<=i/\i<=n) (λ_ i=>[(12,.int .i64 i)]) (λ m _=>[(231016,231016,.mx (DD 3 eQ m))]) m1 (P.length+1) ⟨hS,D',D'⟩ ?_;clear hS;intro m2 i ⟨hS,j1,j2⟩ sh;have Hw:=hS.len;rw[Cc]at Hw;by_cases hj:i<n
 ·obtain ⟨rq,mr⟩:=X_ m2 i
  have Am:=hS.ht;have Un:=hS.bj.lr rq (zM mr);have gp:=hS.bj.lr rp (zM Am);repeat' (first|(apply A7<;>intro hc<;>try omega)|(apply CB;omega)|(refine KB ?_ (λ r hr => ?_);omega)|apply AQ)<;>conv=>whnf
  rename_i rA hrA;cases mr.symm.trans hrA;cases Am.symm.trans hr;rw[show 0+((i:Nat):Int).toNat=i by omega,show 0+((P.length:Nat):Int).toNat=P.length by omega,show (Gi eQ rq).length=WW by rw[ta];exact Un,show (Gi eQ rp).length=WW by rw[ta];exact gp];have yg:rq[c]? = some (rq.getD c 0):=fW D';refine K5 1000 N.W7 rfl rfl ?_;have Ee:rp[c]? = some (rp.getD c 0):=fW D';have Oc:=hS.step D' mr;have q5:(comb (rp.getD c 0) (rq.getD c 0) l rq rp).length=WW:=by rw[wP D'];exact Un
  have hcg:=λ j=>wO (p:=rp.getD c 0) (f:=rq.getD c 0) (l:=l) (r:=rq) (t:=rp) D' j
  have nj:=λ j (h:j<c)=>hS.bj.zr i rq D' mr j h
  have ru:=λ j (h:j<c)=>hS.bj.zr P.length rp (Cb _) Am j h
  have hbq:=hS.hi i rq (Cb i) mr;have hbp:=hS.bt;have ue:=hS.bl;have qz:=hS.l0;have Lz:=hbp.at Ee;have Mg:=hbq.at yg;generalize Qd:rp.getD c 0=pv at *;generalize hfv:rq.getD c 0=fv at *;generalize Co:comb pv fv l rq rp=cb at *;have Tl:cb.take c++rq.drop c=rq:=AqG D' λ j hj=>⟨by rw[hcg,nj j hj,ru j hj,Ug,Ug,Oi,Rat.neg_zero,Rat.add_zero,gg,Ug],nj j hj⟩
  have Lk:=sU (z:=3) mr;have hRp:=sU (z:=3) Am;have hRn:(DD 3 eQ m2).length=n:=by simp only[DD,ta];omega
  have Po:(DD 3 eQ m2).set i (some (3,cb.map eQ))=DD 3 eQ (m2.set i cb):=by simp only[DD,Ci]
  generalize DD 3 eQ m2=R2 at *;have Jl:R2.set i (some (3,rq.map eQ))=R2:=Zv Lk;repeat' (first|(apply CB;omega)|apply AQ)<;>conv=>whnf
  refine pW hRp ?_;conv=>whnf
  repeat' (first|(apply CB;omega)|(refine KX ?_ (λ_=>rfl) (λ v hv => ?_);omega))<;>conv=>whnf
  cases Ee.symm.trans hv;skip
  refine pW Lk ?_;conv=>whnf
  repeat' (first|(refine KX ?_ (λ_=>rfl) (λ v hv => ?_);omega)|fail)<;>conv=>whnf
  cases yg.symm.trans hv;skip
  have hp7:=ve (Af0 Je P.length) (tR hB (show P.length+1<=n by omega));generalize 6^P.length*K0=BB at *;refine GV (λ j=>WW-j) (λ(j:Nat)=>c<=j/\j<=WW) (λ j=>[(10,.int .i64 j)]) (λ j=>[(231016,231016,.mx (R2.set i (some (3,(cb.take j++rq.drop j).map eQ))))]) [] [] c (by first|exact w_|(rw[Tl,Jl];exact w_)) ⟨D',D'⟩ ?_;intro j ⟨k1,k2⟩ jh;have gx:(cb.take j++rq.drop j).length=WW:=by rw[Gb,Sa,Cf];omega
  by_cases hjn:j<WW
  ·obtain ⟨x,hx⟩:=X_ rq j
   obtain ⟨y,hy⟩:=X_ rp j;have Hn:cb[j]? = some ((x*pv-y*fv)/l):=by rw[<-Co];exact Alv hx hy
   have Ti:=AqE (a:=cb) D' hx;have um:=AqF (b:=rq) D' Hn;have bx:=hbq.at hx;have De:=hbp.at hy
   have fi:=R6 N.toa7 bx Lz D' D';have fr:=R6 N.toa7 De Mg D' D'
   have Rz:=sB N.toer (bx.mul Lz) (De.mul Mg) D' D';have hDi:=rV N.toa7 ((bx.mul Lz).yo (De.mul Mg)) ue D' D' qz;have AtD:(R2.set i (some (3,(cb.take j++rq.drop j).map eQ)))[P.length]? = some (some (3,rp.map eQ)):=by rw[cd,if_neg D'];exact hRp
   generalize cb.take j++rq.drop j=cm at *;repeat' (first|(apply A7<;>intro hc<;>try omega)|(apply CB;omega)|apply AQ)<;>conv=>whnf
   refine YS rfl D' ?_;conv=>whnf
   repeat' (first|(refine KX ?_ (λ_=>rfl) (λ v hv => ?_);omega)|fail)<;>conv=>whnf
   cases Ti.symm.trans hv;repeat' (first|(apply CB;omega)|refine AU (fi) ?_)<;>conv=>whnf
   refine pW AtD ?_;conv=>whnf
   repeat' (first|(refine KX ?_ (λ_=>rfl) (λ v hv => ?_);omega)|fail)<;>conv=>whnf
   cases hy.symm.trans hv;repeat' (first|refine AU (fr) ?_|refine AU (Rz) ?_)<;>conv=>whnf
   repeat' (first|(apply CB;omega)|refine AU (hDi) ?_)<;>conv=>whnf
   refine YS rfl D' ?_;conv=>whnf
   refine LB (enc:=eQ) ((x*pv-y*fv)/l) rfl (λ_=>rfl) D' ?_;rw[um];conv=>whnf
   refine qF rfl (by rw[ta,ta,<-um,Ic]) ?_;conv=>whnf
   repeat' (first|(apply B5;omega)|fail)<;>conv=>whnf
   exact DB [] (jh (j+1) D' ⟨D',D'⟩)
  ·have ej:j=WW:=D'
   clear jh;rw[zT D',Gd D',Ve,Po];repeat' (first|(apply A7<;>intro hc<;>try omega)|apply AQ)<;>conv=>whnf
   refine ⟨rfl,_,rfl,?_⟩;conv=>whnf
   repeat' (first|(apply B5;omega)|fail)<;>conv=>whnf
   exact DB [] (sh (m2.set i cb) (i+1) D' ⟨Oc,D',D'⟩)
 ·have ei:i=n:=D'
  clear sh;rw[ei]at hS;repeat' (first|(apply A7<;>intro hc<;>try omega)|apply AQ)<;>conv=>whnf
  exact EA [] w_ (gm m2 hS)
def iY (a b:Y_) (n w S B0:Nat):Prop := ∀ (m:Y_) (l:Rat) (c:Nat),c<w->m.length=n->Ms S m->Bt S l->l≠0->NS n a->(∀ (i:Nat) (r s:Z_),a[i]? = some r->b[i]? = some s->B4 r ((HW (n+c) l m 0).map (· / l))=s.getD c 0) -> ∃ C:Nat->Nat,(∀ k,Bs (C k) (HW (n+c) l (m.drop k) k))/\(∀ k,k<n->3*S+n*(S+C (k+1)+1)<=1000000000000)/\C 0<=1000000000000/\Bs B0 ((HW (n+c) l m 0).map (· / l))
theorem Acx (c:Nat) (l:Rat) : ∀ (k:Nat) (m:Y_) (i:Nat),HW c l (m.drop k) (i+k)=(HW c l m i).drop k
 | 0,m,i=>rfl
 | k+1,[],i=>rfl
 | k+1,r::m,i=>by
  rw[Wi,HW,Wi,<-Acx c l k m (i+1),show i+1+k=i+(k+1) by omega]
theorem iY.sol {a b:Y_} {n w S Q:Nat} (hQ:NS n a -> ∀ c,c<w -> ∀ X:Z_,X.length=n->(∀ (i:Nat) (r s:Z_),a[i]? = some r->b[i]? = some s->B4 r X=s.getD c 0)->Bs Q X) (hC:3*S+n*(2*S+Q+1)<=1000000000000) (hn:1<=n):iY a b n w S Q:=λ m l c hc hm um hl qz gj hs=>by
 have hX:=hQ gj c hc _ (by rw[ta,YY];exact hm) hs;have hb : ∀ k,Bs (S+Q) (HW (n+c) l (m.drop k) k):=λ k x hx=>by
  have e:=Acx (n+c) l k m 0;rw[Tg]at e;rw[e]at hx;have h1:=hX _ (Sb.2 ⟨x,yi hx,rfl⟩);have h2:=h1.mul hl;rw[Rat.div_mul_cancel qz]at h2;exact h2.le D'
 have e2:n*(S+(S+Q)+1)<=n*(2*S+Q+1):=Ui n D';have e3:S+Q<=n*(2*S+Q+1):=ve D' (zR (2*S+Q+1) hn);exact ⟨λ_=>S+Q,hb,λ k _=>by show 3*S+n*(S+(S+Q)+1)<=_;omega,by show S+Q<=_;omega,hX⟩
theorem AoO (N:ay L) (q q1 q2 q3:Bool) (aw bw:List (List BI)) (n w k K0:Nat) (kn:aw.length=n) (jr : ∀ r∈aw,r.length=n) (ny:bw.length=n) (vg : ∀ r∈bw,r.length=w) (hn:1<=n/\n<=52) (hw:1<=w/\w<=52) (Nc:k<=K0) (Je:1<=K0) (Dr:FQ k aw) (Dt:FQ k bw)
  (vq : ∀ r∈GT (vM aw) (vM bw),∀ j,Bt K0 (FO (r.take j))) (Ep:Ms K0 (whole (GT (vM aw) (vM bw))))
  (hB:6^n*K0<=1000000000000) {B0:Nat} (Ge:iY (vM aw) (vM bw) n w (6^n*K0) B0) :
  ∃ v,Ev L 235 [.sl q (FW q1 aw),.sl q2 (FW q3 bw)] v/\((¬ NS n (vM aw)/\v = .e9 [.sl false [],.int .i64 11])\/(NS n (vM aw) /\ ∃ y:Nat->Z_,v = .e9 [.sl false (eM (RI y n w)),.int .i64 0] /\
   ∀ c,c<w->(y c).length=n/\Bs B0 (y c) /\ ∀ (i:Nat) (r s:Z_),(vM aw)[i]? = some r->(vM bw)[i]? = some s->B4 r (y c)=s.getD c 0)):=by
 obtain ⟨a,ax⟩ : ∃ a,vM aw=a:=⟨_,rfl⟩;obtain ⟨b,fc⟩ : ∃ b,vM bw=b:=⟨_,rfl⟩;rw[ax,fc]at vq Ep Ge ⊢;have ig:a.length=n:=ax ▸ Z2 kn;have ud : ∀ r∈a,r.length=n:=ax ▸ iJ jr;have tz:Ms k a:=ax ▸ Dr.ms;have ue:b.length=n:=fc ▸ Z2 ny;have Dm : ∀ r∈b,r.length=w:=fc ▸ iJ vg;have Ab:Ms k b:=fc ▸ Dt.ms;have Hs:=AeX kn ny;obtain ⟨Mz,My⟩:=AeW jr vg Dr Dt;have Qm:vM (HV aw bw)=GT a b:=by rw[Zo,ax,fc]
 have hI:=QL N.toa7 1 D';have jy:(GT a b).length=n:=by simp [GT,ig,ue]
 have hjw : ∀ r∈GT a b,r.length=n+w:=λ r hr=>by
  obtain ⟨i,hi⟩:=te hr;have dw:=(zS hi).1;obtain ⟨x,hx⟩:=X_ a i;obtain ⟨y,hy⟩:=X_ b i;obtain rfl:=uc ((sK hx hy).symm.trans hi);rw[Gb,ud x (zM hx),Dm y (zM hy)]
 have Mx:Ms k (GT a b):=λ r hr=>by
  obtain ⟨i,hi⟩:=te hr;have dw:=(zS hi).1;obtain ⟨x,hx⟩:=X_ a i;obtain ⟨y,hy⟩:=X_ b i;obtain rfl:=uc ((sK hx hy).symm.trans hi);intro z hz;rcases Ae.1 hz with hz|hz
  ·exact tz.at hx z hz
  ·exact Ab.at hy z hz
 refine Ev.xE N.NP rfl rfl ?_;repeat' (first|apply BW|apply AQ)<;>conv=>whnf
 unfold F5;refine ⟨⟨D',D',by simp only[H8];omega,D'⟩,?_⟩;rw[Ad,kn];conv=>whnf
 skip
 refine Ah2 22 22 n rfl ?_;refine GV (λ i=>n-i) (λ(i:Nat)=>i<=n) (λ i=>[(25,.int .i64 i)]) (λ i=>[(22,22,.rw 1 ((fz none (((HV aw bw).take i).map some) n).map yG))]) [] [] 0 (by first|exact w_|(rw[od,Af,show fz (none:Option (List BI)) [] n=jb n none by simp [fz],List.map_replicate];exact w_)) D' ?_;intro i p1 ih;by_cases hi:i<n
 ·obtain ⟨r,z7⟩:=X_ aw i
  obtain ⟨s,jn⟩:=X_ bw i;have nh:aw[(i:Int).toNat]? = some r:=z7;have Cd:bw[(i:Int).toNat]? = some s:=jn;have ff:=jr r (zM z7);have Gf:=vg s (zM jn);have hCc:=Ann N true q1 q3 r s D' D' D';have Cw:(((HV aw bw).take i).map some).length=i:=by rw[ta,Sa];omega
  have jk:=nB (z:=(none:Option (List BI))) (l:=((HV aw bw).take i).map some) (m:=n) D';have pt:=nC (z:=(none:Option (List BI))) (x:=some (r++s)) (l:=((HV aw bw).take i).map some) (m:=n) D';have hta:(HV aw bw).take (i+1)=(HV aw bw).take i++[r++s]:=by rw[Pc,Yr z7 jn];rfl
  rw[Cw,show ((HV aw bw).take i).map some++[some (r++s)]=((HV aw bw).take (i+1)).map some by rw[hta,yf];rfl]at pt;generalize fz (none:Option (List BI)) (((HV aw bw).take i).map some) n=J at *;repeat' (first|(apply A7<;>intro hc<;>try omega)|(apply CB;omega)|(refine CU G' ?_ rfl ?_;omega)|refine iX rfl rfl ?_|apply AQ|refine AU (hCc) ?_)<;>conv=>whnf
  refine LB (enc:=yG) (some (r++s)) rfl (λ e=>by cases e<;>rfl) D' ?_;conv=>whnf
  rw[pt];repeat' (first|(apply B5;omega)|fail)<;>conv=>whnf
  exact DB [] (ih (i+1) D' D')
 have ei:i=n:=D'
 clear ih;rw[ei,zT D',Ao1 Hs];repeat' (first|(apply A7<;>intro hc<;>try omega)|apply AQ)<;>conv=>whnf
 have hKB:K0<=1000000000000:=by simpa using tR hB (ki n)
 refine K5 1000 N.OS rfl rfl ?_;(repeat' (apply AQ<;>conv=>whnf))
 unfold F5;refine ⟨⟨D',D',by simp only[H8];omega,D'⟩,?_⟩;rw[Ad];conv=>whnf
 skip
 refine I2 (enc:=eO) none n rfl D' D' ?_;conv=>whnf
 skip
 refine EA [] w_ (Aso N q q1 q2 q3 aw bw (HV aw bw) n (n+w) k Hs Mz hn D' My (Qm.symm ▸ vq) Nc hKB ?_);rw[Qm];(repeat' (apply AQ<;>conv=>whnf))
 refine ⟨rfl,_,rfl,?_⟩;conv=>whnf
 skip
 have hW2:n+w<=104:=D'
 have hW:n<=n+w:=D'
 have Cc:(whole (GT a b)).length=n:=by simp only[whole,ta];exact jy
 have Nk:=As8 hjw;have Nj:=Ep;have Dx:=As9 (GT a b);have hjj:a.length=b.length:=D'
 clear Mx hjw tz Ab hKB ei hi p1 i vq Ep Nc;generalize whole (GT a b)=m0 at Cc Nk Nj Dx ⊢;refine J1 1000 N.NG rfl rfl ?_;repeat' (first|apply AQ|refine AU (hI) ?_)<;>conv=>whnf
 refine AhZ (λ_ P _ _ _=>n-P.length) (λ(m:Y_) (P:a_) (c:Nat) (odd:Bool) (l:Rat)=>L4 m0 K0 (n+w) n m P c odd l) (λ_ P c odd _=>[(7,.int .i64 (P.length:Nat)),(8,.int .i64 c),(9,.bool odd)]) (λ m _ _ _ l=>[(231016,231016,.mx (DD 3 eQ m)),(233010,233010,.bx (eQ l))]) [] [] m0 [] 0 false ((1:Int):Rat) w_ (L4.start Nk Nj) ?_;intro m P c odd l hE eh;have gx:=hE.len;have Fm:=hE.bj.pl;rw[Cc]at gx;by_cases hP:P.length<n
 ·have hp6:=tR hB (show P.length<=n by omega)
  repeat' (first|(apply A7<;>intro hc<;>try omega)|apply AQ)<;>conv=>whnf
  refine Ah1 (l:=[_,_]) (λ(m1:Y_) (c:Nat) (o:Bool)=>L4 m0 K0 (n+w) n m1 P c o l/\(c<n -> ∃ rp,m1[P.length]? = some rp/\rp.getD c 0≠0)) (λ_ c o=>[(8,.int .i64 c),(9,.bool o)]) (λ m1 _ _=>[(231016,231016,.mx (DD 3 eQ m1))]) [17] rfl ?_ ?_
  ·clear hE gx Fm
   intro m1 c AOv ⟨hE,Qd⟩;have gx:=hE.len;have Fm:=hE.bj.pl;have fe:=hE.cc;rw[Cc]at gx;by_cases Bi:c<n
   ·obtain ⟨rp,Pz,hpn⟩:=Qd Bi
    clear Qd;have hS:=hE.swp Bi Pz hpn;repeat' (first|(apply A7<;>intro hc<;>try omega)|(apply B5;omega)|apply AQ)<;>conv=>whnf
    refine EA [] w_ (Asn N q2 q3 bw (HV aw bw) ((GT a b).map FO) Cc hn hW hW2 Je hB hP Bi hS λ m2 hS => ?_);have Am:=hS.ht;have ANU:=hS.bj.lr rp (zM Am);have Ee:rp[c]? = some (rp.getD c 0):=fW D';have Hw:=hS.len;have gm:=hS.done Je D';have Rs:(P++[c]).length=P.length+1:=p_
    generalize rp.getD c 0=pv at Ee gm;clear hS hE hpn Pz;repeat' (first|(apply CB;omega)|(refine KB ?_ (λ r hr => ?_);omega)|apply AQ)<;>conv=>whnf
    cases Am.symm.trans hr;refine CB U_ ?_;conv=>whnf
    repeat' (first|(apply B5;omega)|(refine KX ?_ (λ_=>rfl) (λ v hv => ?_);omega)|refine K6 G' ?_)<;>conv=>whnf
    cases Ee.symm.trans hv;skip
    rw[show ((P.length:Nat):Int)+1=((P++[c]).length:Nat) by rw[Rs];omega];exact EA [] w_ (eh m2 (P++[c]) (c+1) _ pv (by rw[Rs];omega) gm)
   ·clear eh Qd
    repeat' (first|(apply A7<;>intro hc<;>try omega)|apply AQ)<;>conv=>whnf
    refine ⟨rfl,?_⟩;conv=>whnf
    repeat' (first|(apply A7<;>intro hc<;>try omega)|fail)<;>conv=>whnf
    have ix:n<=c\/n<=P.length:=Or.inl D';have Qg:=AdC (w:=w) hE Dx hjj ud ig ix;skip
    refine ⟨.e9 [.sl false [],.int .i64 11],?_,Or.inl ⟨λ h=>absurd (Qg.2 h) D',rfl⟩⟩;conv=>whnf
    exact B1 rfl (KZ [] 11)
  ·clear eh
   intro Dy;refine GV (λ c=>n-c) (λ(c:Nat)=>L4 m0 K0 (n+w) n m P c odd l) (λ c=>[(8,.int .i64 c)]) (λ_=>[]) [17] [] c w_ hE ?_;clear hE;intro c hE ch;have fe:=hE.cc;by_cases Bi:c<n
   ·repeat' (first|(apply A7<;>intro hc<;>try omega)|apply AQ)<;>conv=>whnf
    refine FP (λ i=>n-i) (λ(i:Nat)=>P.length<=i/\i<=n /\ ∀ (q:Nat) (r:Z_),P.length<=q->q<i->m[q]? = some r->r.getD c 0=0) (λ i=>[(11,.int .i64 i)]) (λ_=>[]) P.length ⟨Cb _,D',λ q r h1 h2=>absurd h1 D'⟩ ?_;intro i ⟨i1,i2,i3⟩ ih;by_cases hi:i<n
    ·obtain ⟨rp,z7⟩:=X_ m i
     have ff:=hE.bj.lr rp (zM z7);have oe:rp[c]? = some (rp.getD c 0):=fW D';have Hj:=mT N.toa7 (hE.ms.at z7 _ (zM oe)) D';have hz:=ZU (x:=rp.getD c 0);generalize Ik:rp.getD c 0=rc at *;generalize ah rc.num=sg at *;by_cases Ce:sg=0
     ·repeat' (first|(apply A7<;>intro hc<;>try omega)|(apply CB;omega)|(refine KB ?_ (λ r hr => ?_);omega)|apply AQ)<;>conv=>whnf
      cases z7.symm.trans hr;refine CB U_ ?_;conv=>whnf
      repeat' (first|(refine KX ?_ (λ_=>rfl) (λ v hv => ?_);omega)|refine K6 G' ?_)<;>conv=>whnf
      cases oe.symm.trans hv;repeat' (first|(apply A7<;>intro hc<;>try omega)|(apply B5;omega)|refine AU (Hj) ?_)<;>conv=>whnf
      refine EA [] w_ (ih (i+1) D' ⟨D',D',λ q x h1 h2 hx => ?_⟩);by_cases e:q=i
      ·subst e
       cases z7.symm.trans hx;rw[Ik];exact hz.1 Ce
      ·exact i3 q x h1 D' hx
     ·clear ih ch
      have Tw:rc≠0:=λ e=>Ce (hz.2 e)
      repeat' (first|(apply A7<;>intro hc<;>try omega)|(apply CB;omega)|(refine KB ?_ (λ r hr => ?_);omega)|apply AQ)<;>conv=>whnf
      cases z7.symm.trans hr;refine CB U_ ?_;conv=>whnf
      repeat' (first|(refine KX ?_ (λ_=>rfl) (λ v hv => ?_);omega)|refine K6 G' ?_)<;>conv=>whnf
      cases oe.symm.trans hv;repeat' (first|(apply A7<;>intro hc<;>try omega)|(apply CB;omega)|(refine KB ?_ (λ r hr => ?_);omega)|refine K6 G' ?_|refine AU (Hj) ?_)<;>conv=>whnf
      ·obtain ⟨t,Kh⟩:=X_ m P.length
       refine CB ⟨rfl,by simp only[DD,ta];omega⟩ ?_;conv=>whnf
       repeat' (first|(apply CB;omega)|refine K6 G' ?_)<;>conv=>whnf
       rw[show 0+((i:Nat):Int).toNat=i by omega,show 0+((P.length:Nat):Int).toNat=P.length by omega];refine CB ⟨rfl,by simp only[DD,ta,Ic,Ni];omega,Ahw (by simp only[DD,ta];omega)⟩ ?_;conv=>whnf
       skip
       have hE2:=hE.swap z7 Kh i1 (Cb _) D';have Lm:c<n -> ∃ rp',((m.set i t).set P.length rp)[P.length]? = some rp'/\rp'.getD c 0≠0:=λ_=>⟨rp,by rw[cd,if_pos rfl,if_pos (by rw[Ic];omega)],by rw[Ik];exact Tw⟩
       generalize hob:(!odd)=ob at *;cases ob;all_goals
        (conv=>whnf)
        skip
        refine pX.go ?_;refine AbK (k:=231016) (i:=i) (j:=P.length) rfl (sU z7) (sU Kh) rfl rfl ?_;rw[AqW];exact EA [] w_ (Dy _ c _ ⟨hE2,Lm⟩)
      ·have ei:i=P.length:=D'
       exact pX.go (EA [] w_ (Dy m c odd ⟨hE,λ_=>⟨rp,by rw[<-ei];exact z7,by rw[Ik];exact Tw⟩⟩))
    ·have ei:i=n:=D'
     clear ih;repeat' (first|(apply A7<;>intro hc<;>try omega)|(apply B5;omega)|apply AQ)<;>conv=>whnf
     exact DB [] (ch (c+1) D' (hE.skip Bi λ q x h1 hx=>i3 q x h1 (by have:=(zS hx).1;omega) hx))
   ·clear ch
    repeat' (first|(apply A7<;>intro hc<;>try omega)|apply AQ)<;>conv=>whnf
    exact pX.go (EA [] w_ (Dy m c odd ⟨hE,λ h=>absurd h Bi⟩))
 ·clear eh
  repeat' (first|(apply A7<;>intro hc<;>try omega)|apply AQ)<;>conv=>whnf
  refine ⟨rfl,?_⟩;conv=>whnf
  repeat' (first|(apply A7<;>intro hc<;>try omega)|fail)<;>conv=>whnf
  have ix:n<=c\/n<=P.length:=Or.inr D';have Qg:=AdC (w:=w) hE Dx hjj ud ig ix;have Jg:P.length=n:=by have:=hE.bj.le;have:=hE.bj.pl;omega
  have gj:=Qg.1 Jg;have Mv:=Asm hE Dx hjj ud Dm Jg gx;have Au4:=AgP hE Jg gx;have hmw:=hE.bj.lr;have um:=hE.ms;have Dl:=hE.bl;have qz:=hE.l0;rw[Jg]at um Dl;clear hE Qg Fm Nj Nk Dx;have Vy : ∀ (e:Nat) (r:Z_),m[e]? = some r->r.getD e 0≠0:=λ e r hr=>by
   rw[<-OD hr];exact (Au4 e (by have:=(zS hr).1;omega)).1
  skip
  unfold F5;refine ⟨⟨D',D',by simp only[H8];omega,D'⟩,?_⟩;rw[Ad];conv=>whnf
  skip
  refine FP (λ u=>n-u) (λ(u:Nat)=>u<=n) (λ u=>[(61,.int .i64 u)]) (λ u=>[(58,58,.mx (jb u (some (3,(IL [] w).map eO))++jb (n-u) none))]) 0 D' ?_;intro u r1 uh;by_cases hu:u<n
  ·obtain ⟨s,jn⟩:=X_ bw u
   have Cd:bw[(u:Int).toNat]? = some s:=jn;have Gf:=vg s (zM jn);repeat' (first|(apply A7<;>intro hc<;>try omega)|apply BW|(refine CU G' ?_ rfl ?_;omega)|apply AQ)<;>conv=>whnf
   rw[Gf];refine I2 (enc:=eO) none w rfl rfl D' ?_;conv=>whnf
   repeat' (first|(apply CB;omega)|fail)<;>conv=>whnf
   unfold BZ FF;refine ⟨p_,by simp;omega,?_⟩;conv=>whnf
   rw[show 0+((u:Int)).toNat=u by omega,<-aT,AoY _ _ r1 hu];repeat' (first|(apply B5;omega)|fail)<;>conv=>whnf
   exact DB [] (uh (u+1) D' D')
  have eu:u=n:=D'
  subst eu;clear uh;obtain ⟨y,hy⟩ : ∃ y:Nat->Z_,y=λ c'=>(HW (u+c') l m 0).map (· / l):=⟨_,rfl⟩
  have Aq : ∀ c',(y c').length=u:=λ c'=>by rw[hy,ta,YY];exact gx
  have Fo:(RI y u w).length=u:=by simp [RI]
  have Hg : ∀ e,e<u->(RI y u w)[e]? = some ((Sc w).map λ c'=>(y c').getD e 0):=λ e he=>by simp [RI,he]
  have hRw : ∀ r∈RI y u w,r.length=w:=λ r hr=>by
   obtain ⟨i,_,rfl⟩:=Sb.1 hr;simp
  rw[show jb u (some (3,Gi eO (IL [] w)))++jb (u-u) none=DD 3 eO (ot (RI y u w) w 0 0) by rw[Arh,Fo];simp [DD]];obtain ⟨s0,jn⟩:=X_ bw 0;have AuT:bw[(0:Int).toNat]? = some s0:=jn;have AuU:=vg s0 (zM jn);generalize hRg:RI y u w=R at Fo Hg hRw ⊢;repeat' (first|(apply A7<;>intro hc<;>try omega)|apply BW|(refine CU G' ?_ rfl ?_;omega)|apply AQ)<;>conv=>whnf
  rw[AuU];refine FP (λ c=>w-c) (λ(c:Nat)=>c<=w) (λ c=>[(78,.int .i64 c)]) (λ c=>[(58,58,.mx (DD 3 eO (ot R w c 0)))]) 0 D' ?_;intro c' r2 ch;by_cases uf:c'<w
  ·obtain ⟨C,wk,Vn,hC3,_⟩:=Ge m l c' uf gx um Dl qz gj (Mv c' uf)
   have Lg:=AnK N true true m u (u+w) (u+c') (6^u*K0) l gx hmw D' D' D' D' Vy um Dl wk Vn;have Pr:=wk 0;rw[vh]at Pr;clear wk Vn;have Km:=YY (u+c') l m 0;have hyc : ∀ (e:Nat) (x:Rat),(HW (u+c') l m 0)[e]? = some x->(y c').getD e 0=x/l:=λ e x hx=>by
    rw[hy,Wa,na,hx];rfl
   rw[gx]at Km;rw[Int.natCast_add]at Lg;generalize HW (u+c') l m 0=xs at Lg Pr Km hyc;repeat' (first|(apply A7<;>intro hc<;>try omega)|(apply B5;omega)|apply AQ)<;>conv=>whnf
   refine RY (λ_=>rfl) rfl D' ?_;conv=>whnf
   repeat' (first|apply BW|refine AU (Lg) ?_)<;>conv=>whnf
   refine FP (λ f=>u-f) (λ(f:Nat)=>f<=u) (λ f=>[(88,.int .i64 f)]) (λ f=>[(58,58,.mx (DD 3 eO (ot R w c' f)))]) 0 D' ?_;intro f r5 fh;by_cases hf2:f<u
   ·obtain ⟨x,hx⟩:=X_ xs f
    have ni:xs[(f:Int).toNat]? = some x:=hx;have bx:=Pr.at hx;have hD:=rV N.toa7 bx Dl D' D' qz;have hPr:=Hg f hf2;have hmc:((Sc w).map λ c'=>(y c').getD f 0)[c']? = some (x/l):=by rw[na,Vd uf,We,hyc f x hx]
    have Aut:((Sc w).map λ c'=>(y c').getD f 0).length=w:=p_
    generalize ((Sc w).map λ c'=>(y c').getD f 0)=row at hPr hmc Aut;have hoa:=tH (n:=w) (j:=c') (i:=f) hPr;rw[if_neg D']at hoa;have hos:=Arg (n:=w) (j:=c') hPr;have Nr:=nQ R w c' f;have Wg:=ZF (l:=row.take c') (m:=w) V_;have m4:=aU (l:=row.take c') (m:=w) (x:=x/l) V_;rw[Sa,pf D',<-VV hmc]at m4;generalize ot R w c' f=O at *;repeat' (first|(apply A7<;>intro hc<;>try omega)|(apply CB;omega)|(refine CU G' ?_ rfl ?_;omega)|(refine KB ?_ (λ r hr => ?_);omega)|apply AQ|refine AU (hD) ?_)<;>conv=>whnf
    cases hoa.symm.trans hr;skip
    have ANy:=ZF (l:=row.take (c'+1)) (m:=w) V_;refine CB U_ ?_;conv=>whnf
    repeat' (first|refine K6 G' ?_|fail)<;>conv=>whnf
    refine LB (enc:=eO) (some (x/l)) rfl (λ e=>by cases e<;>rfl) D' ?_;conv=>whnf
    rw[m4];refine vT D' ?_;rw[hos];conv=>whnf
    repeat' (first|(apply B5;omega)|fail)<;>conv=>whnf
    exact DB [] (fh (f+1) D' D')
   have ef:f=u:=D'
   clear fh;have Gc:=Arf R w c';rw[Fo]at Gc;rw[ef,Gc];repeat' (first|(apply A7<;>intro hc<;>try omega)|(apply B5;omega)|apply AQ)<;>conv=>whnf
   exact DB [] (ch (c'+1) D' D')
  have ec:c'=w:=D'
  clear ch;rw[ec,Are hRw];repeat' (first|(apply A7<;>intro hc<;>try omega)|apply AQ)<;>conv=>whnf
  refine ⟨.e9 [.sl false (eM R),.int .i64 0],?_,Or.inr ⟨gj,y,by rw[<-hRg],λ c2 uf=>⟨Aq c2,?_,λ i r s h1 h2=>by rw[hy];exact Mv c2 uf i r s h1 h2⟩⟩⟩
  ·(conv=>whnf)
   refine RY (λ_=>rfl) rfl D' ?_;conv=>whnf
   exact B1 rfl (KZ R 0)
  ·rw[hy]
   obtain ⟨C,_,_,_,h4⟩:=Ge m l c2 uf gx um Dl qz gj (Mv c2 uf);exact h4
theorem Aq8 {x:Rat} {b:Z_} {i:Nat} (h:b[i]? = some x):(b.map λ x=>[x])[i]? = some [x]:=by rw[na,h];rfl
theorem AcH (y:Z_) (e:Int):CI (.e9 [.sl false (y.map eQ),.int .i64 e]):=by
 simp only[CI,ES,and_true,true_and];exact OL y
def XN (x:BI):b_:=some (3,[eW x])
theorem pG (b:List BI):vM (b.map λ x=>[x])=(b.map BI.v).map λ x=>[x]:=by simp [vM,Wc,Uf]
def Fs (k:Nat) (r:List BI):Prop := ∀ x∈r,x.Fit k
theorem Fs.of {k:Nat} {r:Z_} (h:Bs k r) (hk:k<2199023255552):Fs k (wR r):=λ x hx=>by
 obtain ⟨y,hy,rfl⟩:=Sb.1 hx;exact jU (h y hy) hk
theorem Fs.bs {k:Nat} {r:List BI} (h:Fs k r):Bs k (r.map BI.v):=λ x hx=>by
 obtain ⟨y,hy,rfl⟩:=Sb.1 hx;exact (h y hy).1
theorem Anv (N:ay L) (q q1 q2:Bool) (aw:List (List BI)) (bw:List BI) (n k K0:Nat) (kn:aw.length=n) (jr : ∀ r∈aw,r.length=n) (ny:bw.length=n) (hn:1<=n/\n<=52) (Nc:k<=K0) (Je:1<=K0) (Dr:FQ k aw) (Dt:Fs k bw)
  (vq : ∀ r∈GT (vM aw) ((bw.map BI.v).map λ x=>[x]),∀ j,Bt K0 (FO (r.take j))) (Ep:Ms K0 (whole (GT (vM aw) ((bw.map BI.v).map λ x=>[x]))))
  (hB:6^n*K0<=1000000000000) {B0:Nat} (Ge:iY (vM aw) ((bw.map BI.v).map λ x=>[x]) n 1 (6^n*K0) B0) :
  ∃ v,Ev L 237 [.sl q (FW q1 aw),.sl q2 (bw.map eW)] v/\((¬ NS n (vM aw)/\v = .e9 [.sl false [],.int .i64 11])\/(NS n (vM aw) /\ ∃ y:Z_,v = .e9 [.sl false (y.map eQ),.int .i64 0] /\
   y.length=n/\Bs B0 y /\ ∀ (i:Nat) (r:Z_) (s:Rat),(vM aw)[i]? = some r->(bw.map BI.v)[i]? = some s->B4 r y=s)):=by
 obtain ⟨a,ax⟩ : ∃ a,vM aw=a:=⟨_,rfl⟩;obtain ⟨b,fc⟩ : ∃ b,bw.map BI.v=b:=⟨_,rfl⟩;have hV:=AnU N q q1 aw n n kn jr hn hn;obtain ⟨r0,z7⟩:=X_ aw 0;have Nu:aw[(0:Int).toNat]? = some r0:=z7;have qz:=jr r0 (zM z7);obtain ⟨v,hS,gn⟩:=AoO N q q1 true true aw (bw.map λ x=>[x]) n 1 k K0 kn jr (by rw[ta];exact ny) (λ r hr=>by obtain ⟨x,_,rfl⟩:=Sb.1 hr;rfl) hn D' Nc Je Dr (λ r hr=>by
  obtain ⟨x,hx,rfl⟩:=Sb.1 hr;intro z hz;obtain rfl:=Tf.1 hz;exact Dt z hx) (by rw[pG];exact vq) (by rw[pG];exact Ep) hB (by rw[pG];exact Ge)
 rw[pG,ax,fc]at gn;rw[ax,fc];refine Ev.xE N.R7 rfl rfl ?_;repeat' (first|(apply A7<;>intro hc<;>try omega)|apply BW|(refine CU G' ?_ rfl ?_;omega)|apply AQ|refine AU (hV) ?_)<;>conv=>whnf
 unfold F5;refine ⟨⟨D',D',by simp only[H8];omega,D'⟩,?_⟩;rw[Ad,ny];conv=>whnf
 (repeat' (apply BW<;>conv=>whnf))
 refine GV (λ i=>n-i) (λ(i:Nat)=>i<=n) (λ i=>[(35,.int .i64 i)]) (λ i=>[(32,32,.mx (fz none ((bw.take i).map XN) n))]) [] [] 0 (by first|exact w_|(rw[od,Af,show fz (none:b_) [] n=jb n none by simp [fz]];exact w_)) D' ?_;intro i p1 ih;have jk:=nB (z:=(none:b_)) (l:=(bw.take i).map XN) (m:=n) (by rw[ta,Sa];omega);by_cases hi:i<n
 ·obtain ⟨x,hx⟩:=X_ bw i
  have ni:bw[(i:Int).toNat]? = some x:=hx;have pt:=nC (z:=(none:b_)) (x:=XN x) (l:=(bw.take i).map XN) (m:=n) (by rw[ta,Sa];omega);rw[ta,Sa,pf D',show (bw.take i).map XN++[XN x]=(bw.take (i+1)).map XN by rw[Pc,hx,yf];rfl]at pt;generalize fz (none:b_) ((bw.take i).map XN) n=J at *;have Auc:J.set i (some (3,[[AV.bool x.n,AV.sl false (x.m.map BK),AV.sl false (x.d.map BK)]]))=fz none ((bw.take (i+1)).map XN) n:=pt;repeat' (first|(apply A7<;>intro hc<;>try omega)|(apply CB;omega)|(refine CU G' ?_ rfl ?_;omega)|apply AQ)<;>conv=>whnf
  unfold BZ FF;refine ⟨p_,D',?_⟩;conv=>whnf
  rw[show 0+((i:Int)).toNat=i by omega,Auc];repeat' (first|(apply B5;omega)|fail)<;>conv=>whnf
  exact DB [] (ih (i+1) D' D')
 have ei:i=n:=D'
 clear ih jk;rw[ei,zT D',nA (by rw[ta];exact ny),show bw.map XN=DD 3 eW (bw.map λ x=>[x]) by rw[DD,Wc];rfl];repeat' (first|(apply A7<;>intro hc<;>try omega)|(refine RY (λ_=>rfl) rfl ?_ ?_;(first|rfl|simp))|apply AQ)<;>conv=>whnf
 ·exact ny.symm
 (conv=>whnf)
 rcases gn with ⟨gj,rfl⟩|⟨gj,y,rfl,hy⟩
 ·repeat' (first|(apply A7<;>intro hc<;>try omega)|refine AU (hS) ?_)<;>conv=>whnf
  refine ⟨.e9 [.sl false [],.int .i64 11],?_,Or.inl ⟨gj,rfl⟩⟩;conv=>whnf
  exact B1 rfl (KZ [] 11)
 ·obtain ⟨Aq,Es,Et⟩:=hy 0 D'
  have Hg : ∀ e,e<n->(RI y n 1)[e]? = some [(y 0).getD e 0]:=λ e he=>by simp [RI,he]
  have Fo:(RI y n 1).length=n:=by simp [RI]
  generalize RI y n 1=R at *;repeat' (first|(apply A7<;>intro hc<;>try omega)|apply BW|refine AU (hS) ?_)<;>conv=>whnf
  rw[Fo];refine I2 (enc:=eO) none n rfl rfl D' ?_;conv=>whnf
  (repeat' (apply BW<;>conv=>whnf))
  refine GV (λ e=>n-e) (λ(e:Nat)=>e<=n) (λ e=>[(60,.int .i64 e)]) (λ e=>[(57,57,.rw 3 ((IL ((y 0).take e) n).map eO))]) [] [] 0 (by first|exact w_|(rw[od,<-aT];exact w_)) D' ?_;intro e p2 eh;have Wg:=ZF (l:=(y 0).take e) (m:=n) V_;by_cases he2:e<n
  ·obtain ⟨x,hx⟩:=X_ (y 0) e
   have m4:=aU (l:=(y 0).take e) (m:=n) (x:=x) V_;rw[Sa,pf D',<-VV hx]at m4;have hRe:=Hg e he2;rw[show (y 0).getD e 0=x by rw[Wa,hx];rfl]at hRe;have AMQ:R[(e:Int).toNat]? = some [x]:=hRe;have Cx:[x][(0:Int).toNat]? = some x:=rfl;generalize IL ((y 0).take e) n=F0 at *;repeat' (first|(apply A7<;>intro hc<;>try omega)|(apply CB;omega)|(refine CU G' ?_ rfl ?_;omega)|apply AQ)<;>conv=>whnf
   refine LB (enc:=eO) (some x) rfl (λ e=>by cases e<;>rfl) D' ?_;conv=>whnf
   rw[m4];repeat' (first|(apply B5;omega)|fail)<;>conv=>whnf
   exact DB [] (eh (e+1) D' D')
  have ee:e=n:=D'
  clear eh;rw[ee,zT D',aS Aq];repeat' (first|(apply A7<;>intro hc<;>try omega)|apply AQ)<;>conv=>whnf
  refine ⟨.e9 [.sl false ((y 0).map eQ),.int .i64 0],?_,Or.inr ⟨gj,y 0,rfl,Aq,Es,λ i r s h1 h2 => ?_⟩⟩
  ·(conv=>whnf)
   refine G9 (enc:=eQ) (λ_=>rfl) rfl Aq.symm ?_;conv=>whnf
   exact B1 rfl (AcH (y 0) 0)
  ·exact Et i r [s] h1 (Aq8 h2)
theorem Anw (N:ay L) (q q1 q2:Bool) (a:Y_) (b:Z_) (n k K0:Nat) (ig:a.length=n) (ud : ∀ r∈a,r.length=n) (ue:b.length=n) (hn:1<=n/\n<=52) (Nc:k<=K0) (Je:1<=K0) (tz:Ms k a) (Ab:Bs k b)
  (vq : ∀ r∈GT a (b.map λ x=>[x]),∀ j,Bt K0 (FO (r.take j))) (Ep:Ms K0 (whole (GT a (b.map λ x=>[x]))))
  (hB:6^n*K0<=1000000000000) {B0:Nat} (Ge:iY a (b.map λ x=>[x]) n 1 (6^n*K0) B0) :
  ∃ v,Ev L 237 [.sl q (L6 q1 a),.sl q2 (b.map eQ)] v/\((¬ NS n a/\v = .e9 [.sl false [],.int .i64 11])\/(NS n a /\ ∃ y:Z_,v = .e9 [.sl false (y.map eQ),.int .i64 0] /\
   y.length=n/\Bs B0 y /\ ∀ (i:Nat) (r:Z_) (s:Rat),a[i]? = some r->b[i]? = some s->B4 r y=s)):=by
 have pc:k<2199023255552:=by
  have:=tR hB (ki n)
  rw[tj,cg]at this;omega
 have:=Anv N q q1 q2 (wM a) (wR b) n k K0 (vC ig) (vD ud) (by rw[wR,ta];exact ue) hn Nc Je (FQ.of tz pc) (Fs.of Ab pc) (by rw[Z3,RS];exact vq) (by rw[Z3,RS];exact Ep) hB (by rw[Z3,RS];exact Ge)
 rw[rP,V2,Z3,RS]at this;exact this
theorem Arp (x:Rat):qv false (dg x.num.natAbs) (dg x.den)=KC x:=by
 unfold KC;split
 ·rename_i h
  have:=H6 (-x)
  rw[wi,Uh,ui,show decide (-x.num<0)=false from decide_eq_false D']at this;exact this
 ·rename_i h
  have:=H6 x
  rw[show decide (x.num<0)=false from decide_eq_false h]at this;exact this
theorem Ani (N:ma L) {x:Rat} {k:Nat} (hx:Bt k x) (hk:k<2199023255552):Ev L 256 [.agg (eQ x)] (.agg (eQ (KC x))):=by
 have hs:=hx.sm hk;have hT:=sA N.toa7 false false false (dg x.num.natAbs) (dg x.den) (hs.1.le D') (hs.2.le D');rw[Arp]at hT;refine Ev.x N.bV rfl rfl ?_;repeat' (first|apply AQ|refine AU (hT) ?_)<;>conv=>whnf
 exact B1 rfl (GD _)
theorem Ady (z:Int):eQ (z:Rat)=[.bool (decide (z<0)),.sl false ((dg z.natAbs).map BK),.sl false [[.int .u32 1]]]:=by
 simp only[eQ,rQ,Mi,Ki,xK];rfl
theorem Afz {T:Y_} {n i:Nat} (hl:T.length=n) (hi:i<n):(mz T n i)[i]? = some none:=by
 have lv:(DD 3 eQ (T.take i)).length=i:=by simp only[DD,ta,Sa];omega
 have:=Ao0 (z:=(none:b_)) (l:=DD 3 eQ (T.take i)) (m:=n) D'
 rw[lv]at this;exact this
theorem xF {k:Nat} {x:Rat} (h:Bt k x):Bt k ((x.den:Nat):Rat):=by
 refine ⟨?_,?_⟩
 ·rw[vf,zc];exact h.2
 ·rw[rf];exact Jf
theorem AlT (x:Rat):((x.den:Nat):Rat)≠0:=λ e=>by
 have:((x.den:Nat):Rat)=((0:Nat):Rat):=e
 have:=Eg.1 this
 have:=x.den_pos
 omega
theorem Aoa (N:di L) {x:Rat} {k:Nat} (hx:Bt k x) (hk:k<2199023255552):Ev L 294 [.agg (eQ x)] (.agg (eQ ((x.den:Nat):Rat))):=by
 have hT:=zB N.toa7 hx hk;have q5:=GD ((x.den:Nat):Rat);have e:eQ ((x.den:Nat):Rat)=[.bool false,.sl false ((dg x.den).map BK),.sl false [[.int .u32 1]]]:=by
  rw[<-xc,Ady,zc,show decide (((x.den:Nat):Int)<0)=false by simp]
 rw[e]at q5 ⊢;refine Ev.x N.XT rfl rfl ?_;repeat' (first|refine OA rfl ?_|apply AQ|refine AU (hT) ?_)<;>conv=>whnf
 exact B1 rfl q5
abbrev xZ (q:Bool) (x:Rat):d_:=rQ q q (decide (x.num<0)) (dg x.num.natAbs) (dg x.den)
theorem AoM (N:a7 L) (q:Bool) {x:Rat} {k:Nat} (hx:Bt k x) (hk:k<2199023255552):Ev L 97 [.agg (xZ q x)] (.int .i64 (ah x.num)):=by
 have hs:=hx.sm hk;have:=Aed N (decide (x.num<0)) q q (dg x.num.natAbs) (dg x.den) (hs.1.le D') (hs.2.le D')
 rwa [H6]at this
theorem AnZ (N:a7 L) (q:Bool) {x y:Rat} {k l:Nat} (hx:Bt k x) (hy:Bt l y) (hk:k<2199023255552) (hl:l<2199023255552):Ev L 99 [.agg (eQ x),.agg (xZ q y)] (.agg (eQ (x*y))):=by
 have h1:=hx.sm hk;have h2:=hy.sm hl;have:=jQ N 68719476736 D' (decide (x.num<0)) (decide (y.num<0)) false false q q (dg x.num.natAbs) (dg x.den) (dg y.num.natAbs) (dg y.den) h1.1 h1.2 h2.1 h2.2
 rwa [H6,H6]at this
theorem Ai3 {R:List (b_)} {e:Nat} {r:b_} {K:b_->Prop} (h:R[e]? = some r) (hk:K r):EF R e K:=by
 unfold EF;exact ⟨r,h,hk⟩
theorem Zg {α:Type} {a b:List α} {j:Nat} {x:α} (hl:a.length=b.length) (hx:b[j]? = some x):(a.take j++b.drop j)[j]? = some x:=by
 have h1:=(zS hx).1;have ht:(a.take j).length=j:=by rw[Sa];omega
 rw[Vc D',ht,Sd,Te];exact hx
theorem Zh {α:Type} {a b:List α} {j:Nat} {y:α} (hl:a.length=b.length) (hy:a[j]? = some y):(a.take j++b.drop j).set j y=a.take (j+1)++b.drop (j+1):=by
 have h1:=(zS hy).1;have ht:(a.take j).length=j:=by rw[Sa];omega
 rw[Td _ _ D',ht,Sd,xd D',ye,Pc,hy,Bd];rfl
def JX (k0:Nat):Nat->Nat
 | 0=>k0
 | c+1=>4*JX k0 c+1
theorem Agb (k0:Nat) {c:Nat} : ∀ d,JX k0 c<=JX k0 (c+d)
 | 0=>Cb _
 | d+1=>by
  have:=Agb k0 (c:=c) d
  show JX k0 c<=4*JX k0 (c+d)+1;omega
structure FU where
 a:List (List BI)
 b:List BI
 c:List BI
 d:BI
abbrev J3 (S:FU):d_:=[.sl false (FW false S.a),.sl false (S.b.map eW),.sl false (S.c.map eW)]++eW S.d
def FU.v (S:FU):G3:=⟨vM S.a,S.b.map BI.v,S.c.map BI.v,S.d.v⟩
def FU.Fit (k:Nat) (S:FU):Prop:=FQ k S.a/\Fs k S.b/\Fs k S.c/\S.d.Fit k
def IM (S:FU):Bool:=decide (S.a.length<=64)&&decide (S.b.length=S.a.length)&&decide (S.c.length=S.a.length)&&S.a.all λ r=>decide (r.length=S.a.length)
theorem iA {S:FU}:IM S=true↔S.a.length<=64/\S.b.length=S.a.length/\S.c.length=S.a.length /\ ∀ r∈S.a,r.length=S.a.length:=by
 simp only[IM,Wb,decide_eq_true_eq,ie,and_assoc]
theorem FU.ok {S:FU} {k:Nat} (hs:IM S=true) (hf:S.Fit k):S.v.Ok S.a.length k:=by
 obtain ⟨h1,h2,h3,h4⟩:=iA.1 hs;obtain ⟨f1,f2,f3,f4⟩:=hf;exact ⟨Z2 rfl,iJ h4,by rw[FU.v,ta];exact h2,by rw[FU.v,ta];exact h3,f1.ms,f2.bs,f3.bs,f4.1⟩
theorem Any (N:o6 L) (S:FU) (ha:S.a.length<=9223372036854775807/\S.b.length<=9223372036854775807/\S.c.length<=9223372036854775807):Ev L 130 [.agg (J3 S)] (.bool (IM S)):=by
 obtain ⟨a1,a2,a3⟩:=ha;by_cases h1:S.a.length<=64
 ·by_cases h2:S.b.length=S.a.length
  ·by_cases h3:S.c.length=S.a.length
   ·rw[IM,decide_eq_true h1,decide_eq_true h2,decide_eq_true h3,ze,ze,ze]
    refine Ev.x N.MU rfl rfl ?_;repeat' (first|(apply A7<;>intro hc<;>try omega)|apply BW|apply AQ)<;>conv=>whnf
    refine FP (λ i=>S.a.length-i) (λ(i:Nat)=>i<=S.a.length /\ ∀ (j:Nat) (r:List BI),j<i->S.a[j]? = some r->decide (r.length=S.a.length)=true) (λ i=>[(28,.int .i64 i)]) (λ_=>[]) 0 ⟨D',λ j x h _=>absurd h D'⟩ ?_;intro i ⟨p1,p2⟩ ih;by_cases hi:i<S.a.length
    ·obtain ⟨r,hr⟩:=X_ S.a i hi
     have nh:S.a[(i:Int).toNat]? = some r:=hr;by_cases ff:r.length=S.a.length
     ·repeat' (first|(apply A7<;>intro hc<;>try omega)|(apply B5;omega)|apply BW|(refine CU G' ?_ rfl ?_;omega)|apply AQ)<;>conv=>whnf
      exact DB [] (ih (i+1) D' ⟨D',λ j y hj hy=>by
       by_cases e:j=i
       ·subst e;rw[hr]at hy;obtain rfl:=uc hy;exact decide_eq_true ff
       ·exact p2 j y D' hy⟩)
     ·rw[lT hr (decide_eq_false ff)]
      clear ih p2;repeat' (first|(apply A7<;>intro hc<;>try omega)|apply BW|(refine CU G' ?_ rfl ?_;omega)|apply AQ)<;>conv=>whnf
      exact HK rfl
    ·obtain rfl:i=S.a.length:=D'
     clear ih;rw[lS λ j x hx=>p2 j x (zS hx).1 hx];repeat' (first|(apply A7<;>intro hc<;>try omega)|apply AQ)<;>conv=>whnf
     exact HK rfl
   ·rw[IM,decide_eq_false h3,Nf,Uc]
    refine Ev.x N.MU rfl rfl ?_;repeat' (first|(apply A7<;>intro hc<;>try omega)|apply BW|apply AQ)<;>conv=>whnf
    exact HK rfl
  ·rw[IM,decide_eq_false h2,Nf,Uc,Uc]
   refine Ev.x N.MU rfl rfl ?_;repeat' (first|(apply A7<;>intro hc<;>try omega)|apply BW|apply AQ)<;>conv=>whnf
   exact HK rfl
 ·rw[IM,decide_eq_false h1,Uc,Uc,Uc]
  refine Ev.x N.MU rfl rfl ?_;repeat' (first|(apply A7<;>intro hc<;>try omega)|apply BW|apply AQ)<;>conv=>whnf
  exact HK rfl
theorem yK (N:o6 L) (S:FU) (ha:S.a.length<=9223372036854775807/\S.b.length<=9223372036854775807/\S.c.length<=9223372036854775807):Ev L 136 [.agg (J3 S)] (.bool (IM S)):=by
 obtain ⟨a1,a2,a3⟩:=ha;by_cases h1:S.a.length<=64
 ·by_cases h2:S.b.length=S.a.length
  ·by_cases h3:S.c.length=S.a.length
   ·rw[IM,decide_eq_true h1,decide_eq_true h2,decide_eq_true h3,ze,ze,ze]
    refine Ev.x N.NW rfl rfl ?_;repeat' (first|(apply A7<;>intro hc<;>try omega)|apply BW|apply AQ)<;>conv=>whnf
    refine FP (λ i=>S.a.length-i) (λ(i:Nat)=>i<=S.a.length /\ ∀ (j:Nat) (r:List BI),j<i->S.a[j]? = some r->decide (r.length=S.a.length)=true) (λ i=>[(4,.int .i64 i)]) (λ_=>[]) 0 ⟨D',λ j x h _=>absurd h D'⟩ ?_;intro i ⟨p1,p2⟩ ih;by_cases hi:i<S.a.length
    ·obtain ⟨r,hr⟩:=X_ S.a i hi
     have nh:S.a[(i:Int).toNat]? = some r:=hr;by_cases ff:r.length=S.a.length
     ·repeat' (first|(apply A7<;>intro hc<;>try omega)|(apply B5;omega)|apply BW|(refine CU G' ?_ rfl ?_;omega)|apply AQ)<;>conv=>whnf
      exact DB [] (ih (i+1) D' ⟨D',λ j y hj hy=>by
       by_cases e:j=i
       ·subst e;rw[hr]at hy;obtain rfl:=uc hy;exact decide_eq_true ff
       ·exact p2 j y D' hy⟩)
     ·rw[lT hr (decide_eq_false ff)]
      clear ih p2;repeat' (first|(apply A7<;>intro hc<;>try omega)|apply BW|(refine CU G' ?_ rfl ?_;omega)|apply AQ)<;>conv=>whnf
      exact HK rfl
    ·obtain rfl:i=S.a.length:=D'
     clear ih;rw[lS λ j x hx=>p2 j x (zS hx).1 hx];repeat' (first|(apply A7<;>intro hc<;>try omega)|apply AQ)<;>conv=>whnf
     exact HK rfl
   ·rw[IM,decide_eq_false h3,Nf,Uc]
    refine Ev.x N.NW rfl rfl ?_;repeat' (first|(apply A7<;>intro hc<;>try omega)|apply BW|apply AQ)<;>conv=>whnf
    exact HK rfl
  ·rw[IM,decide_eq_false h2,Nf,Uc,Uc]
   refine Ev.x N.NW rfl rfl ?_;repeat' (first|(apply A7<;>intro hc<;>try omega)|apply BW|apply AQ)<;>conv=>whnf
   exact HK rfl
 ·rw[IM,decide_eq_false h1,Uc,Uc,Uc]
  refine Ev.x N.NW rfl rfl ?_;repeat' (first|(apply A7<;>intro hc<;>try omega)|apply BW|apply AQ)<;>conv=>whnf
  exact HK rfl
theorem rU (N:o6 L) (aw bw:List BI) (q1 q2:Bool) (k s:Nat) (hl:aw.length=bw.length) (haf:Fs k aw) (Jo:Fs s bw) (hK:aw.length*(k+s+1)+k+s<2199023255552) (ig:aw.length<=1099511627776):Ev L 137 [.sl q1 (aw.map eW),.sl q2 (bw.map eW)] (.agg (eQ (B4 (aw.map BI.v) (bw.map BI.v)))):=by
 have hO:=ZB N.toa8 0 D';have ha:=haf.bs;have hb:=Jo.bs;have Hu:(aw.map BI.v).length=aw.length:=ta ..;have hlb:(bw.map BI.v).length=bw.length:=ta ..;have hax : ∀ (i:Nat) (w:BI),aw[i]? = some w->(aw.map BI.v)[i]? = some w.v:=λ i w h=>by rw[na,h];rfl
 have hbx : ∀ (i:Nat) (w:BI),bw[i]? = some w->(bw.map BI.v)[i]? = some w.v:=λ i w h=>by rw[na,h];rfl
 generalize aw.map BI.v=a at *;generalize bw.map BI.v=b at *;refine Ev.x N.VI rfl rfl ?_;repeat' (first|apply AQ|refine AU (hO) ?_)<;>conv=>whnf
 refine LJ (λ i _=>aw.length-i) (λ(i:Nat) (acc:Rat)=>i<=aw.length/\acc=B4 (a.take i) (b.take i)) (λ i acc=>[(6,.int .i64 i)]) (λ i acc=>[(5,5,.bx (eQ acc))]) 0 ((0:Int):Rat) ⟨D',by simp [B4]⟩ ?_;intro i acc ⟨p1,p2⟩ ih;by_cases hi:i<aw.length
 ·obtain ⟨xw,ka⟩:=X_ aw i hi
  obtain ⟨yw,Ex⟩:=X_ bw i;have ni:aw[(i:Int).toNat]? = some xw:=ka;have Cy:bw[(i:Int).toNat]? = some yw:=Ex;obtain ⟨bx,fx⟩:=haf xw (zM ka);obtain ⟨De,fy⟩:=Jo yw (zM Ex);have hx:=hax i xw ka;have hy:=hbx i yw Ex;have hM:=aQ N.toa8 fx fy (Cb _) (Cb _);generalize xw.v=x at *;generalize yw.v=y at *;have Lv:Bt (aw.length*(k+s+1)) acc:=by
   rw[p2];have:=(ha.take i).dot (hb.take i)
   refine this.le (zR _ ?_);rw[Sa];omega
  have hA:=Y6 N.toa8 Lv (bx.mul De) D' D';have m4:=fD hx hy;repeat' (first|(apply A7<;>intro hc<;>try omega)|(apply B5;omega)|apply BW|(refine CU G' ?_ rfl ?_;omega)|apply AQ|refine AU (hM) ?_|refine AU (hA) ?_)<;>conv=>whnf
  refine EA [] w_ (ih (i+1) (acc+x*y) D' ⟨D',?_⟩);rw[m4,<-p2]
 ·obtain rfl:i=aw.length:=D'
  clear ih;rw[aL Hu]at p2;rw[<-p2];repeat' (first|(apply A7<;>intro hc<;>try omega)|apply BW|apply AQ)<;>conv=>whnf
  exact B1 rfl (GD _)
theorem Anu (N:o6 L) (SW:FU) (S:G3) (Jm:SW.v=S) (n k:Nat) (KK:Nat->Nat) (h:S.Ok n k) (hF:SW.Fit k) (Ny:IM SW=true) (hn:n<=64) (st xs:Z_) (q1 q2:Bool) (m4:st.length=n) (Vk:Bs k xs) (Km:xs.length<=4096)
  (Hd : ∀ i,i<=xs.length->Bs (KK i) (S.state st (xs.take i))) (hK : ∀ i,i<xs.length->n*(k+KK i+1)+(k+k)+1<1099511627776) (hK1 : ∀ i,i<=xs.length->KK i<1099511627776) (hk0:k<1099511627776) :
  Ev L 139 [.agg (J3 SW),.sl q1 (st.map eQ),.sl q2 (xs.map eQ)] (.e9 [.sl false ((S.outs st xs).map eQ),.sl false ((S.state st xs).map eQ),.int .i64 0]):=by
 obtain ⟨d1,d2,d3,d4⟩:=iA.1 Ny;have xv:=yK N SW D';rw[Ny]at xv;have Uu:SW.c.map BI.v=S.c:=by rw[<-Jm];rfl
 have hvd:SW.d.v=S.d:=by rw[<-Jm];rfl
 have ax : ∀ (j:Nat) (r:List BI),SW.a[j]? = some r->S.a[j]? = some (r.map BI.v)/\Fs k r:=λ j r hr=>⟨by rw[<-Jm];exact J5 hr,hF.1 r (zM hr)⟩
 have fc : ∀ (j:Nat) (r:BI),SW.b[j]? = some r->S.b[j]? = some r.v/\r.Fit k:=λ j r hr=>⟨by rw[<-Jm];exact lC hr,hF.2.1 r (zM hr)⟩
 have Hu:=h.la;have hlb:=h.lb;have wu:=h.lc;have ANu:SW.a.length=n:=by rw[<-Hu,<-Jm];exact (Z2 rfl).symm
 have Auq:SW.c.length=n:=D'
 have bst:Bs (KK 0) st:=Hd 0 D';have jn:=hK1 0 D';clear Jm;refine Ev.x N.QW rfl rfl ?_;repeat' (first|(apply A7<;>intro hc<;>try omega)|apply BW|apply AQ|refine AU (xv) ?_)<;>conv=>whnf
 refine FP (λ i=>st.length-i) (λ(i:Nat)=>i<=st.length) (λ i=>[(11,.int .i64 i),(10,.row 10 0 3 0 i)]) (λ i=>[(10,10,.rw 3 ((st.take i).map eQ))]) 0 D' ?_;intro i p1 ih;by_cases hi:i<st.length
 ·obtain ⟨x,hx⟩:=X_ st i hi
  have ni:st[(i:Int).toNat]? = some x:=hx;have hT:=Aeh N.toa8 (bst.at hx) D';have hlen:(st.take i).length=i:=by rw[Sa];omega
  repeat' (first|(apply A7<;>intro hc<;>try omega)|apply BW|(refine CU G' ?_ rfl ?_;omega)|apply HL|apply AQ|refine AU (hT) ?_)<;>conv=>whnf
  refine H9 (enc:=eQ) x rfl hlen.symm rfl D' D' ?_;conv=>whnf
  repeat' (first|(apply B5;omega)|fail)<;>conv=>whnf
  rw[<-VV hx,show (st.take (i+1)).length=i+1 by rw[Sa];omega];exact DB [(10,43)] (ih (i+1) D' D')
 obtain rfl:i=st.length:=D'
 clear ih;rw[zT (Cb _)];repeat' (first|(apply A7<;>intro hc<;>try omega)|apply BW|apply AQ)<;>conv=>whnf
 refine pI (λ i _ _ _=>xs.length-i) (λ(i:Nat) (nw os:Z_) (_:Nat)=>i<=xs.length/\nw=S.state st (xs.take i)/\os=S.outs st (xs.take i)) (λ i nw os _=>[(12,.int .i64 i),(9,.row 9 0 3 0 os.length),(10,.row 10 0 3 0 nw.length)]) (λ i nw os t=>[(9,9,.rw 3 (os.map eQ)),(10,t,.rw 3 (nw.map eQ))]) [] [] 0 st [] 10 w_ ⟨D',rfl,rfl⟩ ?_;intro i nw os t ⟨p1,p2,p3⟩ ih;have Nm:nw.length=n:=by rw[p2];exact h.uv _ _ m4
 have Nr:os.length=i:=by rw[p3,Yb,Sa];omega
 by_cases hi:i<xs.length
 ·obtain ⟨x,hx⟩:=X_ xs i hi
  have ni:xs[(i:Int).toNat]? = some x:=hx;have bx:=Vk.at hx;have Vj:Bs (KK i) nw:=by rw[p2];exact Hd i D'
  have ANr:=hK i D';have hk1:=hK1 i D';have Oc:S.state st (xs.take (i+1))=S.next nw x:=by rw[VV hx,AgZ,<-p2]
  have AuE:S.outs st (xs.take (i+1))=os++[S.out nw x]:=by rw[VV hx,Yd,<-p2,<-p3]
  generalize KK i=kk at *;have hP:=λ q q'=>rU N SW.c (wR nw) q q' k kk (by rw[wR,ta];omega) hF.2.2.1 (Fs.of Vj D') (by rw[Auq];omega) D'
  simp only[V2,RS,Uu]at hP;have fi:=AdV N.toa8 hF.2.2.2.2 bx (Cb _) D';rw[hvd]at fi;have bd1:=h.bc.dot Vj;rw[wu]at bd1;have Vm:=Y6 N.toa8 bd1 (h.bd.mul bx) D' D';repeat' (first|(apply A7<;>intro hc<;>try omega)|apply BW|(refine CU G' ?_ rfl ?_;omega)|(refine G9 (λ_=>rfl) rfl ?_ ?_;(first|rfl|simp))|apply HL|apply AQ|refine AU (hP _ _) ?_|refine AU (fi) ?_|refine AU (Vm) ?_)<;>conv=>whnf
  refine H9 (enc:=eQ) (S.out nw x) rfl rfl rfl D' D' ?_;conv=>whnf
  skip
  refine K5 1000 N.VJ rfl rfl ?_;(repeat' (apply AQ<;>conv=>whnf))
  refine FP (λ j=>SW.a.length-j) (λ(j:Nat)=>j<=SW.a.length) (λ j=>[(6,.int .i64 j),(5,.row 138005 0 3 0 j)]) (λ j=>[(138005,138005,.rw 3 (((S.a.take j).map λ r=>B4 r nw).map eQ))]) 0 D' ?_;intro j r1 jh;by_cases hj:j<SW.a.length
  ·obtain ⟨ow,rm⟩:=X_ SW.a j hj
   have nh:SW.a[(j:Int).toNat]? = some ow:=rm;obtain ⟨hr,Ct⟩:=ax j ow rm;have ff:=h.lr _ (zM hr);have Uo:ow.length=n:=by have:=ff;rwa [ta]at this
   have Rr:=λ q q'=>rU N ow (wR nw) q q' k kk (by rw[wR,ta];omega) Ct (Fs.of Vj D') (by rw[Uo];omega) D'
   simp only[V2,RS]at Rr;generalize ow.map BI.v=r at *;have hlen:((S.a.take j).map λ r=>B4 r nw).length=j:=by simp;omega
   have Kf:(S.a.take (j+1)).map (λ r=>B4 r nw)=((S.a.take j).map λ r=>B4 r nw)++[B4 r nw]:=by rw[Pc,hr];simp
   repeat' (first|(apply A7<;>intro hc<;>try omega)|apply BW|(refine CU G' ?_ rfl ?_;omega)|(refine G9 (λ_=>rfl) rfl ?_ ?_;(first|rfl|simp))|apply HL|apply AQ|refine AU (Rr _ _) ?_)<;>conv=>whnf
   refine H9 (enc:=eQ) (B4 r nw) rfl hlen.symm rfl D' D' ?_;conv=>whnf
   repeat' (first|(apply B5;omega)|fail)<;>conv=>whnf
   rw[<-Kf,show ((S.a.take (j+1)).map λ r=>B4 r nw).length=j+1 by simp;omega];exact DB [(138005,138021)] (jh (j+1) D' D')
  obtain rfl:j=SW.a.length:=D'
  clear jh;rw[zT (show S.a.length<=SW.a.length by omega)];repeat' (first|(apply A7<;>intro hc<;>try omega)|apply BW|apply AQ)<;>conv=>whnf
  refine ⟨rfl,_,rfl,?_⟩;conv=>whnf
  skip
  have ANJ:=h.ry nw x;generalize hNx:S.next nw x=nx at *
  generalize hT:(S.a.map λ r=>B4 r nw)=T at *;have hTl:T.length=S.a.length:=by rw[<-hT];simp
  rw[show SW.a.length=T.length by omega];refine FP (λ j=>T.length-j) (λ(j:Nat)=>j<=T.length) (λ j=>[(14,.int .i64 j)]) (λ j=>[(138005,138005,.rw 3 ((nx.take j++T.drop j).map eQ))]) 0 D' ?_;intro j r2 jh;by_cases hj:j<T.length
  ·obtain ⟨r,hr⟩:=X_ S.a j
   obtain ⟨bw,Dm⟩:=X_ SW.b j;have m9:SW.b[(j:Int).toNat]? = some bw:=Dm;obtain ⟨Bg,Jo⟩:=fc j bw Dm;have ff:=h.lr r (zM hr);have bb:=h.bb.at Bg;have fr:=AdV N.toa8 Jo.2 bx (Cb _) D';generalize bw.v=b at *;have bd2:=(h.ba r (zM hr)).dot Vj;rw[ff]at bd2;have Ph:=Y6 N.toa8 bd2 (bb.mul bx) D' D';have hnj:nx[j]? = some (B4 r nw+b*x):=by rw[<-hNx];exact Xp nw x S.a S.b j r b hr Bg
   have hTj:T[j]? = some (B4 r nw):=by rw[<-hT];simp [hr]
   have gp:(nx.take j).length=j:=by rw[Sa];omega
   have ANL:(nx.take j++T.drop j).length=T.length:=by simp;omega
   have Py:(nx.take j++T.drop j)[j]? = some (B4 r nw):=by
    rw[Vc D',gp,Sd,Te];exact hTj
   have vt:(nx.take j++T.drop j).set j (B4 r nw+b*x)=nx.take (j+1)++T.drop (j+1):=by
    obtain ⟨zm,he2⟩:=zS hTj;rw[Td _ _ D',gp,Sd,xd zm,ye,VV hnj];simp
   repeat' (first|(apply A7<;>intro hc<;>try omega)|(apply CB;omega)|(refine CU G' ?_ rfl ?_;omega)|(refine KX ?_ (λ_=>rfl) (λ v hv => ?_);omega)|apply AQ)<;>conv=>whnf
   obtain rfl:v=B4 r nw:=by
    rw[Py]at hv;exact (uc hv).symm
   repeat' (first|(apply CB;omega)|refine AU (fr) ?_|refine AU (Ph) ?_)<;>conv=>whnf
   refine LB (enc:=eQ) (B4 r nw+b*x) rfl (λ_=>rfl) D' ?_;conv=>whnf
   repeat' (first|(apply B5;omega)|fail)<;>conv=>whnf
   rw[vt];exact DB [] (jh (j+1) D' D')
  ·obtain rfl:j=T.length:=D'
   clear jh;rw[zT D',Gd (Cb _),Ve];rw[show T.length=nx.length by omega];repeat' (first|(apply A7<;>intro hc<;>try omega)|(apply B5;omega)|apply AQ)<;>conv=>whnf
   refine DB [(10,138005),(9,64)] (ih (i+1) nx (os++[S.out nw x]) 138005 D' ⟨D',by rw[Oc],by rw[AuE]⟩)
 ·obtain rfl:i=xs.length:=D'
  clear ih;rw[zT (Cb _)]at p2 p3;rw[<-p2,<-p3];repeat' (first|(apply A7<;>intro hc<;>try omega)|apply BW|(refine G9 (λ_=>rfl) rfl ?_ ?_;(first|rfl|simp))|apply AQ)<;>conv=>whnf
  exact B1 rfl (Ak1 _ _ _)
theorem Anr (N:o6 L) (SW:FU) (S:G3) (n c:Nat) (Hu:SW.a.length=n) (Ny:IM SW=true) (hn:n<=64) (qf:c<=4096) (hR : ∀ q1 q2,Ev L 139 [.agg (J3 SW),.sl q1 ((jb n (0:Rat)).map eQ),.sl q2 ((K4 c).map eQ)] (.e9 [.sl false ((S.outs (jb n 0) (K4 c)).map eQ),.sl false ((S.state (jb n 0) (K4 c)).map eQ),.int .i64 0])) :
  Ev L 140 [.agg (J3 SW),.int .i64 (c:Int)] (.e9 [.sl false ((S.outs (jb n 0) (K4 c)).map eQ),.int .i64 0]):=by
 have xv:=yK N SW (by obtain ⟨d1,d2,d3,d4⟩:=iA.1 Ny;omega);rw[Ny]at xv;have hZ:=Aei N n (-1) D';have hI:=Aei N c 0 D';rw[AsQ,<-Hu]at hZ;rw[AsS]at hI;rw[<-Hu]at hR ⊢;refine Ev.x N.dG rfl rfl ?_;repeat' (first|(apply A7<;>intro hc<;>try omega)|apply BW|apply AQ|refine AU (xv) ?_|refine AU (hZ) ?_|refine AU (hI) ?_|refine AU (hR _ _) ?_)<;>conv=>whnf
 exact B1 rfl (Ak2 _ _)
end Go.j4

namespace Go.j4
open F
attribute [local irreducible] AJ A5 BZ A0 FH B2 C6 C9 EO EC E0 HH D6 CT EJ E3 AM CZ BH pw EF DP FF FR F5 F7 E6 DQ GN
attribute [local irreducible] WM
variable {L:Lib}
set_option maxRecDepth 8000
abbrev aO (p:Nat × Nat):d_:=[.int .i64 ((p.1:Nat):Int),.int .i64 ((p.2:Nat):Int)]
theorem AkX (l:List (Nat × Nat)):J6 (l.map aO):=jJ (λ p=>by simp only[ES,CI,and_true]) l
theorem AfX {n i:Nat} (hi:i<n):(CW n (i+1)).length=(CW n i).length+(n-i):=by
 show (CW n i++GU i (n-i)).length=_;rw[Gb,kJ]
theorem tP (n:Nat) {i:Nat} : ∀ d,(CW n i).length<=(CW n (i+d)).length
 | 0=>Cb _
 | d+1=>by
  refine ve (tP n d) ?_;show _<=(CW n (i+d)++GU (i+d) (n-(i+d))).length;rw[Gb];omega
theorem Agi {A:Y_} {n i:Nat} (hA:Sq n A) (hi:i<n) : ∃ r,A[i]? = some r/\r.length=n /\ ∀ j,j<n->r[j]? = some (CK A i j):=by
 obtain ⟨r,hr⟩:=X_ A i (by rw[hA.l];exact hi);have hl:=hA.at hr;refine ⟨r,hr,hl,λ j hj => ?_⟩;rw[OD hr,Wa,zE D'];rfl
theorem Aco {B:Z_} {n i:Nat} (hB:B.length=n) (hi:i<n):B[i]? = some (bQ B i):=by
 rw[bQ,Wa,zE D'];rfl
theorem tN {n u i j:Nat} (h:(CW n n)[u]? = some (i,j)):i<n/\j<n/\i<=j:=by
 have:=AfY (zM h)
 omega
theorem iH {α:Type} {l:List α} {i:Nat} {x:α} (h:l[i]? = some x):l.take (i+1)=l.take i++[x]:=by rw[Pc,h];rfl
theorem pK {a b c d:Nat} {K:Bool->Prop} (hk:K (decide ((a,b)=(c,d)))):WM 2 (aO (a,b)) (aO (c,d)) K:=by
 unfold WM;refine ⟨[(a:Int),(b:Int)],[(c:Int),(d:Int)],rfl,rfl,rfl,rfl,?_⟩;have:decide ([(a:Int),(b:Int)]=[(c:Int),(d:Int)])=decide ((a,b)=(c,d)):=by
  apply decide_eq_decide.2;simp
  omega
 rw[this];exact hk
theorem Agz {l:Z_} {i:Nat} {x:Rat} (h:l[i]? = some x):EM (l.take (i+1))=EM (l.take i)+KC x:=by rw[YN h,Agy]
theorem Zy {x y:Rat}:0<ah (x-y).num↔y<x:=by
 have h:=Zx (x-y).num;have e1:(x-y).num<0↔x<y:=by rw[Xq];constructor<;>intro h<;>grind
 have e2:(x-y).num=0↔x=y:=by rw[Li];constructor<;>intro h<;>grind
 rcases h with ⟨h1,h2⟩|⟨h1,h2⟩|⟨h1,h2⟩
 ·have:=e1.1 h2
  rw[h1];constructor
  ·intro h;omega
  ·intro h;grind
 ·have:=e2.1 h2
  rw[h1];constructor
  ·intro h;omega
  ·intro h;grind
 ·have h3 : ¬ x<y:=λ h=>by have:=e1.2 h;omega
  have h4 : ¬ x=y:=λ h=>by have:=e2.2 h;omega
  rw[h1];constructor
  ·intro _;grind
  ·intro _;omega
theorem Afo {α:Type} {a b:List α} {j:Nat} {y:α} (hl:a.length=b.length) (hy:a[j]? = some y):(a.take j++b.drop j).set j y=a.take (j+1)++b.drop (j+1):=by
 have h:=(zS hy).1;rw[Td _ _ V_,Sa,pf D',Sd,xd D',ye,Pc,hy,ag,Bd];rfl
def ND (Q:Y_) (n j:Nat):List (b_):=Q.map λ r=>some (3,(IL (r.take j) n).map eO)
def R4 (Q:Y_) (n j m:Nat):List (b_):=(ND Q n (j+1)).take m++(ND Q n j).drop m
theorem Y3 (Q:Y_) (n j:Nat):(ND Q n j).length=Q.length:=by simp [ND]
theorem Als (Q:Y_) (n j:Nat):R4 Q n j 0=ND Q n j:=by simp [R4]
theorem Alp (Q:Y_) (n j:Nat):R4 Q n j Q.length=ND Q n (j+1):=by
 rw[R4,zT (by rw[Y3];exact Cb _),Gd (by rw[Y3];exact Cb _),Ve]
theorem Alq {Q:Y_} {n j m:Nat} (h:m<=Q.length):(R4 Q n j m).length=Q.length:=by
 rw[R4,Gb,Sa,Cf,Y3,Y3];omega
theorem Alo {Q:Y_} {n j m:Nat} {r:Z_} (hr:Q[m]? = some r):(R4 Q n j m)[m]? = some (some (3,(IL (r.take j) n).map eO)):=by
 have h:=(zS hr).1;rw[R4,Vc (by rw[Sa,Y3];omega),Sa,Y3,pf D',Sd,Te,ij,ND,na,hr];rfl
theorem Alr {Q:Y_} {n j m:Nat} {r:Z_} (hr:Q[m]? = some r):(R4 Q n j m).set m (some (3,(IL (r.take (j+1)) n).map eO))=R4 Q n j (m+1):=by
 have h:=(zS hr).1;exact Afo (by rw[Y3,Y3]) (by rw[ND,na,hr];rfl)
end Go.j4

namespace Go.j4
open F
attribute [local irreducible] AJ A5 BZ A0 FH B2 C6 C9 EO EC E0 HH D6 CT EJ E3 AM CZ BH pw EF DP FF FR F5 F7 E6 DQ GN
variable {L:Lib}
set_option maxRecDepth 8000
theorem Ai0 {R:List (b_)} {i z:Nat} {es:c_} {K:Nat->c_->Prop} (h:R[i]? = some (some (z,es))) (hk:K z es):DP R i K:=by
 unfold DP;exact ⟨z,es,h,hk⟩
theorem Alt {Q:Y_} {n:Nat} (h : ∀ r∈Q,r.length=n):ND Q n n=DD 3 eQ Q:=by
 refine Kd λ r hr => ?_
 have:=h r hr
 rw[zT D',aS this]
abbrev aN (q:Bool) (R:Y_) (D:Rat) (p:Int) (T:Rat):d_:=[.sl false (L6 q R)]++eQ D++[.int .i64 p]++eQ T
theorem wJ (R:Y_) (D:Rat) (p:Int) (T:Rat) (e:Int):CI (.e9 [.agg (aN false R D p T),.int .i64 e]):=by
 have h1:=wK R;have h2:=GD D;have h3:=GD T;simp only[CI,ES,true_and,and_true,aN,Fb,Gg]at h1 h2 h3 ⊢;exact ⟨h1,h2.1,h2.2,h3.1,h3.2⟩
theorem Ye {i:Nat} (h:i<=6):2^i<=64/\(2^i=64->i=6)/\1<=2^i:=by
 obtain rfl|rfl|rfl|rfl|rfl|rfl|rfl:i=0\/i=1\/i=2\/i=3\/i=4\/i=5\/i=6:=D'
 all_goals decide
theorem Af1 {D:Rat} {d:Nat} (h:Bt d D) : ∀ j:Nat,Bt (j*d) (D^j)
 | 0=>by rw[Rat.pow_zero];exact Bt.one _
 | j+1=>by
  rw[Rat.pow_succ];exact ((Af1 h j).mul h).le (by rw[Re];omega)
theorem AqZ {S M:Nat} (h:S<=2^M):Bt M (S:Rat):=by
 refine ⟨?_,?_⟩
 ·rw[vf,zc];exact h
 ·rw[rf];exact Jf
theorem Aq0 {S:Nat} (h:0<S):(0:Rat)<(S:Rat):=by
 have:=Rat.natCast_lt_natCast.2 h
 exact this
theorem Am1 (x:Rat):eQ (KC x)=[.bool false,.sl false ((dg x.num.natAbs).map BK),.sl false ((dg x.den).map BK)]:=by
 unfold KC;by_cases h:x.num<0
 ·rw[if_pos h]
  show rQ false false (decide ((-x).num<0)) _ _=_;rw[wi,Uh,ui,show decide (-x.num<0)=false from decide_eq_false D']
 ·rw[if_neg h]
  show rQ false false (decide (x.num<0)) _ _=_;rw[show decide (x.num<0)=false from decide_eq_false h]
theorem AsV {n:Nat} {aw:List (List BI)} (hl:aw.length=n) (hr : ∀ r∈aw,r.length=n):Sq n (vM aw):=⟨Z2 hl,iJ hr⟩
theorem Fs.at {k:Nat} {r:List BI} (h:Fs k r) {i:Nat} {x:BI} (hx:r[i]? = some x):x.Fit k:=h x (zM hx)
theorem FQ.ar {k:Nat} {m:List (List BI)} (h:FQ k m) {i:Nat} {r:List BI} (hr:m[i]? = some r):Fs k r:=h r (zM hr)
theorem Aob (N:di L) {w:BI} {k:Nat} (hx:w.Fit k):Ev L 294 [.agg (eW w)] (.agg (eQ ((w.v.den:Nat):Rat))):=by
 have hT:=AoR N.toa7 hx.2 (Cb _);have q5:=GD ((w.v.den:Nat):Rat);have e:eQ ((w.v.den:Nat):Rat)=[.bool false,.sl false ((dg w.v.den).map BK),.sl false [[.int .u32 1]]]:=by
  rw[<-xc,Ady,zc,show decide (((w.v.den:Nat):Int)<0)=false by simp]
 rw[e]at q5 ⊢;generalize w.v=x at *;refine Ev.x N.XT rfl rfl ?_;repeat' (first|refine OA rfl ?_|apply AQ|refine AU (hT) ?_)<;>conv=>whnf
 exact B1 rfl q5
theorem An8 (N:di L) (q q':Bool) (lw:List (List BI)) (k:Nat) (hf:FQ k lw) (hl:(vM lw).flatten.length<=64) (Dv:lw.length<=1000) (hk:k<=33554432):Ev L 295 [.sl q (FW q' lw)] (.agg (eQ (FO (vM lw).flatten))):=by
 have hb:=hf.ms;have je : ∀ (i:Nat) (r:List BI),lw[i]? = some r->(vM lw)[i]? = some (r.map BI.v):=λ i r h=>J5 h
 have hlen:lw.length=(vM lw).length:=(ta _).symm;generalize vM lw=ls at *;rw[hlen]at Dv;have hO:=QL N.toa7 1 D';rw[show ((1:Int):Rat)=1 from rfl]at hO;have key : ∀ (i j:Nat) (r:Z_) (x:Rat),ls[i]? = some r->r[j]? = some x -> ∃ S:Nat,FO ((ls.take i).flatten++r.take j)=(S:Rat)/\Bt (64*k) (S:Rat)/\FO ((ls.take i).flatten++r.take (j+1))=(S:Rat)*(((S:Rat)/((x.den:Nat):Rat)).den:Nat):=by
  intro i j r x hr hx;have jy:=(zS hx).1;have hlen:((ls.take i).flatten++r.take j).length<=64:=by
   have e:ls.flatten=(ls.take i).flatten++(r++(ls.drop (i+1)).flatten):=by
    have h1:=(zS hr);obtain ⟨h1,h2⟩:=h1;conv=>lhs;rw[<-Oe i ls,Vf,xd h1,h2,Ef]
   rw[e,Gb,Gb]at hl;rw[Gb,Sa];omega
  have Pr:Bs k ((ls.take i).flatten++r.take j):=λ y hy=>by
   rcases Ae.1 hy with hy|hy
   ·obtain ⟨s,hs,hy⟩:=Pg.1 hy
    exact hb s (pg hs) y hy
   ·exact hb r (zM hr) y (pg hy)
  obtain ⟨S,e,h1,h2,_⟩:=Ags Pr;refine ⟨S,e,⟨?_,?_⟩,?_⟩
  ·rw[vf,zc]
   exact ve h2 (Nat.pow_le_pow_right D' (zR k hlen))
  ·rw[rf];exact Jf
  ·rw[Pc,hx,ag,<-Bd,Agt,e,YJ,AlU]
 refine Ev.x N.TG rfl rfl ?_;repeat' (first|apply BW|apply AQ|refine AU (hO) ?_)<;>conv=>whnf
 refine GV (λ i=>ls.length-i) (λ(i:Nat)=>i<=ls.length) (λ i=>[(13,.int .i64 i)]) (λ i=>[(3,3,.bx (eQ (FO (ls.take i).flatten)))]) [] [] 0 (by rw[show FO (ls.take 0).flatten=1 from rfl];exact w_) D' ?_;intro i p1 ih;by_cases hi:i<ls.length
 ·obtain ⟨ow,rm⟩:=X_ lw i
  have nh:lw[(i:Int).toNat]? = some ow:=rm;have hr:=je i ow rm;have hfr:=hf.ar rm;have Uj:ow.length=(ow.map BI.v).length:=(ta _).symm;have Ip : ∀ (j:Nat) (x:BI),ow[j]? = some x->(ow.map BI.v)[j]? = some x.v:=λ j x h=>by rw[na,h];rfl
  generalize ow.map BI.v=r at *;have ff:r.length<=64:=by
   have e:ls.flatten=(ls.take i).flatten++(r++(ls.drop (i+1)).flatten):=by
    obtain ⟨h1,h2⟩:=zS hr;conv=>lhs;rw[<-Oe i ls,Vf,xd h1,h2,Ef]
   rw[e,Gb,Gb]at hl;omega
  have jk:(ls.take (i+1)).flatten=(ls.take i).flatten++r:=by
   rw[Pc,hr,Vf];simp
  repeat' (first|(apply A7<;>intro hc<;>try omega)|apply BW|(refine CU G' ?_ rfl ?_;omega)|apply AQ)<;>conv=>whnf
  refine GV (λ j=>r.length-j) (λ(j:Nat)=>j<=r.length) (λ j=>[(19,.int .i64 j)]) (λ j=>[(3,3,.bx (eQ (FO ((ls.take i).flatten++r.take j))))]) [] [] 0 (by rw[od,Ve];exact w_) D' ?_;intro j r1 jh;by_cases hj:j<r.length
  ·obtain ⟨xw,ka⟩:=X_ ow j
   have ni:ow[(j:Int).toNat]? = some xw:=ka;have hx:=Ip j xw ka;obtain ⟨S,e,hS,e2⟩:=key i j r xw.v hr hx;have hxb:=(hfr.at ka).1;have Dh:=Aob N (hfr.at ka);generalize xw.v=x at *;have hq:=hS.Gz (xF hxb);have hDv:=rV N.toa7 hS (xF hxb) D' D' (AlT x);have ux:=Aoa N hq D';have hM:=R6 N.toa7 hS (xF hq) D' D';rw[<-e2]at hM;rw[e];generalize (S:Rat)/((x.den:Nat):Rat)=y at *;generalize ((x.den:Nat):Rat)=d at *;generalize (S:Rat)=s at *;generalize ((y.den:Nat):Rat)=d2 at *;repeat' (first|(apply A7<;>intro hc<;>try omega)|(apply B5;omega)|(refine CU G' ?_ rfl ?_;omega)|apply AQ|refine AU (Dh) ?_|refine AU (hDv) ?_|refine AU (ux) ?_|refine AU (hM) ?_)<;>conv=>whnf
   exact DB [] (jh (j+1) D' D')
  obtain rfl:j=r.length:=D'
  clear jh;rw[zT (Cb _),<-jk];repeat' (first|(apply A7<;>intro hc<;>try omega)|(apply B5;omega)|apply AQ)<;>conv=>whnf
  exact DB [] (ih (i+1) D' D')
 obtain rfl:i=ls.length:=D'
 clear ih;rw[zT (Cb _)];repeat' (first|(apply A7<;>intro hc<;>try omega)|apply AQ)<;>conv=>whnf
 exact B1 rfl (GD _)
theorem Aog (N:di L) (q:Bool) (vw:List BI) (c:Rat) (k l:Nat) (hv:Fs k vw) (hc:Bt l c) (hl:l<1099511627776) (hn:vw.length<=1000000):Ev L 296 [.sl q (vw.map eW),.agg (eQ c)] (.sl false (((vw.map BI.v).map (· * c)).map eQ)):=by
 have hlen:vw.length=(vw.map BI.v).length:=(ta _).symm;have je : ∀ (j:Nat) (x:BI),vw[j]? = some x->(vw.map BI.v)[j]? = some x.v:=λ j x h=>by rw[na,h];rfl
 generalize vw.map BI.v=v at *;refine Ev.x N.XV rfl rfl ?_;repeat' (first|apply BW|apply AQ)<;>conv=>whnf
 refine I2 (enc:=eO) none v.length rfl D' D' ?_;conv=>whnf
 (repeat' (apply BW<;>conv=>whnf))
 refine GV (λ i=>v.length-i) (λ(i:Nat)=>i<=v.length) (λ i=>[(12,.int .i64 i)]) (λ i=>[(9,9,.rw 3 ((IL ((v.map (· * c)).take i) v.length).map eO))]) [] [] 0 (by first|exact w_|(rw[od,<-aT];exact w_)) D' ?_;intro i p1 ih;have gp:((v.map (· * c)).take i).length=i:=by rw[Sa,ta];omega
 have Wg:=ZF (l:=(v.map (· * c)).take i) (m:=v.length) D';by_cases hi:i<v.length
 ·obtain ⟨xw,ka⟩:=X_ vw i
  have ni:vw[(i:Int).toNat]? = some xw:=ka;have hx:=je i xw ka;have hM:=AdU N.toa7 (hv.at ka).2 hc (Cb _) D';generalize xw.v=x at *;have hy:(v.map (· * c))[i]? = some (x*c):=by rw[na,hx];rfl
  have hs:=aU (l:=(v.map (· * c)).take i) (m:=v.length) (x:=x*c) D';rw[gp,<-YN hy]at hs;generalize IL ((v.map (· * c)).take i) v.length=F0 at *;generalize x*c=y at *;repeat' (first|(apply A7<;>intro hc<;>try omega)|(apply CB;omega)|(refine CU G' ?_ rfl ?_;omega)|apply AQ|refine AU (hM) ?_)<;>conv=>whnf
  refine LB (enc:=eO) (some y) rfl (λ e=>by cases e<;>rfl) D' ?_;conv=>whnf
  rw[hs];repeat' (first|(apply B5;omega)|fail)<;>conv=>whnf
  exact DB [] (ih (i+1) D' D')
 obtain rfl:i=v.length:=D'
 clear ih;have gx:(v.map (· * c)).length=v.length:=ta _;rw[zT D',aS gx];repeat' (first|(apply A7<;>intro hc<;>try omega)|(refine G9 (λ_=>rfl) rfl ?_ ?_;(first|rfl|simp))|apply AQ)<;>conv=>whnf
 exact B1 rfl (by simp only[CI,true_and];exact OL _)
theorem Aoc (N:di L) (q1 q2 qb:Bool) (a b:Z_) (k l:Nat) (hl:a.length=b.length) (ha:Bs k a) (hb:Bs l b) (hn:a.length<=4) (hk:k<=100000000000) (pc:l<=100000000000):Ev L 297 [.sl q1 (a.map eQ),.sl q2 (b.map (xZ qb))] (.agg (eQ (B4 a b))):=by
 have hO:=QL N.toa7 0 D';rw[show ((0:Int):Rat)=0 from rfl]at hO;refine Ev.x N.XU rfl rfl ?_;repeat' (first|apply BW|apply AQ|refine AU (hO) ?_)<;>conv=>whnf
 refine GV (λ i=>a.length-i) (λ(i:Nat)=>i<=a.length) (λ i=>[(10,.int .i64 i)]) (λ i=>[(5,5,.bx (eQ (B4 (a.take i) (b.take i))))]) [] [] 0 (by rw[show B4 (a.take 0) (b.take 0)=0 from rfl];exact w_) D' ?_;intro i p1 ih;by_cases hi:i<a.length
 ·obtain ⟨x,hx⟩:=X_ a i hi
  obtain ⟨y,hy⟩:=X_ b i;have ni:a[(i:Int).toNat]? = some x:=hx;have Cy:b[(i:Int).toNat]? = some y:=hy;have Fp:=mT N.toa7 (ha.at hx) D';have Lm:=AoM N.toa7 qb (hb.at hy) D';have hM:=AnZ N.toa7 qb (ha.at hx) (hb.at hy) D' D';have hd:Bt (4*(k+l+1)) (B4 (a.take i) (b.take i)):=by
   refine ((ha.take i).dot (hb.take i)).le (zR _ ?_);rw[Sa];omega
  have hA:=W3 N.toa7 hd ((ha.at hx).mul (hb.at hy)) D' D';rw[<-fD hx hy]at hA;have hz:x=0\/y=0->B4 (a.take i) (b.take i)=B4 (a.take (i+1)) (b.take (i+1)):=λ h=>by
   rw[fD hx hy];rcases h with h|h<;>rw[h]<;>grind
  by_cases h1:x=0
  ·have s1:ah x.num=0:=ZU.2 h1
   rw[s1]at Fp;rw[hz (Or.inl h1)];clear hA hz hd;repeat' (first|(apply A7<;>intro hc<;>try omega)|(apply B5;omega)|(refine CU G' ?_ rfl ?_;omega)|apply AQ|refine AU (Fp) ?_)<;>conv=>whnf
   exact DB [] (ih (i+1) D' D')
  ·have s1:ah x.num≠0:=λ h=>h1 (ZU.1 h)
   generalize ah x.num=g1 at *;by_cases h2:y=0
   ·have s2:ah y.num=0:=ZU.2 h2
    rw[s2]at Lm;rw[hz (Or.inr h2)];clear hA hz hd;repeat' (first|(apply A7<;>intro hc<;>try omega)|(apply B5;omega)|(refine CU G' ?_ rfl ?_;omega)|apply AQ|refine AU (Fp) ?_|refine AU (Lm) ?_)<;>conv=>whnf
    exact DB [] (ih (i+1) D' D')
   ·have s2:ah y.num≠0:=λ h=>h2 (ZU.1 h)
    generalize ah y.num=g2 at *;clear hz hd;generalize B4 (a.take i) (b.take i)=w at *;generalize x*y=p at *;repeat' (first|(apply A7<;>intro hc<;>try omega)|(apply B5;omega)|(refine CU G' ?_ rfl ?_;omega)|apply AQ|refine AU (Fp) ?_|refine AU (Lm) ?_|refine AU (hM) ?_|refine AU (hA) ?_)<;>conv=>whnf
    exact DB [] (ih (i+1) D' D')
 obtain rfl:i=a.length:=D'
 clear ih;rw[aL rfl];repeat' (first|(apply A7<;>intro hc<;>try omega)|apply AQ)<;>conv=>whnf
 exact B1 rfl (GD _)
theorem Aoh (N:di L) (q:Bool) (v:Z_) (k:Nat) (hv:Bs k v) (hn:v.length<=4) (hk:k<=100000000000):Ev L 300 [.sl q (v.map eQ)] (.agg (eQ (EM v))):=by
 have hO:=QL N.toa7 0 D';rw[show ((0:Int):Rat)=0 from rfl]at hO;refine Ev.x N.XW rfl rfl ?_;repeat' (first|apply BW|apply AQ|refine AU (hO) ?_)<;>conv=>whnf
 refine GV (λ i=>v.length-i) (λ(i:Nat)=>i<=v.length) (λ i=>[(9,.int .i64 i)]) (λ i=>[(3,3,.bx (eQ (EM (v.take i))))]) [] [] 0 (by rw[show EM (v.take 0)=0 from rfl];exact w_) D' ?_;intro i p1 ih;by_cases hi:i<v.length
 ·obtain ⟨x,hx⟩:=X_ v i hi
  have ni:v[(i:Int).toNat]? = some x:=hx;have hA:=Ani N.toma (hv.at hx) D';have hz:Bt (4*(k+1)) (EM (v.take i)):=(oQ (hv.take i)).le (zR _ V_);have hP:=W3 N.toa7 hz (Ach (hv.at hx)) D' D';rw[<-Agz hx]at hP;generalize EM (v.take i)=w at *;generalize KC x=y at *;repeat' (first|(apply A7<;>intro hc<;>try omega)|(apply B5;omega)|(refine CU G' ?_ rfl ?_;omega)|apply AQ|refine AU (hA) ?_|refine AU (hP) ?_)<;>conv=>whnf
  exact DB [] (ih (i+1) D' D')
 obtain rfl:i=v.length:=D'
 clear ih;rw[zT (Cb _)];repeat' (first|(apply A7<;>intro hc<;>try omega)|apply AQ)<;>conv=>whnf
 exact B1 rfl (GD _)
theorem An9 (N:di L) (q q':Bool) (a:Y_) (D:Rat) (n k l:Nat) (hs:Sq n a) (ha:Ms k a) (hD:Bt l D) (hn:n<=4) (hk:k<=100000000000) (hl:l<=100000000000):Ev L 302 [.sl q (L6 q' a),.agg (eQ D)] (.bool (decide (∀ r∈a,EM r+EM r<=D))):=by
 have ig:=hs.l;refine Ev.x N.XR rfl rfl ?_;repeat' (first|apply BW|apply AQ)<;>conv=>whnf
 refine FP (λ i=>n-i) (λ(i:Nat)=>i<=n /\ ∀ r∈a.take i,EM r+EM r<=D) (λ i=>[(10,.int .i64 i)]) (λ_=>[]) 0 ⟨D',λ r hr=>by cases hr⟩ ?_;intro i ⟨p1,p2⟩ ih;by_cases hi:i<n
 ·obtain ⟨r,hr⟩:=X_ a i
  have nh:a[(i:Int).toNat]? = some r:=hr;have ff:=hs.at hr;have hT:=λ q=>Aoh N q r k (ha.at hr) D' hk
  have hz:Bt (4*(k+1)) (EM r):=(oQ (ha.at hr)).le (zR _ D');have hP:=W3 N.toa7 hz hz D' D';have hC:=AdK N.toae (hz.add hz) hD D' D';have hg:=Zy (x:=EM r+EM r) (y:=D);by_cases h:D<EM r+EM r
  ·have Jw : ¬ ∀ r∈a,EM r+EM r<=D:=λ e=>by
    have:=e r (zM hr)
    grind
   have:=hg.2 h
   rw[decide_eq_false Jw];clear Jw p2 ih hz h hg;generalize ah (EM r+EM r-D).num=g at *;generalize EM r+EM r=w at *;generalize EM r=z at *;repeat' (first|(apply A7<;>intro hc<;>try omega)|(refine CU G' ?_ rfl ?_;omega)|apply AQ|refine AU (hT _) ?_|refine AU (hP) ?_|refine AU (hC) ?_)<;>conv=>whnf
   exact HK rfl
  ·have Avd : ∀ r∈a.take (i+1),EM r+EM r<=D:=λ s hs=>by
    rw[YN hr]at hs;rcases Ae.1 hs with hs|hs
    ·exact p2 s hs
    ·obtain rfl:=Tf.1 hs
     grind
   have : ¬ 0<ah (EM r+EM r-D).num:=λ e=>h (hg.1 e)
   clear p2 hz h hg;generalize ah (EM r+EM r-D).num=g at *;generalize EM r+EM r=w at *;generalize EM r=z at *;repeat' (first|(apply A7<;>intro hc<;>try omega)|(apply B5;omega)|(refine CU G' ?_ rfl ?_;omega)|apply AQ|refine AU (hT _) ?_|refine AU (hP) ?_|refine AU (hC) ?_)<;>conv=>whnf
   exact DB [] (ih (i+1) D' ⟨D',Avd⟩)
 obtain rfl:i=n:=D'
 clear ih;rw[zT D']at p2;rw[decide_eq_true p2];repeat' (first|(apply A7<;>intro hc<;>try omega)|apply AQ)<;>conv=>whnf
 exact HK rfl
theorem Aoe (N:di L) (q q':Bool) (a:Y_) (n k:Nat) (hs:Sq n a) (ha:Ms k a) (hn:n<=4) (hk:k<=100000000000):Ev L 299 [.sl q (L6 q' a)] (.sl false (eM (LF a a n))):=by
 have ig:=hs.l;have Jj:Sq n (LF a a n):=Sq.mul hs.l a;have Rt : ∀ (i:Nat) (r:Z_),a[i]? = some r->(LF a a n)[i]? = some (JQ r a n):=λ i r hr=>by rw[LF,na,hr];rfl
 have Lj : ∀ (j:Nat) (r:Z_),j<n->(JQ r a n)[j]? = some (B4 r (GI a j)):=λ j r hj=>by rw[JQ,na,Vd hj];rfl
 have Ji:=Jj.l;have Pm:=Jj.r;generalize LF a a n=Q at *;refine Ev.x N.NR rfl rfl ?_;repeat' (first|apply BW|apply AQ)<;>conv=>whnf
 unfold F5;refine ⟨⟨D',D',by simp only[H8];omega,D'⟩,?_⟩;rw[Ad,ig];conv=>whnf
 skip
 have qz:=Y3 Q n 0;have Vl : ∀ i,i<n->(ND Q n 0)[i]? = some (some (3,(jb n (none:Option Rat)).map eO)):=λ i hi=>by
  rw[ND,na,zE D',We,od,aT]
 refine GV (λ i=>n-i) (λ(i:Nat)=>i<=n) (λ i=>[(15,.int .i64 i)]) (λ i=>[(13,13,.mx (fz none ((ND Q n 0).take i) n))]) [] [] 0 (by first|exact w_|(rw[od,show fz (none:b_) [] n=jb n none by simp [fz]];exact w_)) D' ?_;intro i p1 ih;have gp:((ND Q n 0).take i).length=i:=by rw[Sa];omega
 have jk:=nB (z:=(none:b_)) (l:=(ND Q n 0).take i) (m:=n) D';by_cases hi:i<n
 ·have pt:=nC (z:=(none:b_)) (x:=some (3,(jb n (none:Option Rat)).map eO)) (l:=(ND Q n 0).take i) (m:=n) D'
  rw[gp,<-YN (Vl i hi)]at pt;generalize fz (none:b_) ((ND Q n 0).take i) n=J at *;repeat' (first|(apply A7<;>intro hc<;>try omega)|apply AQ)<;>conv=>whnf
  refine I2 (enc:=eO) none n rfl rfl D' ?_;conv=>whnf
  repeat' (first|(apply CB;omega)|fail)<;>conv=>whnf
  unfold BZ FF;refine ⟨p_,D',?_⟩;conv=>whnf
  rw[show 0+((i:Int)).toNat=i by omega,pt];repeat' (first|(apply B5;omega)|fail)<;>conv=>whnf
  exact DB [] (ih (i+1) D' D')
 have ei:i=n:=D'
 clear ih jk;rw[ei,zT D',nA D'];repeat' (first|(apply A7<;>intro hc<;>try omega)|apply AQ)<;>conv=>whnf
 refine I2 (enc:=eO) none n rfl rfl D' ?_;conv=>whnf
 skip
 refine LJ (λ j _=>n-j) (λ(j:Nat) (C:List (Option Rat))=>j<=n/\C.length=n) (λ j _=>[(27,.int .i64 j)]) (λ j C=>[(25,25,.rw 3 (C.map eO)),(13,13,.mx (ND Q n j))]) 0 (jb n none) ⟨D',p_⟩ ?_;intro j C ⟨r1,r2⟩ jh;by_cases hj:j<n
 ·have q5:(GI a j).length=n:=by rw[Alk];exact ig
  have AtX:((GI a j).map some).length=n:=by rw[ta];exact q5
  repeat' (first|(apply A7<;>intro hc<;>try omega)|apply AQ)<;>conv=>whnf
  refine GV (λ i=>n-i) (λ(i:Nat)=>i<=n) (λ i=>[(31,.int .i64 i)]) (λ i=>[(25,25,.rw 3 ((((GI a j).map some).take i++C.drop i).map eO))]) [] [] 0 (by rw[od,vh,Gg];exact w_) D' ?_;intro i2 s1 kh;have gx:(((GI a j).map some).take i2++C.drop i2).length=n:=by rw[Gb,Sa,Cf];omega
  by_cases zm:i2<n
  ·obtain ⟨r,hr⟩:=X_ a i2
   have ff:=hs.at hr;obtain ⟨x,hx⟩:=X_ r j;have nh:a[(i2:Int).toNat]? = some r:=hr;have ni:r[(j:Int).toNat]? = some x:=hx;have hcx:((GI a j).map some)[i2]? = some (some x):=by
    rw[na,GI,na,hr];simp only[We,Wa,hx,Vi]
   have m4:=Afo (a:=(GI a j).map some) (b:=C) D' hcx;generalize ((GI a j).map some).take i2++C.drop i2=W at *;repeat' (first|(apply A7<;>intro hc<;>try omega)|(apply CB;omega)|(refine CU G' ?_ rfl ?_;omega)|apply AQ)<;>conv=>whnf
   refine LB (enc:=eO) (some x) rfl (λ e=>by cases e<;>rfl) D' ?_;conv=>whnf
   rw[m4];repeat' (first|(apply B5;omega)|fail)<;>conv=>whnf
   exact DB [] (kh (i2+1) D' D')
  obtain rfl:i2=n:=D'
  clear kh gx;rw[zT D',Gd D',Ve,show ((GI a j).map some).map eO=(GI a j).map eQ by rw[Wc];rfl];repeat' (first|(apply A7<;>intro hc<;>try omega)|apply AQ)<;>conv=>whnf
  refine GV (λ i=>i2-i) (λ(i:Nat)=>i<=i2) (λ i=>[(46,.int .i64 i)]) (λ i=>[(13,13,.mx (R4 Q i2 j i))]) [] [] 0 (by rw[Als];exact w_) D' ?_;intro i3 s2 lh;have gx:=Alq (Q:=Q) (n:=i2) (j:=j) (m:=i3) D';by_cases Hr:i3<i2
  ·obtain ⟨r,hr⟩:=X_ a i3
   have ff:=hs.at hr;have nh:a[(i3:Int).toNat]? = some r:=hr;have hq:=Rt i3 r hr;have je:=Alo (n:=i2) (j:=j) hq;have vt:=Alr (n:=i2) (j:=j) hq;have hxx:=Lj j r hj;have Cs:(JQ r a i2).length=i2:=Pm _ (zM hq);have Wm:((JQ r a i2).take j).length=j:=by rw[Sa];omega
   have pt:=aU (l:=(JQ r a i2).take j) (m:=i2) (x:=B4 r (GI a j)) D';rw[Wm,<-YN hxx]at pt;have jk:=ZF (l:=(JQ r a i2).take j) (m:=i2) D';rw[<-pt]at vt;have hD:=λ q q'=>Aoc N q q' false r (GI a j) k k D' (ha.at hr) (Ms.col ha j) D' hk hk
   clear hq hxx pt Wm Cs;generalize IL ((JQ r a i2).take j) i2=W at *;generalize B4 r (GI a j)=y at *;generalize R4 Q i2 j i3=R0 at *;repeat' (first|(apply A7<;>intro hc<;>try omega)|(apply CB;omega)|apply AQ)<;>conv=>whnf
   refine vO (r:=some (3,W.map eO)) (by rw[Tg,Ad];exact je) ?_;conv=>whnf
   repeat' (first|(refine CU G' ?_ rfl ?_;omega)|fail)<;>conv=>whnf
   refine G9 (enc:=eQ) (λ_=>rfl) rfl q5.symm ?_;conv=>whnf
   (repeat' (refine AU (hD _ _) ?_<;>conv=>whnf))
   refine CB U_ ?_;conv=>whnf
   skip
   refine Ai0 (z:=3) (es:=W.map eO) (by rw[Tg,Ad];exact je) ?_;conv=>whnf
   refine LB (enc:=eO) (some y) rfl (λ e=>by cases e<;>rfl) D' ?_;conv=>whnf
   unfold FR;refine ⟨by rw[ta,ta,Ic],?_⟩;rw[show 0+((i3:Int)).toNat=i3 by omega,vt];conv=>whnf
   repeat' (first|(apply B5;omega)|fail)<;>conv=>whnf
   exact DB [] (lh (i3+1) D' D')
  obtain rfl:i3=i2:=D'
  clear lh gx;have Jr:=Alp Q i3 j;rw[Ji]at Jr;rw[Jr];repeat' (first|(apply A7<;>intro hc<;>try omega)|(apply B5;omega)|apply AQ)<;>conv=>whnf
  rw[show (GI a j).map eQ=((GI a j).map some).map eO by rw[Wc];rfl];exact DB [] (jh (j+1) ((GI a j).map some) D' ⟨D',by rw[ta];exact q5⟩)
 have ej:j=n:=D'
 clear jh;rw[ej,Alt Pm];repeat' (first|(apply A7<;>intro hc<;>try omega)|apply AQ)<;>conv=>whnf
 refine RY (λ_=>rfl) rfl D' ?_;conv=>whnf
 exact B1 rfl (AcI Q)
end Go.j4
