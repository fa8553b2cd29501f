/-
  Rational numbers (layer 3).
-/
import Derived.Test.YtckpiejepaconaaGreatB4
import Derived.Test.YtckpiejepaconaaGreatB1
import Derived.Test.YtckpiejepaconaaGreatB3
import Derived.Test.YtckpiejepaconaaGreatB2
import Derived.ProofKit
import Derived.OpenShut
import Derived.ChangeOld
import Derived.WalkKit
import Derived.WideShapes
import Derived.ChangeArms
set_option linter.unusedSimpArgs false
set_option linter.unusedVariables false
set_option linter.unnecessarySimpa false
set_option maxHeartbeats 16000000
open Bool renaming and_eq_true->qa,false_eq_true->og
open Function renaming comp_def->bf
open Int renaming toNat_natCast->Ia,natAbs_natCast->tb,mul_ediv_cancel_left->Ob,toNat_of_nonneg->xc,natAbs_mul->xd,eq_ofNat_of_zero_le->Qd,sign_eq_one_of_pos->Gd,mul_neg->Me,sign_eq_neg_one_of_neg->Fe,natAbs_neg->Ee,one_mul->Ef,sub_eq_add_neg->ig,ofNat_dvd_left->gg,natCast_mul->Cg,natCast_add->Ag,neg_mul->fh,gcd->eh
open List renaming replicate->ya,length_take->xa,getD_eq_getElem?_getD->va,range->ua,getElem?_map->oa,getElem?_range->ga,cons_append->Pa,getElem?_eq_none->Oa,drop_of_length_le->Na,drop_zero->Ma,all_cons->La,getElem?_set->Ka,mem_of_mem_take->Da,getElem?_append_right->Ca,map_congr_left->yb,drop_eq_getElem_cons->xb,mem_range->gb,set_append_right->eb,length_replicate->Rb,length_map->Qb,ext_getElem?->Pb,all_eq_true->Mb,drop_set_of_lt->zc,set_cons_zero->tc,take_zero->oc,append_assoc->nc,take_length->ic,replicate_succ'->ec,range_succ->Qc,mem_map->Kc,take->Gc,map_singleton->Ec,getElem?_drop->Cc,getElem?_replicate->ud,length_eq_one_iff->Md,map_append->Kd,length_set->Jd,replicate_succ->ze,map_cons->xe,length_append->re,take_add_one->ke,map_nil->je,length_cons->ae,getElem?_eq_none_iff->Ie,getElem?_append_left->Ge,getElem?_set_self->Ae,take_append_drop->ff,length_singleton->ef,mem_cons_of_mem->Rf,map->Pf,getElem?_set_ne->Nf,mem_cons_self->ug,getElem?_take->qg,length_range->kg,length_drop->Qg,mem_append->Pg,length_nil->Og,set_set->uh
open Nat renaming le_refl->ea,gcd->Ga,le_of_ble_eq_true->ub,add_zero->qb,pow_succ->ob,mul_add->Lb,sub_self->Kb,pow_le_pow_right->Hb,mod_lt->Eb,mul_zero->Db,div_eq_of_lt->Cb,min_eq_left->uc,eq_zero_or_pos->pc,div_lt_iff_lt_mul->kc,one_mul->Rc,two_pow_pos->Pc,mul_le_mul_left->Mc,zero_add->Jc,sub_zero->Ic,mul_comm->Hc,mod_eq_of_lt->pd,le_mul_of_pos_right->cd,div_add_mod->Cd,pow_add->Ad,mul_assoc->ue,ble->ie,mul_mod_left->Qe,mul_ne_zero->Le,gcd_pos_of_pos_right->Ce,zero_mul->yf,zero_div->xf,pow_zero->uf,le_of_lt->rf,le_mul_of_pos_left->mf,add_comm->lf,pow_mul->Lf,div_one->Hf,add_mul->Gf,lt_of_lt_of_le->mg,lt_trichotomy->Rg,mul_add_mod->Fg,mul_add_div->Eg,div_le_self->Dg,gcd_comm->ph,mul_one->hh
open Option renaming map_some->Ja,some.inj->fc,some.injEq->yd,getD_some->me
open Rat renaming divInt_ofNat->ib,divInt->Ib,add_zero->Ld,sub_eq_add_neg->qe,zero_mkRat->Je,div_def->Mf,intCast_natCast->Af,num_natCast->Ng,num_intCast->Mg,num_eq_zero->Lg,den_natCast->Jg,den_intCast->Ig,mkRat_zero->xh,neg_mkRat->vh,zero_mul->qh,neg_num->mh,neg_den->lh
namespace Go.c6
open F
attribute [local irreducible] AA AF AL AC CQ AW BA A8 B3 BL CN D4 BP A1 B6 CF AB BG AH pw BV BO CS CY C2 BX CG BU CX
variable {L:Lib}
theorem lU:dg 1=[1]:=by rw[KB O'];simp [FY]
theorem AhQ (N:a5 L) (V:Nat) (q:Bool):Ev L 90 [.sl q ((dg V).map AM)] (.bool (decide (V=1))):=by
 have hv:=B2 V;have hD:=EF V;have h1:V=1->dg V=[1]:=λ h=>by rw[h,lU]
 generalize dg V=l at *;refine Ev.x N.T9 rfl rfl ?_;by_cases hl:l.length=1
 ·obtain ⟨d,rfl⟩:=Md.1 hl
  have e:V=d:=by rw[<-hv];simp [val]
  subst e;have hd:[V][(0:Int).toNat]? = some V:=rfl;repeat' (first|(apply AG<;>intro hc<;>try omega)|apply AR|(refine A4 V' ?_ rfl ?_;omega)|apply AE)<;>conv=>whnf
  ·exact VV O'
  ·exact RT O'
 ·repeat' (first|(apply AG<;>intro hc<;>try omega)|apply AR|apply AE)<;>conv=>whnf
  exact RT (λ h=>by rw[h1 h]at hl;simp at hl)
theorem YE (N:a5 L) (n q1 q2:Bool) (m d:N') (hm:Sm 549755813888 m) (hd:Sm 549755813888 d) (h0:val d≠0):Ev L 94 [.agg (rQ q1 q2 n m d)] (.agg (eQ (qv n m d))):=by
 have Ex:=λ q q'=>mT N.toc4 m d q q' hm.1 hd.1 hm.2 hd.2 h0
 have Lk:=FU n m;have sq:Sm 549755813888 (dg (val m/val d)):=hm.low (Dg _ _);have sr:Sm 549755813888 (dg (val m%val d)):=hd.low (rf (Eb _ O'));have hT:=λ q=>xJ N n q _ sq
 have hG:=λ q q'=>Ah4 N.toc4 d (dg (val m%val d)) q q' hd.1 sr.1 hd.2 sr.2
 rw[B2,show Ga (val d) (val m%val d)=Ga (val d) (zv n m).natAbs by rw[Lk,aQ,ph]]at hG;have Ou:=zQ (zv n m).natAbs h0;have Fc:=Nat.gcd_le_left (zv n m).natAbs (show 0<val d by omega);have hz:=JR (val m%val d);obtain ⟨e1,e2,e3⟩:=oZ (z:=zv n m) h0;unfold qv;generalize hGG:Ga (val d) (zv n m).natAbs=g at *;have h1:=λ q=>AhQ N g q
 refine Ev.x N.UB rfl rfl ?_;by_cases s8:val m%val d=0
 ·repeat' (first|(apply AG<;>intro hc<;>try omega)|apply AR|apply AE|refine AD (Ex _ _) ?_|refine AD (hT _) ?_)<;>conv=>whnf
  refine FV 1000 N.KM rfl rfl ?_;(repeat' (apply AE<;>conv=>whnf))
  refine ⟨rfl,?_⟩;conv=>whnf
  (repeat' (refine GS rfl ?_<;>conv=>whnf))
  have mi:g=val d:=by
   rw[<-hGG,Lk];exact Nat.gcd_eq_left (Nat.dvd_of_mod_eq_zero s8)
  have hv:=B2 (val m/val d);refine AY ?_ ?_
  ·show _=AV.agg (rQ _ _ _ _ _)
   rw[e1,e2,e3,Lk,mi,Nat.div_self O',FU,hv,lU];have hs:decide (zv n (dg (val m/val d))<0)=decide (zv n m<0):=by
    cases n
    ·rw[FA,FA];simp;omega
    ·rw[QA,QA,hv]
     congr 1;rw[eq_iff_iff];have h5:=Cd (val m) (val d);rw[s8,qb]at h5;constructor
     ·intro h6
      have h7:val m/val d≠0:=O'
      have:val m≠0:=λ h8=>h7 (by rw[h8,xf])
      omega
     ·intro h6
      have h7:val m/val d≠0:=λ h8=>by rw[h8,Db]at h5;omega
      omega
   rw[hs];rfl
  ·exact DK _
 ·by_cases Ak:g=1
  ·have My:=λ q=>xJ N n q m hm
   have Ke:=λ q=>aD N.toc4 d q hd.1 (by have:=hd.2;omega)
   repeat' (first|(apply AG<;>intro hc<;>try omega)|apply AR|apply AE|refine AD (Ex _ _) ?_|refine AD (hG _ _) ?_|refine FE (h1 _) (λ hf => ?_) (λ hf => ?_)|refine AD (My _) ?_|refine AD (Ke _) ?_)<;>conv=>whnf
   ·refine AY ?_ (dP _ _ _)
    show _=AV.agg (rQ _ _ _ _ _);rw[e1,e2,e3,Ak,Hf,Hf]
   ·exact absurd Ak hf
  ·have sg:Sm 549755813888 (dg g):=hd.low Fc
   have wg:=λ q q'=>mT N.toc4 m (dg g) q q' hm.1 sg.1 hm.2 sg.2 (by rw[B2];omega)
   have wi:=λ q q'=>mT N.toc4 d (dg g) q q' hd.1 sg.1 hd.2 sg.2 (by rw[B2];omega)
   rw[B2]at wg wi;repeat' (first|(apply AG<;>intro hc<;>try omega)|apply AR|apply AE|refine AD (Ex _ _) ?_|refine AD (hG _ _) ?_|refine FE (h1 _) (λ hf => ?_) (λ hf => ?_)|refine AD (wg _ _) ?_|refine AD (wi _ _) ?_)<;>conv=>whnf
   ·exact absurd hf Ak
   ·refine AY ?_ (dP _ _ _)
    show _=AV.agg (rQ _ _ _ _ _);rw[e1,e2,e3,Lk];have hs:n=decide (zv n m<0):=by
     have:val m≠0:=λ h=>s8 (by rw[h,Nat.zero_mod])
     cases n
     ·exact HH (by rw[FA];omega)
     ·exact NP (by rw[QA];omega)
    rw[<-hs]
theorem YF (N:a5 L) (m:N'):Ev L 91 [.sl false (m.map AM)] (.agg [.bool false,.sl false (m.map AM)]):=by
 refine Ev.x N.UA rfl rfl ?_;(repeat' (apply AE<;>conv=>whnf))
 exact AY rfl (uA _ _)
def Aek (n:Bool) (m d:N') (n':Bool) (m' d':N') (w:Bool) (k:Nat):Prop:=Sm k m'/\Sm k d'/\val d'≠0/\(w=true->val d'=1)/\qv n m d=mkRat (zv n' m') (val d')
theorem OO (N:a5 L) (n:Bool) (m d:N') (k:Nat) (hk:1<=k/\k<=549755813888) (hm:Sm k m) (hd:Sm k d) : ∃ n' m' d' w,Ev L 89 [.agg (rQ false false n m d)] (.agg [.bool n',.sl false (m'.map AM),.sl false (d'.map AM),.bool w])/\Aek n m d n' m' d' w k:=by
 have l7:=λ q q'=>QQ N.toc4 d [] q q' hd.1 X8 (by have:=hd.2;omega) Z'
 rw[J7]at l7;by_cases h1:d=[1]
 ·subst h1
  refine ⟨n,m,[1],true,?_,hm,hd,Y',λ_=>rfl,rfl⟩;refine Ev.x N.MN rfl rfl ?_;have hd:[1][(0:Int).toNat]? = some 1:=rfl;have zk:([1]:N').length=1:=rfl;repeat' (first|(apply AG<;>intro hc<;>try omega)|apply AR|(refine A4 V' ?_ rfl ?_;omega)|apply AE)<;>conv=>whnf
  exact AY rfl (Z3 _ _ _ _)
 have k7 : ∀ x,d[(0:Int).toNat]? = some x->(d.length:Int)=1->(x:Int)≠1:=λ x hx hl h=>by
  obtain ⟨y,rfl⟩:=Md.1 (show d.length=1 by omega);simp at hx;apply h1;congr 1;omega
 by_cases h0:val d=0
 ·refine ⟨false,[],[1],true,?_,VE _,qL hk.1 O',Y',λ_=>rfl,by unfold qv;rw[h0,xh,Adq,Je]⟩
  have hn:DL (val d) (0:Nat)=0:=(V7 O').symm;rw[hn]at l7;refine Ev.x N.MN rfl rfl ?_;have hD:=hd.1;repeat' (first|(apply AG<;>intro hc<;>try omega)|apply AR|(refine RY V' ?_ (λ e he hb => ?_);omega)|refine GS rfl ?_|apply AE|refine AD (l7 _ _) ?_)<;>conv=>whnf
  all_goals first
   | exact AY rfl (Z3 _ _ _ _)
   | exact AY rfl (Z3 false true [] [1])
   | exact absurd V' (k7 _ he V')
 ·refine ⟨n,m,d,false,?_,hm,hd,h0,(λ h=>by cases h),rfl⟩
  have hn:DL (val d) (0:Nat)=1:=(OE O').symm;rw[hn]at l7;have hD:=hd.1;refine Ev.x N.MN rfl rfl ?_;repeat' (first|(apply AG<;>intro hc<;>try omega)|apply AR|(refine RY V' ?_ (λ e he hb => ?_);omega)|apply AE|refine AD (l7 _ _) ?_)<;>conv=>whnf
  all_goals first
   | exact AY rfl (Z3 _ _ _ _)
   | exact AY rfl (Z3 false true [] [1])
   | exact absurd V' (k7 _ he V')
theorem nA (N:a5 L) (n q1 q2:Bool) (m d:N') (hm:Sm 549755813888 m) (hd:Sm 549755813888 d):Ev L 95 [.agg (rQ q1 q2 n m d)] (.agg (eQ (qv n m d))):=by
 obtain ⟨n',m',d',w,hr,s1,s2,s3,s4,s5⟩:=OO N n m d 549755813888 O' hm hd;have hl:=λ q1 q2=>YE N n' q1 q2 m' d' s1 s2 s3
 rw[s5];unfold qv at hl;refine Ev.x N.T7 rfl rfl ?_;repeat' (first|apply HY|apply AE|refine AD (hr) ?_|refine AD (hl _ _) ?_)<;>conv=>whnf
 exact AY rfl (DK _)
theorem yH (N:a5 L) (n q1 q2:Bool) (m d:N') (hm:Sm 549755813888 m) (hd:Sm 549755813888 d):Ev L 97 [.agg (rQ q1 q2 n m d)] (.int .i64 (o3 (qv n m d).num)):=by
 obtain ⟨n',m',d',w,hr,s1,s2,s3,s4,s5⟩:=OO N n m d 549755813888 O' hm hd;have hl:=λ q=>eL N n' q m' s1
 rw[s5,pA s3];refine Ev.x N.T5 rfl rfl ?_;repeat' (first|apply HY|apply AE|refine AD (hr) ?_|refine AD (hl _) ?_)<;>conv=>whnf
 exact CJ rfl
theorem kH (z:Int):AV.agg [.bool (decide (z<0)),.sl false ((dg z.natAbs).map AM),.sl false [[.int .u32 1]]] = .agg (eQ (z:Rat)):=by
 show _=AV.agg (rQ _ _ _ _ _);rw[Mg,Ig,lU];rfl
theorem GZ (N:a5 L) (z:Int) (hz : -9223372036854775808<=z/\z<=9223372036854775807):Ev L 96 [.int .i64 z] (.agg (eQ (z:Rat))):=by
 have h1:=mS N z hz;refine Ev.x N.T4 rfl rfl ?_;repeat' (first|apply AE|refine AD (h1) ?_)<;>conv=>whnf
 refine FV 1000 N.KM rfl rfl ?_;(repeat' (apply AE<;>conv=>whnf))
 refine ⟨rfl,?_⟩;conv=>whnf
 (repeat' (refine GS rfl ?_<;>conv=>whnf))
 exact AY (kH z) (DK _)
theorem XG {k l:Nat} {n1 n2:Bool} {a b:N'} (ha:Sm k a) (hb:Sm l b):Sm (k+l) (dg (zv n1 a*zv n2 b).natAbs):=ha.mul hb (by rw[xd,FU,FU])
theorem Yy {k:Nat} {x y:Int} (ha:Sm k (dg x.natAbs)) (hb:Sm k (dg y.natAbs)):Sm (k+1) (dg (x+y).natAbs):=ha.add hb (by rw[B2,B2];omega)
theorem yG (N:a5 L) (k:Nat) (hk:1<=k/\k<=68719476736) (n1 n2 q1 q2 q3 q4:Bool) (m1 d1 m2 d2:N') (gn:Sm k m1) (oh:Sm k d1) (gj:Sm k m2) (oi:Sm k d2) :
  Ev L 98 [.agg (rQ q1 q2 n1 m1 d1),.agg (rQ q3 q4 n2 m2 d2)] (.agg (eQ (qv n1 m1 d1+qv n2 m2 d2))):=by
 obtain ⟨a1,a2,a3,w1,z0,s1,s2,s3,s4,s5⟩:=OO N n1 m1 d1 k O' gn oh;obtain ⟨b1,b2,b3,w2,au,t1,t2,t3,t4,t5⟩:=OO N n2 m2 d2 k O' gj oi;rw[s5,t5];have hA:=λ q q'=>xH N a1 b1 q q' a2 b2 (s1.le O') (t1.le O')
 have xy:Sm (k+1) (dg (zv a1 a2+zv b1 b2).natAbs):=Yy (by rw[FU];exact s1.zq) (by rw[FU];exact t1.zq);by_cases hw:w1=true/\w2=true
 ·obtain ⟨rfl,rfl⟩:=hw
  rw[s4 rfl,t4 rfl,Sb O',Sd];generalize zv a1 a2+zv b1 b2=z at *;refine Ev.x N.MM rfl rfl ?_;repeat' (first|apply HY|apply AE|refine AD (z0) ?_|refine AD (au) ?_|refine AD (hA _ _) ?_)<;>conv=>whnf
  refine FV 1000 N.KM rfl rfl ?_;(repeat' (apply AE<;>conv=>whnf))
  refine ⟨rfl,?_⟩;conv=>whnf
  (repeat' (refine GS rfl ?_<;>conv=>whnf))
  exact AY (kH z) (DK _)
 ·have l7:=λ q q'=>QQ N.toc4 a3 b3 q q' s2.1 t2.1 (by have:=s2.2;omega) (by have:=t2.2;omega)
  by_cases Aj:val a3=val b3
  ·have hn:DL (val a3) (val b3)=0:=(V7 O').symm
   rw[hn]at l7;rw[<-Aj,Sb s3];generalize zv a1 a2+zv b1 b2=z at *;have hl:=λ q1 q2=>YE N (decide (z<0)) q1 q2 (dg z.natAbs) a3 (xy.le O') (s2.le O') s3
   unfold qv at hl;rw[F2]at hl;refine Ev.x N.MM rfl rfl ?_;cases w1<;>cases w2
   ·repeat' (first|(apply AG<;>intro hc<;>try omega)|apply HY|apply AE|refine AD (z0) ?_|refine AD (au) ?_|refine AD (hA _ _) ?_|refine AD (l7 _ _) ?_|refine AD (hl _ _) ?_)<;>conv=>whnf
    exact AY rfl (DK _)
   ·repeat' (first|(apply AG<;>intro hc<;>try omega)|apply HY|apply AE|refine AD (z0) ?_|refine AD (au) ?_|refine AD (hA _ _) ?_|refine AD (l7 _ _) ?_|refine AD (hl _ _) ?_)<;>conv=>whnf
    exact AY rfl (DK _)
   ·repeat' (first|(apply AG<;>intro hc<;>try omega)|apply HY|apply AE|refine AD (z0) ?_|refine AD (au) ?_|refine AD (hA _ _) ?_|refine AD (l7 _ _) ?_|refine AD (hl _ _) ?_)<;>conv=>whnf
    exact AY rfl (DK _)
   ·exact absurd ⟨rfl,rfl⟩ hw
  ·have hn:DL (val a3) (val b3)≠0:=by unfold DL;split<;>(try split)<;>omega
   generalize DL (val a3) (val b3)=cm at *;have dd:=λ q q'=>WI N a1 false q q' a2 b3 s1.1 t2.1 (by have:=s1.2;have:=t2.2;omega)
   have de:=λ q q'=>WI N b1 false q q' b2 a3 t1.1 s2.1 (by have:=t1.2;have:=s2.2;omega)
   have tp:=λ q q'=>mU N.toc4 a3 b3 q q' s2.1 t2.1 (by have:=s2.2;have:=t2.2;omega)
   have Ap:=YF N a3;have xg:=YF N b3;have g1:Sm (k+k) (dg (zv a1 a2*zv false b3).natAbs):=XG s1 t2;have g2:Sm (k+k) (dg (zv b1 b2*zv false a3).natAbs):=XG t1 s2;have g3:=Yy g1 g2;have g4:Sm (k+k) (dg (val a3*val b3)):=s2.mul t2 rfl;rw[gF s3 t3,<-FA b3,<-FA a3];have Dl:val a3*val b3≠0:=Le s3 t3;generalize zv a1 a2*zv false b3=x at *;generalize zv b1 b2*zv false a3=y at *;generalize val a3*val b3=D at *;have yn:=λ q q'=>xH N (decide (x<0)) (decide (y<0)) q q' (dg x.natAbs) (dg y.natAbs) (g1.le O') (g2.le O')
   rw[F2,F2]at yn;generalize x+y=z at *;have hl:=λ q1 q2=>YE N (decide (z<0)) q1 q2 (dg z.natAbs) (dg D) (g3.le O') (g4.le O') (by rw[B2];exact Dl)
   unfold qv at hl;rw[F2,B2]at hl;refine Ev.x N.MM rfl rfl ?_;cases w1<;>cases w2
   ·repeat' (first|(apply AG<;>intro hc<;>try omega)|apply HY|apply VW|apply AE|refine AD (z0) ?_|refine AD (au) ?_|refine AD (l7 _ _) ?_|refine AD (Ap) ?_|refine AD (xg) ?_|refine AD (dd _ _) ?_|refine AD (de _ _) ?_|refine AD (yn _ _) ?_|refine AD (tp _ _) ?_|refine AD (hl _ _) ?_)<;>conv=>whnf
    exact AY rfl (DK _)
   ·repeat' (first|(apply AG<;>intro hc<;>try omega)|apply HY|apply VW|apply AE|refine AD (z0) ?_|refine AD (au) ?_|refine AD (l7 _ _) ?_|refine AD (Ap) ?_|refine AD (xg) ?_|refine AD (dd _ _) ?_|refine AD (de _ _) ?_|refine AD (yn _ _) ?_|refine AD (tp _ _) ?_|refine AD (hl _ _) ?_)<;>conv=>whnf
    exact AY rfl (DK _)
   ·repeat' (first|(apply AG<;>intro hc<;>try omega)|apply HY|apply VW|apply AE|refine AD (z0) ?_|refine AD (au) ?_|refine AD (l7 _ _) ?_|refine AD (Ap) ?_|refine AD (xg) ?_|refine AD (dd _ _) ?_|refine AD (de _ _) ?_|refine AD (yn _ _) ?_|refine AD (tp _ _) ?_|refine AD (hl _ _) ?_)<;>conv=>whnf
    exact AY rfl (DK _)
   ·exact absurd ⟨rfl,rfl⟩ hw
theorem aG (N:a5 L) (k:Nat) (hk:1<=k/\k<=68719476736) (n1 n2 q1 q2 q3 q4:Bool) (m1 d1 m2 d2:N') (gn:Sm k m1) (oh:Sm k d1) (gj:Sm k m2) (oi:Sm k d2) :
  Ev L 99 [.agg (rQ q1 q2 n1 m1 d1),.agg (rQ q3 q4 n2 m2 d2)] (.agg (eQ (qv n1 m1 d1*qv n2 m2 d2))):=by
 obtain ⟨a1,a2,a3,w1,z0,s1,s2,s3,s4,s5⟩:=OO N n1 m1 d1 k O' gn oh;obtain ⟨b1,b2,b3,w2,au,t1,t2,t3,t4,t5⟩:=OO N n2 m2 d2 k O' gj oi;rw[s5,t5,oX];have dd:=λ q q'=>WI N a1 b1 q q' a2 b2 s1.1 t1.1 (by have:=s1.2;have:=t1.2;omega)
 have tp:=λ q q'=>mU N.toc4 a3 b3 q q' s2.1 t2.1 (by have:=s2.2;have:=t2.2;omega)
 have g1:Sm (k+k) (dg (zv a1 a2*zv b1 b2).natAbs):=XG s1 t1;have g4:Sm (k+k) (dg (val a3*val b3)):=s2.mul t2 rfl;have Dl:val a3*val b3≠0:=Le s3 t3;generalize zv a1 a2*zv b1 b2=z at *;by_cases hw:w1=true/\w2=true
 ·obtain ⟨rfl,rfl⟩:=hw
  rw[s4 rfl,t4 rfl,Rc,Sd];refine Ev.x N.PG rfl rfl ?_;repeat' (first|apply HY|apply AE|refine AD (z0) ?_|refine AD (au) ?_|refine AD (dd _ _) ?_)<;>conv=>whnf
  refine FV 1000 N.KM rfl rfl ?_;(repeat' (apply AE<;>conv=>whnf))
  refine ⟨rfl,?_⟩;conv=>whnf
  (repeat' (refine GS rfl ?_<;>conv=>whnf))
  exact AY (kH z) (DK _)
 ·generalize val a3*val b3=D at *
  have hl:=λ q1 q2=>YE N (decide (z<0)) q1 q2 (dg z.natAbs) (dg D) (g1.le O') (g4.le O') (by rw[B2];exact Dl)
  unfold qv at hl;rw[F2,B2]at hl;refine Ev.x N.PG rfl rfl ?_;cases w1<;>cases w2
  ·repeat' (first|apply HY|apply AE|refine AD (z0) ?_|refine AD (au) ?_|refine AD (dd _ _) ?_|refine AD (tp _ _) ?_|refine AD (hl _ _) ?_)<;>conv=>whnf
   exact AY rfl (DK _)
  ·repeat' (first|apply HY|apply AE|refine AD (z0) ?_|refine AD (au) ?_|refine AD (dd _ _) ?_|refine AD (tp _ _) ?_|refine AD (hl _ _) ?_)<;>conv=>whnf
   exact AY rfl (DK _)
  ·repeat' (first|apply HY|apply AE|refine AD (z0) ?_|refine AD (au) ?_|refine AD (dd _ _) ?_|refine AD (tp _ _) ?_|refine AD (hl _ _) ?_)<;>conv=>whnf
   exact AY rfl (DK _)
  ·exact absurd ⟨rfl,rfl⟩ hw
theorem Z4 (x:Rat) (e:Int):A3 (.c5 [.agg (eQ x),.int .i64 e]):=by
 simp only[A3,B7,and_true,true_and];exact ⟨CP _,CP _⟩
theorem AiG (N:a5 L) (k:Nat) (hk:1<=k/\k<=68719476736) (n1 n2 q1 q2 q3 q4:Bool) (m1 d1 m2 d2:N') (gn:Sm k m1) (oh:Sm k d1) (gj:Sm k m2) (oi:Sm k d2) (h0:qv n2 m2 d2≠0) :
  Ev L 100 [.agg (rQ q1 q2 n1 m1 d1),.agg (rQ q3 q4 n2 m2 d2)] (.c5 [.agg (eQ (qv n1 m1 d1/qv n2 m2 d2)),.int .i64 0]):=by
 obtain ⟨a1,a2,a3,w1,z0,s1,s2,s3,s4,s5⟩:=OO N n1 m1 d1 k O' gn oh;obtain ⟨b1,b2,b3,w2,au,t1,t2,t3,t4,t5⟩:=OO N n2 m2 d2 k O' gj oi;rw[t5]at h0;rw[s5,t5];have zf:zv b1 b2≠0:=λ h=>h0 ((oY t3).2 h)
 rw[AkO s3 t3 zf];have hS:=λ q=>eL N b1 q b2 (t1.le O')
 have um:o3 (zv b1 b2)≠0:=by unfold o3;split<;>(try split)<;>omega
 have dd:=λ q q'=>WI N a1 false q q' a2 b3 s1.1 t2.1 (by have:=s1.2;have:=t2.2;omega)
 have de:=λ q q'=>WI N false b1 q q' a3 b2 s2.1 t1.1 (by have:=t1.2;have:=s2.2;omega)
 have Ap:=YF N a3;have xg:=YF N b3;have g1:Sm (k+k) (dg (zv a1 a2*zv false b3).natAbs):=XG s1 t2;have g2:Sm (k+k) (dg (zv false a3*zv b1 b2).natAbs):=XG s2 t1;have hd:(zv false a3*zv b1 b2).natAbs=val a3*(zv b1 b2).natAbs:=by rw[xd,FU]
 have Dm:(zv false a3*zv b1 b2).sign=(zv b1 b2).sign:=by
  rw[Int.sign_mul,FA,Gd O',Ef]
 have qz:zv false a3*zv b1 b2≠0:=by
  intro h;rw[h]at Dm;exact zf (by simpa using Dm.symm)
 rw[<-hd,<-Dm,<-FA b3];generalize zv a1 a2*zv false b3=x at *;generalize zv false a3*zv b1 b2=y at *;generalize o3 (zv b1 b2)=sg at *;have hl:=λ q1 q2=>YE N (decide (x<0) != decide (y<0)) q1 q2 (dg x.natAbs) (dg y.natAbs) (g1.le O') (g2.le O') (by rw[B2];omega)
 unfold qv at hl;rw[Adr qz,B2]at hl;refine Ev.x N.TY rfl rfl ?_;repeat' (first|(apply AG<;>intro hc<;>try omega)|apply HY|apply VW|apply AE|refine AD (z0) ?_|refine AD (au) ?_|refine AD (hS _) ?_|refine AD (Ap) ?_|refine AD (xg) ?_|refine AD (dd _ _) ?_|refine AD (de _ _) ?_)<;>conv=>whnf
 refine FV 1000 N.PH rfl rfl ?_;(repeat' (apply AE<;>conv=>whnf))
 generalize decide (x<0)=p at *;generalize decide (y<0)=r at *;cases p<;>cases r;all_goals
  (conv=>whnf)
  refine ⟨rfl,?_⟩;conv=>whnf
  (repeat' (refine AD (hl _ _) ?_<;>conv=>whnf))
  exact AY rfl (Z4 _ _)
theorem K5 (l:N'):A3 (.sl false (l.map AM)):=by
 simp only[A3,true_and];exact CP l
theorem tH {M:Mem} {v:AV} {ky t z off len s:Nat} {l:N'} (hv:v = .row ky t z off len) (h:b9 M ky=some (s,.rw 1 (l.map AM))):V2 M v=none:=by
 subst hv;unfold V2;split
 ·rename_i e
  simp only[AV.row.injEq]at e;obtain ⟨rfl,_⟩:=e;rw[h];cases l with
  | nil=>rfl
  | cons a l=>cases l<;>rfl
 ·rfl
theorem G9 (N:a6 L) (l:N') (q:Bool) (hD:A7 l) (hl:l.length<=1099511627776):Ev L 101 [.sl q (l.map AM)] (.sl false ((dg (val l)).map AM)):=by
 refine Ev.x N.JA rfl rfl ?_;repeat' (first|apply AR|apply AE)<;>conv=>whnf
 refine CE (λ n=>n) (λ(n:Nat)=>n<=l.length /\ ∀ i,n<=i->i<l.length->l[i]? = some 0) (λ n=>[(3,.int .i64 n)]) (λ_=>[]) l.length ⟨ea _,λ i h1 h2=>O'⟩ ?_;intro n ⟨p1,p2⟩ ih;rcases n with _|n
 ·have hv:=HD hD p1 p2 (Or.inl rfl)
  rw[<-hv];clear ih;repeat' (first|(apply AG<;>intro hc<;>try omega)|apply AE)<;>conv=>whnf
  refine M5 (k:=0) (λ_=>rfl) O' ?_;conv=>whnf
  refine RQ (enc:=AM) (λ_=>rfl) F' F' ?_;conv=>whnf
  (repeat' ((refine C8 (λ_=>rfl) rfl ?_ ?_;(first|rfl|simp))<;>conv=>whnf))
  exact AY rfl (K5 _)
 ·have e1:((n+1:Nat):Int)-1=n:=O'
  repeat' (first|(apply AG<;>intro hc<;>try omega)|(apply BS;omega)|(refine RY V' ?_ (λ e he hb => ?_);omega)|apply AE)<;>conv=>whnf
  ·rw[e1]
   exact A9 [] (ih n O' ⟨O',λ i h1 h2=>by
    by_cases h:i=n
    ·subst h
     rw[e1,Ia]at he;rw[he];congr 1;omega
    ·exact p2 i O' h2⟩)
  ·rw[e1,Ia]at he
   have hv:=HD hD p1 p2 (Or.inr ⟨e,he,O'⟩);rw[<-hv];clear ih;refine M5 (k:=n+1) (λ_=>rfl) O' ?_;conv=>whnf
   refine RQ (enc:=AM) (λ_=>rfl) F' F' ?_;conv=>whnf
   (repeat' ((refine C8 (λ_=>rfl) rfl ?_ ?_;(first|rfl|simp))<;>conv=>whnf))
   exact AY rfl (K5 _)
theorem mW (N:a6 L) (a b:N') (q1 q2:Bool) (hA:A7 a) (hB:A7 b) (la:a.length<=1099511627776) (lb:b.length<=1099511627776):Ev L 102 [.sl q1 (a.map AM),.sl q2 (b.map AM)] (.int .i64 (DL (val a) (val b))):=by
 have t1:=λ q=>G9 N a q hA la
 have t2:=λ q=>G9 N b q hB lb
 have l1:=FN hA;have l2:=FN hB;have d1:=EF (val a);have d2:=EF (val b);refine Ev.x N.PK rfl rfl ?_;by_cases hlen:(dg (val a)).length=(dg (val b)).length
 ·have v1:=B2 (val a)
  have v2:=B2 (val b);generalize dg (val a)=X at *;generalize dg (val b)=Y at *;repeat' (first|(apply AG<;>intro hc<;>try omega)|(apply BS;omega)|apply AR|apply AE|refine AD (t1 _) ?_|refine AD (t2 _) ?_)<;>conv=>whnf
  refine CE (λ n=>n) (λ(n:Nat)=>n<=X.length/\X.drop n=Y.drop n) (λ n=>[(5,.int .i64 ((n:Int)-1))]) (λ_=>[]) X.length ⟨ea _,by rw[Na (ea _),Na O']⟩ ?_;intro n ⟨p1,p2⟩ ih;rcases n with _|n
  ·repeat' (first|(apply AG<;>intro hc<;>try omega)|apply AE)<;>conv=>whnf
   rw[Ma,Ma]at p2;exact CJ (V7 (by rw[<-v1,<-v2,p2]))
  ·have e1:((n+1:Nat):Int)-1=n:=O'
   rw[e1];obtain ⟨x,hx⟩:=H' X n;obtain ⟨y,hy⟩:=H' Y n;rcases Rg x y with h|h|h
   ·have:=jL d1 d2 hlen hx hy p2 h
    repeat' (first|(apply AG<;>intro hc<;>try omega)|(refine A4 V' ?_ rfl ?_;omega)|apply AE)<;>conv=>whnf
    exact CJ (JP O')
   ·subst h
    repeat' (first|(apply AG<;>intro hc<;>try omega)|(apply BS;omega)|(refine A4 V' ?_ rfl ?_;omega)|apply AE)<;>conv=>whnf
    refine BN [] B' (ih n O' ⟨O',?_⟩);obtain ⟨i1,e1⟩:=zS hx;obtain ⟨i2,e2⟩:=zS hy;rw[xb i1,xb i2,p2,e1,e2]
   ·have:=jL d2 d1 hlen.symm hy hx p2.symm h
    repeat' (first|(apply AG<;>intro hc<;>try omega)|(refine A4 V' ?_ rfl ?_;omega)|apply AE)<;>conv=>whnf
    exact CJ (OE O')
 ·rcases Rg (dg (val a)).length (dg (val b)).length with h1|h1|h1
  ·have:=ZG h1
   repeat' (first|(apply AG<;>intro hc<;>try omega)|apply AR|apply AE|refine AD (t1 _) ?_|refine AD (t2 _) ?_)<;>conv=>whnf
   exact CJ (JP O')
  ·exact absurd h1 hlen
  ·have:=ZG h1
   repeat' (first|(apply AG<;>intro hc<;>try omega)|apply AR|apply AE|refine AD (t1 _) ?_|refine AD (t2 _) ?_)<;>conv=>whnf
   exact CJ (OE O')
theorem rJ {y:N'} (i:Nat):val (y.take (i+1))=val (y.take i)+4294967296^i*y.getD i 0:=by
 rcases Nat.lt_or_ge i y.length with h|h
 ·rw[EO (zE h),HO (zE h)]
 ·rw[<-getD_none h,DM h,DM O'];omega
theorem xW (N:a6 L) (a b:N') (q1 q2:Bool) (hA:A7 a) (hB:A7 b) (la:a.length<=549755813888) (lb:b.length<=549755813888):Ev L 103 [.sl q1 (a.map AM),.sl q2 (b.map AM)] (.sl false ((dg (val a+val b)).map AM)):=by
 refine Ev.x N.PI rfl rfl ?_;(repeat' (apply AE<;>conv=>whnf))
 refine HK (λ i _ _=>a.length+b.length-i) (λ(i:Nat) (o:N') (c:Nat)=>(i<=a.length\/i<=b.length)/\o.length=i/\A7 o/\c<=1/\val o+4294967296^i*c=val (a.take i)+val (b.take i)) (λ i o c=>[(7,.int .i64 i),(6,.int .u64 (c:Int)),(5,.row 5 0 1 0 o.length)]) (λ i o c=>[(5,5,.rw 1 (o.map AM))]) 0 [] 0 ⟨O',rfl,X8,O',by simp [val]⟩ ?_;intro i o c ⟨p1,p2,p3,p4,p5⟩ ih;by_cases hi:i<a.length\/i<b.length
 ·have g1:=rJ (y:=a) i
  have g2:=rJ (y:=b) i;have k1:=SZ hA i;have k2:=SZ hB i;have g9 : ∀ t,t=c+a.getD i 0+b.getD i 0->val (o++[t%4294967296])+4294967296^(i+1)*(t/4294967296)=val (a.take (i+1))+val (b.take (i+1)):=λ t ht=>by
   have h3:=QI (val o) (4294967296^i) t;rw[NX,p2,g1,g2,ob];rw[h3,ht,Lb,Lb];omega
  by_cases h1:i<a.length
  ·obtain ⟨x,hx⟩:=H' a i h1
   have lu:=hA.at hx;rw[HO hx]at g9;by_cases h2:i<b.length
   ·obtain ⟨y,hy⟩:=H' b i h2
    have Ck:=hB.at hy;rw[HO hy]at g9;repeat' (first|(apply AG<;>intro hc<;>try omega)|(apply G5;omega)|(apply CD;omega)|apply GV|apply AR|(refine A4 V' ?_ rfl ?_;omega)|apply DG|apply AE)<;>conv=>whnf
    refine EE (enc:=AM) (((c+x+y)%4294967296:Nat)) rfl rfl rfl O' O' ?_;conv=>whnf
    repeat' (first|(apply AP;omega)|apply GH)<;>conv=>whnf
    refine BN [(5,46)] B' (ih (i+1) (o++[(c+x+y)%4294967296]) ((c+x+y)/4294967296) O' ⟨O',by simp;omega,p3.append (IP O'),O',?_⟩);exact g9 (c+x+y) O'
   ·rw[<-getD_none (show b.length<=i by omega)]at g9
    repeat' (first|(apply AG<;>intro hc<;>try omega)|(apply G5;omega)|(apply CD;omega)|apply GV|apply AR|(refine A4 V' ?_ rfl ?_;omega)|apply DG|apply AE)<;>conv=>whnf
    refine EE (enc:=AM) (((c+x)%4294967296:Nat)) rfl rfl rfl O' O' ?_;conv=>whnf
    repeat' (first|(apply AP;omega)|apply GH)<;>conv=>whnf
    refine BN [(5,46)] B' (ih (i+1) (o++[(c+x)%4294967296]) ((c+x)/4294967296) O' ⟨O',by simp;omega,p3.append (IP O'),O',?_⟩);exact g9 (c+x) O'
  ·obtain ⟨y,hy⟩:=H' b i
   have Ck:=hB.at hy;rw[HO hy,<-getD_none (show a.length<=i by omega)]at g9;repeat' (first|(apply AG<;>intro hc<;>try omega)|(apply G5;omega)|(apply CD;omega)|apply GV|apply AR|(refine A4 V' ?_ rfl ?_;omega)|apply DG|apply AE)<;>conv=>whnf
   refine EE (enc:=AM) (((c+y)%4294967296:Nat)) rfl rfl rfl O' O' ?_;conv=>whnf
   repeat' (first|(apply AP;omega)|apply GH)<;>conv=>whnf
   refine BN [(5,46)] B' (ih (i+1) (o++[(c+y)%4294967296]) ((c+y)/4294967296) O' ⟨O',by simp;omega,p3.append (IP O'),O',?_⟩);exact g9 (c+y) O'
 ·clear ih
  have hv:val (o++[c])=val a+val b:=by
   rw[DM O',DM O']at p5;rw[NX,p2,p5]
  have hT:=λ q=>G9 N (o++[c]) q (p3.append (IP O')) G'
  rw[hv]at hT;repeat' (first|(apply AG<;>intro hc<;>try omega)|(apply E0;omega)|apply AR|apply DG|apply AE)<;>conv=>whnf
  refine EE (enc:=AM) c rfl rfl rfl O' O' ?_;conv=>whnf
  repeat' (first|(refine C8 (λ_=>rfl) rfl ?_ ?_;(first|rfl|simp))|refine AD (hT _) ?_)<;>conv=>whnf
  exact AY rfl (K5 _)
theorem dS {a b:Nat} (h:b<=a):0<=DL a b:=by unfold DL;split<;>(try split)<;>omega
theorem Amd {V Y X p d e bw have' take w cz:Nat} (h:V+Y=X+p*bw) (h1:take=bw+e) (h2:(have'=d/\cz=0/\take<=d)\/(have'=d+4294967296/\cz=1/\d<take)) (h3:w+take=have'):V+p*w+(Y+p*e)=X+p*d+p*4294967296*cz:=by
 have h4:w+bw+e=d+4294967296*cz:=O'
 have h5:p*(w+bw+e)=p*(d+4294967296*cz):=by rw[h4]
 rw[Lb,Lb,Lb,<-ue]at h5;omega
theorem Vj (N:a6 L) (x y:N') (hX:A7 x) (hY:A7 y) (lx:x.length<=549755813888) (ly:y.length<=549755813888) (hle:val y<=val x) :
  AA L [It.lp KN.l1,It.c9 0,It.code (((BK.ops KN.zt false).dr [1,5,6,7,21,53,54] []).seq BK.ret)]
  [(7,AV.int IntKind.i64 0),(6,AV.int IntKind.u64 0),(5,AV.row 101021 0 1 0 x.length),(1,AV.sl false (Pf AM y))]
  [(101021,101021,BF.rw 1 (Pf AM x))]
  (RZ KN (AV.sl false (Pf AM (dg (val x-val y))))):=by
 refine HK (λ i _ _=>x.length-i) (λ(i:Nat) (o:N') (bw:Nat)=>i<=x.length/\o.length=x.length/\A7 o/\bw<=1/\o.drop i=x.drop i/\val (o.take i)+val (y.take i)=val (x.take i)+4294967296^i*bw) (λ i o bw=>[(7,.int .i64 i),(6,.int .u64 (bw:Int))]) (λ i o bw=>[(101021,101021,.rw 1 (o.map AM))]) 0 x 0 ⟨O',rfl,hX,O',rfl,by simp [val]⟩ ?_;intro i o bw ⟨p1,p2,p3,p4,p5,p6⟩ ih;by_cases hi:i<x.length
 ·obtain ⟨d,hd⟩:=H' o i
  have bg:=p3.at hd;have hxi:x[i]? = some d:=by
   have e1:(o.drop i)[0]? = (x.drop i)[0]? := by rw[p5]
   simpa [hd] using e1.symm
  have g1:=EO hxi;have g2:=rJ (y:=y) i;have ge:=SZ hY i;have g9 : ∀ have' take w cz,take=bw+y.getD i 0->((have'=d/\cz=0/\take<=d)\/(have'=d+4294967296/\cz=1/\d<take))->w+take=have'->val ((o.set i w).take (i+1))+val (y.take (i+1))=val (x.take (i+1))+4294967296^(i+1)*cz:=λ have' take w cz a1 a2 a3=>by
   rw[G4 O',g1,g2,ob];exact Amd p6 a1 a2 a3
  have qo : ∀ w,(o.set i w).drop (i+1)=x.drop (i+1):=λ w=>by
   rw[zc O'];have e1:(o.drop i).drop 1=(x.drop i).drop 1:=by rw[p5]
   simpa using e1
  by_cases hy:i<y.length
  ·obtain ⟨e,he⟩:=H' y i hy
   have Od:=hY.at he;rw[HO he]at g9;by_cases j9:d<bw+e
   ·have h3:=g9 (d+4294967296) (bw+e) (d+4294967296-(bw+e)) 1 O' (Or.inr ⟨rfl,rfl,j9⟩) O'
    repeat' (first|(apply AG<;>intro hc<;>try omega)|(apply AX;omega)|(apply G5;omega)|(apply J8;omega;omega)|(apply cU;omega)|(apply CD;omega)|(apply E0;omega)|apply AR|(refine A4 V' ?_ rfl ?_;omega)|refine K2 V' ?_|apply AE)<;>conv=>whnf
    refine F9 O' ?_;conv=>whnf
    repeat' (first|(apply AP;omega)|fail)<;>conv=>whnf
    exact BN [] B' (ih (i+1) (o.set i (d+4294967296-(bw+e))) 1 O' ⟨O',by simpa using p2,p3.set _ O',O',qo _,h3⟩)
   ·have h3:=g9 d (bw+e) (d-(bw+e)) 0 O' (Or.inl ⟨rfl,rfl,O'⟩) O'
    repeat' (first|(apply AG<;>intro hc<;>try omega)|(apply AX;omega)|(apply G5;omega)|(apply J8;omega;omega)|(apply CD;omega)|(apply E0;omega)|apply AR|(refine A4 V' ?_ rfl ?_;omega)|refine K2 V' ?_|apply AE)<;>conv=>whnf
    refine F9 O' ?_;conv=>whnf
    repeat' (first|(apply AP;omega)|fail)<;>conv=>whnf
    exact BN [] B' (ih (i+1) (o.set i (d-(bw+e))) 0 O' ⟨O',by simpa using p2,p3.set _ O',O',qo _,h3⟩)
  ·rw[<-getD_none (show y.length<=i by omega)]at g9
   by_cases j9:d<bw
   ·have h3:=g9 (d+4294967296) (bw) (d+4294967296-(bw)) 1 O' (Or.inr ⟨rfl,rfl,j9⟩) O'
    repeat' (first|(apply AG<;>intro hc<;>try omega)|(apply AX;omega)|(apply J8;omega;omega)|(apply cU;omega)|(apply CD;omega)|(apply E0;omega)|apply AR|refine K2 V' ?_|apply AE)<;>conv=>whnf
    refine F9 O' ?_;conv=>whnf
    repeat' (first|(apply AP;omega)|fail)<;>conv=>whnf
    exact BN [] B' (ih (i+1) (o.set i (d+4294967296-(bw))) 1 O' ⟨O',by simpa using p2,p3.set _ O',O',qo _,h3⟩)
   ·have h3:=g9 d (bw) (d-(bw)) 0 O' (Or.inl ⟨rfl,rfl,O'⟩) O'
    repeat' (first|(apply AG<;>intro hc<;>try omega)|(apply AX;omega)|(apply J8;omega;omega)|(apply CD;omega)|(apply E0;omega)|apply AR|refine K2 V' ?_|apply AE)<;>conv=>whnf
    refine F9 O' ?_;conv=>whnf
    repeat' (first|(apply AP;omega)|fail)<;>conv=>whnf
    exact BN [] B' (ih (i+1) (o.set i (d-(bw))) 0 O' ⟨O',by simpa using p2,p3.set _ O',O',qo _,h3⟩)
 ·obtain rfl:i=x.length:=O'
  clear ih;rw[DM O',DM (ea _)]at p6;have h1:=FZ p3;rw[p2]at h1;have h2:val (y.take x.length)<=val y:=by have:=XN y x.length;omega
  have zf:bw=0:=by
   rcases pc bw with h|h
   ·exact h
   ·have:bw=1:=O'
    subst this;omega
  subst zf;have hve:val (y.take x.length)=val y:=by
   have h3:=XN y x.length;rcases pc (val (y.drop x.length)) with h|h
   ·rw[h]at h3;omega
   ·have h4:4294967296^x.length*1<=4294967296^x.length*val (y.drop x.length):=Mc _ h
    have h5:=FZ hX;omega
  have hv:val o=val x-val y:=O'
  have hT:=λ q=>G9 N o q p3 O'
  rw[<-hv,<-p2];repeat' (first|(apply AG<;>intro hc<;>try omega)|(refine C8 (λ_=>rfl) rfl ?_ ?_;(first|rfl|simp))|apply AE|refine AD (hT _) ?_)<;>conv=>whnf
  exact AY rfl (K5 _)
theorem mX (N:a6 L) (a b:N') (q1 q2:Bool) (hA:A7 a) (hB:A7 b) (la:a.length<=549755813888) (lb:b.length<=549755813888):Ev L 104 [.sl q1 (a.map AM),.sl q2 (b.map AM)] (.sl false ((dg (val a-val b)).map AM)):=by
 have l7:=λ q q'=>mW N a b q q' hA hB O' O'
 have t2:=λ q=>G9 N b q hB O'
 refine Ev.x N.KN rfl rfl ?_;by_cases j9:val a<val b
 ·rw[<-JP O']at l7
  rw[show val a-val b=0 by omega,FY];repeat' (first|(apply AG<;>intro hc<;>try omega)|apply AE|refine AD (l7 _ _) ?_)<;>conv=>whnf
  exact AY rfl (K5 [])
 ·have mi:=dS (show val b<=val a by omega)
  generalize DL (val a) (val b)=cm at *;have d2:=EF (val b);have v2:=B2 (val b);have l2:=FN hB;rw[<-v2];rw[<-v2]at j9;generalize dg (val b)=y at *;have Kn : ∀ n,a.take n=dg (val a)->val (a.take n)=val a:=λ n h=>by rw[h,B2]
  repeat' (first|(apply AG<;>intro hc<;>try omega)|apply AE|refine AD (l7 _ _) ?_|refine AD (t2 _) ?_)<;>conv=>whnf
  refine GU 1000 N.JA rfl rfl ?_;repeat' (first|apply AR|apply AE)<;>conv=>whnf
  refine CE (λ n=>n) (λ(n:Nat)=>n<=a.length /\ ∀ i,n<=i->i<a.length->a[i]? = some 0) (λ n=>[(3,.int .i64 n)]) (λ_=>[]) a.length ⟨ea _,λ i h1 h2=>O'⟩ ?_;intro n ⟨p1,p2⟩ ih;rcases n with _|n
  ·have hv:=Kn _ (HD hA p1 p2 (Or.inl rfl))
   clear ih;repeat' (first|(apply AG<;>intro hc<;>try omega)|apply AE)<;>conv=>whnf
   refine M5 (k:=0) (λ_=>rfl) O' ?_;conv=>whnf
   refine RQ (enc:=AM) (λ_=>rfl) F' F' ?_;conv=>whnf
   refine ⟨rfl,_,rfl,?_⟩;conv=>whnf
   skip
   rw[<-hv];exact BN [] B' (Vj N (a.take 0) y (hA.take _) d2 Z' O' O')
  ·have e1:((n+1:Nat):Int)-1=n:=O'
   repeat' (first|(apply AG<;>intro hc<;>try omega)|(apply BS;omega)|(refine RY V' ?_ (λ e he hb => ?_);omega)|apply AE)<;>conv=>whnf
   ·rw[e1]
    exact A9 [] (ih n O' ⟨O',λ i h1 h2=>by
     by_cases h:i=n
     ·subst h
      rw[e1,Ia]at he;rw[he];congr 1;omega
     ·exact p2 i O' h2⟩)
   ·rw[e1,Ia]at he
    have hv:=Kn _ (HD hA p1 p2 (Or.inr ⟨_,he,O'⟩));clear ih;refine M5 (k:=n+1) (λ_=>rfl) O' ?_;conv=>whnf
    refine RQ (enc:=AM) (λ_=>rfl) F' F' ?_;conv=>whnf
    refine ⟨rfl,_,rfl,?_⟩;conv=>whnf
    skip
    rw[<-hv];exact BN [] B' (Vj N (a.take (n+1)) y (hA.take _) d2 F' O' O')
theorem Aim (N:a6 L) (x y:N') (q1 q2:Bool) (hA:A7 x) (hB:A7 y) (lab:x.length+y.length<=549755813888):Ev L 105 [.sl q1 (x.map AM),.sl q2 (y.map AM)] (.sl false ((dg (val x*val y)).map AM)):=by
 refine Ev.x N.MO rfl rfl ?_;repeat' (first|(apply AP;omega)|apply AR|apply AE)<;>conv=>whnf
 refine DW (enc:=AM) 0 (x.length+y.length+1) rfl O' O' ?_;conv=>whnf
 skip
 refine FJ (λ i _=>x.length-i) (λ(i:Nat) (o:N')=>i<=x.length/\o.length=x.length+y.length+1/\A7 o/\val o=val (x.take i)*val y /\ ∀ k,i+y.length<=k->k<o.length->o[k]? = some 0) (λ i o=>[(6,.int .i64 i)]) (λ i o=>[(15,15,.rw 1 (o.map AM))]) 0 (ya (x.length+y.length+1) 0) ⟨O',Z',KC _,by simp [val,jP],λ k h1 h2=>by simp at h2;simp [h2]⟩ ?_;intro i O ⟨p1,p2,p3,p4,p5⟩ ih;by_cases hi:i<x.length
 ·obtain ⟨d,hd⟩:=H' x i hi
  have bg:=hA.at hd;repeat' (first|(apply AG<;>intro hc<;>try omega)|apply AR|apply AE)<;>conv=>whnf
  refine HK (λ j _ _=>y.length-j) (λ(j:Nat) (o:N') (c:Nat)=>j<=y.length/\o.length=x.length+y.length+1/\A7 o/\c<4294967296/\val o+4294967296^(i+j)*c=val O+4294967296^i*(d*val (y.take j)) /\ ∀ k,i+j<=k->o[k]? = O[k]?) (λ j o c=>[(7,.int .u64 (c:Int)),(8,.int .i64 j)]) (λ j o c=>[(15,15,.rw 1 (o.map AM))]) 0 O 0 ⟨O',p2,p3,O',by simp [val],λ_ _=>rfl⟩ ?_;intro j o c ⟨r1,r2,r3,r4,r5,r6⟩ jh;have e1:((i:Int)+j).toNat=i+j:=O'
  by_cases hj:j<y.length
  ·obtain ⟨w,hw⟩:=H' y j hj
   have ye:=hB.at hw;have hm:=YW bg ye;repeat' (first|(apply AG<;>intro hc<;>try omega)|(apply AX;omega)|(apply AP;omega)|(apply G5;omega)|(apply QC;omega)|(apply CD;omega)|apply GV|apply AR|(refine A4 V' ?_ rfl ?_;omega)|(refine sF V' ?_ (λ v hv hb => ?_);omega)|apply AE)<;>conv=>whnf
   refine dE (i+j) O' O' ?_;conv=>whnf
   repeat' (first|(apply AP;omega)|apply GH)<;>conv=>whnf
   refine BN [] B' (jh (j+1) _ _ O' ⟨O',by simpa using r2,r3.set _ O',O',?_,?_⟩)
   ·have h1:=jM (v:=(c+(d*w+v))%4294967296) hv
    have h2:=QI 0 (4294967296^(i+j)) (c+(d*w+v));rw[EO hw,show i+(j+1)=i+j+1 by omega,ob (4294967296) (i+j)];have h3:4294967296^i*(d*(val (y.take j)+4294967296^j*w))=4294967296^i*(d*val (y.take j))+4294967296^(i+j)*(d*w):=by rw[Ad];grind
    rw[h3];generalize 4294967296^(i+j)=P at *;rw[Lb P c,Lb P]at h2;omega
   ·intro k hk
    rw[Nf O'];exact r6 k O'
  ·obtain rfl:j=y.length:=O'
   clear jh;have hz:=r6 (i+y.length) O';rw[p5 (i+y.length) O' O']at hz;repeat' (first|(apply AG<;>intro hc<;>try omega)|(apply AX;omega)|(apply AP;omega)|(apply E0;omega)|apply AR|apply AE)<;>conv=>whnf
   refine dE (i+y.length) O' O' ?_;conv=>whnf
   repeat' (first|(apply AP;omega)|fail)<;>conv=>whnf
   refine BN [] B' (ih (i+1) _ O' ⟨O',by simpa using r2,r3.set _ O',?_,?_⟩)
   ·have h1:=jM (v:=c) hz
    rw[Db,qb]at h1;rw[h1,r5,p4,DM (ea _),EO hd,Gf,ue]
   ·intro k h1 h2
    rw[Jd]at h2;rw[Nf O',r6 k O'];exact p5 k O' O'
 ·obtain rfl:i=x.length:=O'
  clear ih;rw[DM (ea _)]at p4;have hT:=λ q=>G9 N O q p3 O'
  rw[p4]at hT;rw[<-p2];repeat' (first|(apply AG<;>intro hc<;>try omega)|apply AR|(refine C8 (λ_=>rfl) rfl ?_ ?_;(first|rfl|simp))|apply AE|refine AD (hT _) ?_)<;>conv=>whnf
  exact AY rfl (K5 _)
theorem Af5 {d:Nat} (h0:d≠0) (hd:d<4294967296):dg d=[d]:=by
 rw[KB h0,Cb hd,FY,pd hd]
theorem Aik (N:a6 L) (d:Nat) (q:Bool) (h0:d≠0) (hd:d<4294967296):Ev L 106 [.sl q ([d].map AM)] (.int .i64 (n9 d:Int)):=by
 have hT:=λ q=>G9 N [d] q (IP hd) Z'
 rw[show val [d]=d by simp [val],Af5 h0 hd]at hT;have zk:[d].length=1:=rfl;have vb:[d][(([d].length:Int)-1).toNat]? = some d:=rfl;have hb:=dI (k:=32) hd;refine Ev.x N.PJ rfl rfl ?_;repeat' (first|(apply AG<;>intro hc<;>try omega)|(apply BS;omega)|(apply FL;omega)|apply AR|(refine A4 V' ?_ rfl ?_;omega)|apply AE|refine AD (hT _) ?_)<;>conv=>whnf
 refine FJ (λ_ x=>x) (λ(n x:Nat)=>n+n9 x=n9 d/\x<=d) (λ n x=>[(3,.int .i64 n),(4,.int .u32 (x:Int))]) (λ_ _=>[]) 0 d ⟨O',ea _⟩ ?_;intro n x ⟨p1,p2⟩ ih;by_cases hx:x=0
 ·subst hx
  have:n9 0=0:=by unfold n9;simp
  repeat' (first|(apply AG<;>intro hc<;>try omega)|apply AE)<;>conv=>whnf
  exact CJ O'
 ·have h1:n9 (x/2)+1=n9 x:=by
   by_cases h1:x=1
   ·subst h1;decide
   ·exact ZY 1 (x:=x) O'
  repeat' (first|(apply AG<;>intro hc<;>try omega)|(apply AP;omega)|apply Aeb|apply AE)<;>conv=>whnf
  exact A9 [] (ih (n+1) (x/2) O' ⟨O',O'⟩)
theorem Xj {V P X lo s d p t:Nat} (h:V+P*p*lo=P*(X*2^s)) (ht:t=lo+d*2^s):V+P*p*(t%4294967296)+P*p*4294967296*(t/4294967296)=P*((X+p*d)*2^s):=by
 have h1:=QI V (P*p) t;rw[h1,ht];have:P*((X+p*d)*2^s)=P*(X*2^s)+P*p*(d*2^s):=A'
 rw[this,<-h,Lb];omega
theorem xY (N:a6 L) (l:N') (q:Bool) (n:Nat) (hD:A7 l) (hl:l.length<=549755813888) (hn:n<=65536):Ev L 107 [.sl q (l.map AM),.int .i64 (n:Int)] (.sl false ((dg (val l*2^n)).map AM)):=by
 have hT:=λ q=>G9 N l q hD O'
 have d1:=EF (val l);have v1:=B2 (val l);have l1:=FN hD;have hz:=JR (val l);refine Ev.x N.I9 rfl rfl ?_;by_cases h0:val l=0
 ·rw[h0,yf,FY]
  repeat' (first|(apply AG<;>intro hc<;>try omega)|apply AR|apply AE|refine AD (hT _) ?_)<;>conv=>whnf
  exact AY rfl (K5 [])
 rw[<-v1];generalize dg (val l)=x at *;have dj:n%32<32:=Eb _ O';have e1:(n:Int)/32=((n/32:Nat):Int):=O'
 have e2:(n:Int)%32=((n%32:Nat):Int):=O'
 repeat' (first|(apply AG<;>intro hc<;>try omega)|(refine IZ ?_ ?_ (λ_ => ?_) (λ_ _ => ?_);omega;omega;all_goals try omega)|apply AR|apply AE|refine AD (hT _) ?_)<;>conv=>whnf
 rw[e1];refine DW (enc:=AM) 0 (n/32) rfl rfl O' ?_;conv=>whnf
 skip
 refine HK (λ i _ _=>x.length-i) (λ(i:Nat) (o:N') (c:Nat)=>i<=x.length/\o.length=n/32+i/\A7 o/\c<2^(n%32)/\val o+4294967296^(n/32)*4294967296^i*c=4294967296^(n/32)*(val (x.take i)*2^(n%32))) (λ i o c=>[(10,.int .i64 i),(9,.int .u64 (c:Int)),(8,.row 107069 0 1 0 (n/32+i))]) (λ i o c=>[(107069,107069,.rw 1 (o.map AM))]) 0 (ya (n/32) 0) 0 ⟨O',Z',KC _,Pc _,by simp [val,jP]⟩ ?_;intro i o c ⟨p1,p2,p3,p4,p5⟩ ih;have vf:=bD (s:=n%32) O';by_cases hi:i<x.length
 ·obtain ⟨d,hd⟩:=H' x i hi
  have bg:=d1.at hd;obtain ⟨f1,f2,f3,f4⟩:=XF (s:=n%32) bg O';have hr:=gI (show n%32<=64 by omega) f4;repeat' (first|(apply AG<;>intro hc<;>try omega)|(refine N2 ?_ (λ_ _ _ => ?_) (λ_ _ _ _ => ?_);omega;all_goals try omega)|(apply CD;omega)|apply AR|(refine A4 V' ?_ rfl ?_;omega)|apply AE)<;>conv=>whnf
  rw[e2];refine QF O' f4 ?_;conv=>whnf
  skip
  refine cV (n%32) (Qe _ _) p4 O' ?_;conv=>whnf
  have g9:=Xj (d:=d) p5 rfl;have im:(c+d*2^(n%32))/4294967296<2^(n%32):=by
   rw[kc O'];have:=zR (2^(n%32)) (show d<=4294967295 by omega)
   omega
  generalize c+d*2^(n%32)=t at *;repeat' (first|apply GV|apply DG)<;>conv=>whnf
  refine EE (enc:=AM) (t%4294967296) rfl p2.symm rfl O' O' ?_;conv=>whnf
  repeat' (first|(apply AP;omega)|apply GH)<;>conv=>whnf
  rw[show (o++[t%4294967296]).length=n/32+(i+1) by simp [p2];omega];refine BN [(107069,107091)] B' (ih (i+1) (o++[t%4294967296]) (t/4294967296) O' ⟨O',by simp;omega,p3.append (IP O'),im,?_⟩);rw[NX,p2,EO hd,Ad,ob,<-ue];exact g9
 ·obtain rfl:i=x.length:=O'
  clear ih;have zh:c<4294967296:=O'
  have hOD:A7 (o++[c]):=p3.append (IP zh);have Gv:val (o++[c])=val x*2^n:=by
   rw[NX,p2,Ad,p5,DM (ea _)];have e3:2^n=4294967296^(n/32)*2^(n%32):=by
    rw[show 4294967296=2^32 from rfl,<-Lf,<-Ad];congr 1;omega
   rw[e3];grind
  have Gu:(o++[c]).length=n/32+x.length+1:=by simp [p2]
  repeat' (first|(apply AG<;>intro hc<;>try omega)|(apply E0;omega)|apply AR|apply DG|apply AE)<;>conv=>whnf
  refine EE (enc:=AM) c rfl p2.symm rfl O' O' ?_;conv=>whnf
  rw[<-Gv,Gu];generalize o++[c]=O at *;rw[<-Gu];clear p3 p4 p5 Gv;refine GU 1000 N.JA rfl rfl ?_;(repeat' (apply AE<;>conv=>whnf))
  refine CE (λ n=>n) (λ(n:Nat)=>n<=(O).length /\ ∀ i,n<=i->i<(O).length->(O)[i]? = some 0) (λ n=>[(3,.int .i64 n)]) (λ_=>[]) (O).length ⟨ea _,λ i h1 h2=>O'⟩ ?_;intro n ⟨p1,p2⟩ ih;rcases n with _|n
  ·repeat' (first|(apply AG<;>intro hc<;>try omega)|apply AE)<;>conv=>whnf
   refine HV 0 O' O' ?_;conv=>whnf
   have bp:=HD (l:=O) V' p1 p2 (Or.inl rfl);have l9:(Gc 0 O).length<=(O).length:=by rw[xa];omega
   clear ih p2;refine dC (enc:=AM) O' ?_;conv=>whnf
   rw[Ma,Ic];generalize Mx:Gc 0 O=T0 at *;refine RQ (enc:=AM) (λ_=>rfl) O' O' ?_;conv=>whnf
   refine ⟨rfl,_,rfl,?_⟩;conv=>whnf
   (refine C8 (enc:=AM) (λ_=>rfl) rfl rfl ?_;(conv=>whnf);exact AY (by rw[<-bp]) (K5 _))
  ·have e1:((n+1:Nat):Int)-1=n:=O'
   repeat' (first|(apply AG<;>intro hc<;>try omega)|(apply AX;omega)|(apply BS;omega)|(refine VZ V' ?_ (λ v hv hb => ?_);omega)|apply AE)<;>conv=>whnf
   ·rw[e1]
    exact A9 [] (ih n O' ⟨O',λ i h1 h2=>by
     by_cases h:i=n
     ·subst h
      rw[e1,Ia]at hv;rw[hv];congr 1;omega
     ·exact p2 i O' h2⟩)
   ·refine HV (n+1) O' O' ?_
    (conv=>whnf)
    rw[e1,Ia]at hv;have bp:=HD (l:=O) V' p1 p2 (Or.inr ⟨_,hv,O'⟩);have l9:(Gc (n+1) O).length<=(O).length:=by rw[xa];omega
    clear ih p2 hv;(rw[tH (l:=O)];rotate_left;exact rfl;exact rfl);conv=>whnf
    refine dC (enc:=AM) O' ?_;conv=>whnf
    rw[Ma,Ic];generalize Mx:Gc (n+1) O=T0 at *;refine RQ (enc:=AM) (λ_=>rfl) O' O' ?_;conv=>whnf
    refine ⟨rfl,_,rfl,?_⟩;conv=>whnf
    (refine C8 (enc:=AM) (λ_=>rfl) rfl rfl ?_;(conv=>whnf);exact AY (by rw[<-bp]) (K5 _))
theorem Ant {l:N'} (hD:A7 l) (k:Nat) (hk:k<=l.length):val (l.drop k)=val l/4294967296^k:=by
 have h1:=LI l k hk;have h2:=FZ (hD.take k);rw[xa,uc hk]at h2;rw[h1,Nat.add_mul_div_left _ _ (Nat.pow_pos O'),Cb h2,Jc]
theorem AlB (n:Nat):2^n=4294967296^(n/32)*2^(n%32):=by
 rw[show 4294967296=2^32 from rfl,<-Lf,<-Ad];congr 1;omega
theorem AgY {d e V r:Nat} (hd:d<4294967296) (hr:r<32):(d+e*4294967296)/2^r%4294967296+4294967296*((e+4294967296*V)/2^r)=(d+4294967296*(e+4294967296*V))/2^r:=by
 obtain ⟨f1,f2,f3⟩:=Th (V:=e) hd (show r<=32 by omega);rw[oR (d:=d) (V:=e+4294967296*V) O',Ti (d:=e) (V:=V) O'];have h1:=oR (d:=d) (V:=e) (s:=r) O';rw[show d+e*4294967296=d+4294967296*e by omega,h1];clear h1;generalize d/2^r=A at *;generalize e%2^r*2^(32-r)=Q at *;generalize e/2^r=Z at *;generalize 2^(32-r)=P at *;omega
theorem Ain (N:a6 L) (l:N') (q:Bool) (n:Nat) (hD:A7 l) (hl:l.length<=549755813888) (hn:1<=n/\n<=65536):Ev L 107 [.sl q (l.map AM),.int .i64 (-(n:Int))] (.sl false ((dg (val l/2^n)).map AM)):=by
 have hT:=λ q=>G9 N l q hD O'
 have d1:=EF (val l);have v1:=B2 (val l);have l1:=FN hD;have hz:=JR (val l);refine Ev.x N.I9 rfl rfl ?_;by_cases h0:val l=0
 ·rw[h0,xf,FY]
  repeat' (first|(apply AG<;>intro hc<;>try omega)|apply AR|apply AE|refine AD (hT _) ?_)<;>conv=>whnf
  exact AY rfl (K5 [])
 rw[<-v1];generalize dg (val l)=x at *;have Qf:n%32<32:=Eb _ O';have e1:(- -(n:Int))/32=((n/32:Nat):Int):=O'
 have e2:(- -(n:Int))%32=((n%32:Nat):Int):=O'
 by_cases Az3:32*x.length<n
 ·have j9:val x/2^n=0:=by
   refine Cb (mg (FZ d1) ?_);rw[show 4294967296=2^32 from rfl,<-Lf];exact Hb O' O'
  rw[j9,FY];repeat' (first|(apply AG<;>intro hc<;>try omega)|(apply FL;omega)|apply AR|apply AE|refine AD (hT _) ?_)<;>conv=>whnf
  exact AY rfl (K5 [])
 have hk:n/32<=x.length:=O'
 have hvd:=Ant d1 _ hk;repeat' (first|(apply AG<;>intro hc<;>try omega)|(apply FL;omega)|(refine IZ ?_ ?_ (λ_ => ?_) (λ_ _ => ?_);omega;omega;all_goals try omega)|(apply CQ.neg;omega)|apply AR|apply AE|refine AD (hT _) ?_)<;>conv=>whnf
 rw[e1];refine FJ (λ i _=>x.length-i) (λ(i:Nat) (o:N')=>n/32<=i/\i<=x.length/\o.length=i-n/32/\A7 o/\val o+4294967296^(i-n/32)*(val (x.drop i)/2^(n%32))=val (x.drop (n/32))/2^(n%32)) (λ i o=>[(6,.int .i64 i),(5,.row 107005 0 1 0 o.length)]) (λ i o=>[(107005,107005,.rw 1 (o.map AM))]) (n/32) [] ⟨ea _,hk,Z',X8,by simp [val]⟩ ?_;intro i o ⟨p0,p1,p2,p3,p5⟩ ih;by_cases hi:i<x.length
 ·obtain ⟨d,hd⟩:=H' x i hi
  have bg:=d1.at hd;have g1:=II hd;have g2:=XM x (i+1);have g3:=AgY (e:=x.getD (i+1) 0) (V:=val (x.drop (i+1+1))) bg Qf;rw[<-g2,<-g1]at g3;have key : ∀ t,t=d+x.getD (i+1) 0*4294967296->val (o++[t/2^(n%32)%4294967296])+4294967296^(i+1-n/32)*(val (x.drop (i+1))/2^(n%32))=val (x.drop (n/32))/2^(n%32):=λ t ht=>by
   rw[NX,p2,show i+1-n/32=(i-n/32)+1 by omega,ob,ht,Nat.add_assoc,ue,<-Lb,g3];exact p5
  by_cases hy:i+1<x.length
  ·obtain ⟨e,he⟩:=H' x (i+1) hy
   have Od:=d1.at he;have iq:x[((i:Int)+1).toNat]? = some e:=by rw[show ((i:Int)+1).toNat=i+1 by omega];exact he
   rw[HO he]at key;repeat' (first|(apply AG<;>intro hc<;>try omega)|(apply AP;omega)|(apply N1;omega)|(apply CD;omega)|apply AR|(refine A4 V' ?_ rfl ?_;omega)|apply AE)<;>conv=>whnf
   refine cV 32 (Qe _ _) O' O' ?_;conv=>whnf
   repeat' (first|(refine N2 ?_ (λ_ _ _ => ?_) (λ_ _ _ _ => ?_);omega;all_goals try omega)|(apply CD;omega))<;>conv=>whnf
   rw[e2];refine QE (n:=n%32) (by show n%32<=64;omega) ?_;conv=>whnf
   repeat' (first|apply GV|apply DG)<;>conv=>whnf
   refine EE (enc:=AM) ((d+e*4294967296)/2^(n%32)%4294967296) rfl rfl rfl O' O' ?_;conv=>whnf
   repeat' (first|(apply AP;omega)|fail)<;>conv=>whnf
   exact A9 [(107005,107064)] (ih (i+1) (o++[(d+e*4294967296)/2^(n%32)%4294967296]) O' ⟨O',O',by simp;omega,p3.append (IP O'),key (d+e*4294967296) rfl⟩)
  ·rw[<-getD_none (show x.length<=i+1 by omega),yf]at key
   repeat' (first|(apply AG<;>intro hc<;>try omega)|(apply AP;omega)|(refine N2 ?_ (λ_ _ _ => ?_) (λ_ _ _ _ => ?_);omega;all_goals try omega)|(apply CD;omega)|apply AR|(refine A4 V' ?_ rfl ?_;omega)|apply AE)<;>conv=>whnf
   rw[e2];refine QE (n:=n%32) (by show n%32<=64;omega) ?_;conv=>whnf
   repeat' (first|apply GV|apply DG)<;>conv=>whnf
   refine EE (enc:=AM) (d/2^(n%32)%4294967296) rfl rfl rfl O' O' ?_;conv=>whnf
   repeat' (first|(apply AP;omega)|fail)<;>conv=>whnf
   exact A9 [(107005,107064)] (ih (i+1) (o++[d/2^(n%32)%4294967296]) O' ⟨O',O',by simp;omega,p3.append (IP O'),key d rfl⟩)
 ·obtain rfl:i=x.length:=O'
  clear ih;rw[Na (ea _),J7,xf,Db,qb,hvd,Nat.div_div_eq_div_mul,<-AlB]at p5;have Ke:=λ q=>G9 N o q p3 O'
  rw[p5]at Ke;repeat' (first|(apply AG<;>intro hc<;>try omega)|apply AR|(refine C8 (λ_=>rfl) rfl ?_ ?_;(first|rfl|simp))|apply AE|refine AD (Ke _) ?_)<;>conv=>whnf
  exact AY rfl (K5 _)
end Go.c6
namespace Go.c6
open F
attribute [local irreducible] AA AF AL AC CQ AW BA A8 B3 BL CN D4 BP A1 B6 CF AB BG AH pw BV BO CS CY C2 BX CG BU CX
variable {L:Lib}
theorem AmJ {V R y d t Q:Nat} (h:Q*y+R=V) (ht:t=R*4294967296+d):(t/y+4294967296*Q)*y+t%y=d+4294967296*V:=by
 have:=Cd t y
 rw[<-h,Gf];have e:t/y*y=y*(t/y):=Hc _ _;grind
theorem Aio (N:a6 L) (x:N') (Y:Nat) (q:Bool) (d1:A7 x) (hx:x.length<=549755813888) (h0:Y≠0) (hY:Y<4294967296):Ev L 108 [.sl q (x.map AM),.int .u32 (Y:Int)] (.c5 [.sl false ((dg (val x/Y)).map AM),.int .u32 ((val x%Y:Nat):Int)]):=by
 refine Ev.x N.PM rfl rfl ?_;repeat' (first|apply AR|apply AE)<;>conv=>whnf
 refine DW (enc:=AM) 0 x.length rfl O' O' ?_;conv=>whnf
 repeat' (first|(apply BS;omega)|apply AR)<;>conv=>whnf
 refine HK (λ n _ _=>n) (λ(n:Nat) (o:N') (r:Nat)=>n<=x.length/\o.length=x.length/\A7 o/\r<Y/\val (o.drop n)*Y+r=val (x.drop n)) (λ n o r=>[(7,.int .u64 (r:Int)),(8,.int .i64 ((n:Int)-1))]) (λ n o r=>[(11,11,.rw 1 (o.map AM))]) x.length (ya x.length 0) 0 ⟨O',Z',KC _,O',by rw[Na (ea _),Na Z'];simp [val]⟩ ?_;intro n o r ⟨p1,p2,p3,p4,p5⟩ ih;rcases n with _|n
 ·rw[Ma,Ma]at p5
  have hq:val x/Y=val o/\val x%Y=r:=by
   rw[<-p5];have e1:(val o*Y+r)/Y=val o:=by
    rw[Hc,Eg O',Cb p4,qb]
   have e2:(val o*Y+r)%Y=r:=by
    rw[Hc,Fg,pd p4]
   exact ⟨e1,e2⟩
  have hT:=λ q=>G9 N o q p3 O'
  rw[hq.1,hq.2,<-p2];clear ih hq p5;repeat' (first|(apply AG<;>intro hc<;>try omega)|(apply E0;omega)|(refine C8 (λ_=>rfl) rfl ?_ ?_;(first|rfl|simp))|apply AE|refine AD (hT _) ?_)<;>conv=>whnf
  refine AY rfl ?_;simp only[A3,B7,and_true,true_and];exact CP _
 ·have e1:((n+1:Nat):Int)-1=n:=O'
  rw[e1];obtain ⟨d,hd⟩:=H' x n;have bg:=d1.at hd;have hR:r*4294967296+d<Y*4294967296:=O'
  have fb:(r*4294967296+d)/Y<4294967296:=(kc O').2 O';repeat' (first|(apply AG<;>intro hc<;>try omega)|(apply AX;omega)|(apply N1;omega)|(apply QD;omega)|(apply cW;omega;omega)|(apply CD;omega)|(apply E0;omega)|(refine A4 V' ?_ rfl ?_;omega)|apply AE)<;>conv=>whnf
  obtain ⟨t,ht⟩ : ∃ t,t=r*4294967296+d:=⟨_,rfl⟩;rw[<-ht]at hR fb ⊢;have hm:t%Y<Y:=Eb _ O';have g9:=AmJ p5 ht;rw[<-II hd]at g9;clear ht;skip
  refine F9 O' ?_;conv=>whnf
  repeat' (first|(apply BS;omega)|(apply ZP;omega)|(apply CD;omega))<;>conv=>whnf
  generalize t/Y=tq at *;generalize t%Y=tr at *;refine BN [] B' (ih n _ _ O' ⟨O',by simpa using p2,p3.set _ O',hm,?_⟩);rw[II (l:=o.set n tq) (d:=tq) (by rw[Ae O']),zc O'];exact g9
theorem dQ (a b:N') (e:Int):A3 (.c5 [.sl false (a.map AM),.sl false (b.map AM),.int .i64 e]):=by
 simp only[A3,B7,and_true,true_and];exact ⟨CP a,CP b⟩
abbrev Agd:List It:=[It.lp ED.l1,It.c9 0,
   It.code
    (((BK.ops ED.Co false).dr [0,75,79,80] []).seq
     (((BK.ops ED.Cp false).dr [81,82,83,84,85] []).seq
      ((((BK.ops ED.Cq false).dr [86,87,88,89,90] []).seq
         (BK.block 2 ED.l2.loop)).seq
       (((BK.ops ED.Rv true).dr [9,10,11,12,13,14,92,277,278,279,280,281,282,283,284]
          []).seq
        BK.ret))))]
abbrev eE:List It:=[It.lp ED.l2,It.c9 2,It.code
       (((BK.ops ED.Rv true).dr [9,10,11,12,13,14,92,277,278,279,280,281,282,283,284]
          []).seq
        BK.ret)]
abbrev eF (v:N') (s ul m:Nat) (j:Int):Tm:=[(14,.int .i64 j),(13,.row 85 0 1 0 m),(12,.int .i64 v.length),(11,.sl false (v.map AM)),(10,.row 69 0 1 0 ul),(9,.int .i64 (s:Int))]
abbrev Agc:BK:=(((BK.ops ED.r39 false).dr [18,19,20,166,205,206,207] []).seq
                (((BK.ops ED.r40 false).dr [208,209,210,211,212,213,214] []).seq
                 ((BK.ops ED.r41 false).seq
                  ((((BK.ops ED.r42 false).dr [215,216] []).seq
                     (BK.cond 217
                      (((BK.ops ED.r43 false).dr [18,217,218,219] []).seq
                       (BK.ops ED.r44 false))
                      BK.skip)).seq
                   (((BK.ops ED.r45 false).dr
                      [23,24,217,220,221,222,223,224,225,226,227,228] []).seq
                    ((((BK.ops ED.r46 false).dr [18,229] []).seq
                       (BK.cond 230
                        (((BK.ops ED.r47 false).dr [230,231,232] []).seq
                         ((BK.ops ED.r48 false).seq
                          (((BK.ops ED.r49 false).seq
                             (BK.block 8 ED.l5.loop)).seq
                           ((BK.ops ED.r55 false).dr
                            [25,26,235,262,263,264,265,266,267,268,269,270,271]
                            []))))
                        BK.skip)).seq
                     ((BK.ops ED.r56 false).dr [16,230,272,273,274,275,276]
                      [])))))))
abbrev Age:List It:=It.lp ED.l4::It.c9 6::It.code Agc::It.c9 3::It.code ((BK.ops ED.zt false).dr [93,94] [])::eE
section
variable {A W C w y:N'} {j m s ul q:Nat} {Q:Tm->Mem->Prop}
theorem XR {e i n:Nat} (hi:i=A.length+n) (he:W[n]? = some e):(A++W++C)[i]? = some e:=by
 rw[Zv hi (zS he).1];exact he
theorem mA (hA:A.length=j) (hW:W.length=y.length+1) (D2:A7 W) (fy:A7 y) (gq:2<=y.length) (yc:y.length<=549755813888) (ag:0<val y) (db:j<=1099511627776)
  (jz:ul=j+(y.length+1)+C.length) (Li:w.length=m) (Kt:j<m)
  (r1:q<4294967296) (r2:val W/val y<=q) (r3:q<=val W/val y+1)
  (hk : ∀ (W':N') (q':Nat),W'.length=y.length+1->A7 W'->val W'=val W%val y->q'=val W/val y->AA L eE (eF y s ul m ((j:Int)-1)) [(69,101021,.rw 1 ((A++W'++C).map AM)),(85,85,.rw 1 ((w.set j q').map AM))] Q) :
  AA L Age ([(20,.int .i64 0),(19,.int .u64 0),(18,.int .u64 0),(16,.int .u64 (q:Int))]++eF y s ul m (j:Int)) [(69,101021,.rw 1 ((A++W++C).map AM)),(85,85,.rw 1 (w.map AM))] Q:=by
 refine cK (λ i _ _ _=>y.length-i) (λ(i:Nat) (Z:N') (c b:Nat)=>i<=y.length/\Z.length=y.length+1/\A7 Z/\c<4294967296/\b<=1/\Z.drop i=W.drop i/\val (Z.take i)+q*val (y.take i)=val (W.take i)+4294967296^i*(c+b)) (λ i Z c b=>[(20,.int .i64 i),(18,.int .u64 (b:Int)),(19,.int .u64 (c:Int))]) (λ i Z c b=>[(69,101021,.rw 1 ((A++Z++C).map AM))]) [] [] 0 W 0 0 B' ⟨O',hW,D2,O',O',rfl,by simp [val]⟩ ?_;intro i Z c b ⟨p1,p2,p3,p4,p5,p6,p7⟩ ih;by_cases hi:i<y.length
 ·obtain ⟨d,hd⟩:=H' y i hi
  obtain ⟨u,hu⟩:=H' Z i;have bg:=fy.at hd;have oz:=p3.at hu;have Lc:(A++Z++C)[((i:Int)+(j:Int)).toNat]? = some u:=XR O' hu;obtain ⟨pr,ve⟩ : ∃ pr,pr=c+q*d:=⟨_,rfl⟩;obtain ⟨m1,m2,m3⟩:=Sg r1 bg p4 (show pr=q*d+c by omega);have Ah:W[i]? = some u:=by
   have e1:(Z.drop i)[0]? = (W.drop i)[0]? := by rw[p6]
   simpa [hu] using e1.symm
  have qo : ∀ w,(Z.set i w).drop (i+1)=W.drop (i+1):=λ w=>by
   rw[zc O'];have e1:(Z.drop i).drop 1=(W.drop i).drop 1:=by rw[p6]
   simpa using e1
  have g9 : ∀ have' take w cz,take=pr%4294967296+b->((have'=u/\cz=0/\take<=u)\/(have'=u+4294967296/\cz=1/\u<take))->w+take=have'->val ((Z.set i w).take (i+1))+q*val (y.take (i+1))=val (W.take (i+1))+4294967296^(i+1)*(pr/4294967296+cz):=λ have' take w cz a1 a2 a3=>by
   rw[G4 O',EO hd,EO Ah,ob];exact AkU p7 ve a1 a2 a3
  by_cases j9:u<pr%4294967296+b
  ·have h3:=g9 (u+4294967296) (pr%4294967296+b) (u+4294967296-(pr%4294967296+b)) 1 rfl (Or.inr ⟨rfl,rfl,j9⟩) O'
   repeat' (first|(apply AG<;>intro hc<;>try omega)|(apply AX;omega)|(apply AP;omega)|(apply G5;omega)|(apply QC;omega)|(apply sH;omega)|(apply J8;omega;omega)|apply GH|(apply cU;omega)|(apply CD;omega)|(apply E0;omega)|(refine A4 V' ?_ rfl ?_;omega)|refine K2 V' ?_|apply AE)<;>conv=>whnf
   rw[<-ve];skip
   refine N5 i O' O' ?_;conv=>whnf
   repeat' (first|(apply AP;omega)|fail)<;>conv=>whnf
   exact BN [] B' (ih (i+1) (Z.set i (u+4294967296-(pr%4294967296+b))) (pr/4294967296) 1 O' ⟨O',by simpa using p2,p3.set _ O',m1,O',qo _,h3⟩)
  ·have h3:=g9 u (pr%4294967296+b) (u-(pr%4294967296+b)) 0 rfl (Or.inl ⟨rfl,rfl,O'⟩) O'
   repeat' (first|(apply AG<;>intro hc<;>try omega)|(apply AX;omega)|(apply AP;omega)|(apply G5;omega)|(apply QC;omega)|(apply sH;omega)|(apply J8;omega;omega)|apply GH|(apply CD;omega)|(apply E0;omega)|(refine A4 V' ?_ rfl ?_;omega)|refine K2 V' ?_|apply AE)<;>conv=>whnf
   rw[<-ve];skip
   refine N5 i O' O' ?_;conv=>whnf
   repeat' (first|(apply AP;omega)|fail)<;>conv=>whnf
   exact BN [] B' (ih (i+1) (Z.set i (u-(pr%4294967296+b))) (pr/4294967296) 0 O' ⟨O',by simpa using p2,p3.set _ O',m1,O',qo _,h3⟩)
 ·obtain rfl:i=y.length:=O'
  clear ih;obtain ⟨u,hu⟩:=H' Z y.length;have oz:=p3.at hu;have Lc:(A++Z++C)[((j:Int)+(y.length:Int)).toNat]? = some u:=XR O' hu;have Ah:W[y.length]? = some u:=by
   have e1:(Z.drop y.length)[0]? = (W.drop y.length)[0]? := by rw[p6]
   simpa [hu] using e1.symm
  rw[DM (ea y.length)]at p7;have eW:val W=val (W.take y.length)+4294967296^y.length*u:=by
   rw[<-EO Ah,DM O']
  have g9 : ∀ have' take w cz,take=c+b->((have'=u/\cz=0/\take<=u)\/(have'=u+4294967296/\cz=1/\u<take))->w+take=have'->val (Z.set y.length w)+q*val y=val W+4294967296^y.length*4294967296*cz:=λ have' take w cz a1 a2 a3=>by
   have h1:=AkS p7 a1 a2 a3;rw[<-eW,<-G4 (show y.length<Z.length by omega),DM G']at h1;exact h1
  by_cases j9:u<c+b
  ·have h3:=g9 (u+4294967296) (c+b) (u+4294967296-(c+b)) 1 rfl (Or.inr ⟨rfl,rfl,j9⟩) O'
   have He:A7 (Z.set y.length (u+4294967296-(c+b))):=p3.set _ O';have zd:(Z.set y.length (u+4294967296-(c+b))).length=y.length+1:=by simpa using p2
   rw[hh]at h3;have Fa:=FZ He;rw[zd,ob]at Fa;obtain ⟨y1,y2,y3⟩:=vG ag r3 Fa h3;repeat' (first|(apply AG<;>intro hc<;>try omega)|(apply AX;omega)|(apply AP;omega)|(apply G5;omega)|(apply J8;omega;omega)|(apply cU;omega)|(apply CD;omega)|(apply E0;omega)|refine K2 V' ?_|apply AE)<;>conv=>whnf
   refine N5 y.length O' O' ?_;conv=>whnf
   repeat' (first|(apply AG<;>intro hc<;>try omega)|(apply J8;omega;omega))<;>conv=>whnf
   clear p7 p6 eW hu Ah oz Lc p2 p3 g9;generalize Z.set y.length (u+4294967296-(c+b))=X at *;have hRV:val W%val y<val y:=Eb _ ag;have Dd:=FZ fy;obtain ⟨xw,El⟩:=H' X y.length;have eX:val X=val (X.take y.length)+4294967296^y.length*xw:=by
    rw[<-EO El,DM O']
   have qt:q-1<4294967296:=O'
   refine HK (λ i _ _=>y.length-i) (λ(i:Nat) (Z:N') (c:Nat)=>i<=y.length/\Z.length=y.length+1/\A7 Z/\c<=1/\Z.drop i=X.drop i/\val (Z.take i)+4294967296^i*c=val (X.take i)+val (y.take i)) (λ i Z c=>[(26,.int .i64 i),(25,.int .u64 (c:Int))]) (λ i Z c=>[(69,101021,.rw 1 ((A++Z++C).map AM))]) 0 X 0 ⟨O',zd,He,O',rfl,by simp [val]⟩ ?_;intro i Z c ⟨p1,p2,p3,p4,p6,p7⟩ ih;by_cases hi:i<y.length
   ·obtain ⟨d,hd⟩:=H' y i hi
    obtain ⟨u,hu⟩:=H' Z i;have bg:=fy.at hd;have oz:=p3.at hu;have Lc:(A++Z++C)[((i:Int)+(j:Int)).toNat]? = some u:=XR O' hu;have nh:X[i]? = some u:=by
     have e1:(Z.drop i)[0]? = (X.drop i)[0]? := by rw[p6]
     simpa [hu] using e1.symm
    have bq:=sV (d:=d) (w:=u) (t:=c+(u+d)) p7 O';repeat' (first|(apply AG<;>intro hc<;>try omega)|(apply AX;omega)|(apply AP;omega)|(apply G5;omega)|(apply CD;omega)|apply GV|(refine A4 V' ?_ rfl ?_;omega)|refine K2 V' ?_|apply AE)<;>conv=>whnf
    generalize Qv:c+(u+d)=t2 at *;refine N5 i O' O' ?_;conv=>whnf
    repeat' (first|(apply AP;omega)|apply GH)<;>conv=>whnf
    refine BN [] B' (ih (i+1) (Z.set i (t2%4294967296)) (t2/4294967296) O' ⟨O',by simpa using p2,p3.set _ O',O',?_,?_⟩)
    ·rw[zc O']
     have e1:(Z.drop i).drop 1=(X.drop i).drop 1:=by rw[p6]
     simpa using e1
    ·rw[G4 O',EO hd,EO nh,ob]
     exact bq
   ·obtain rfl:i=y.length:=O'
    clear ih;obtain ⟨u,hu⟩:=H' Z y.length;have oz:=p3.at hu;have Lc:(A++Z++C)[((j:Int)+(y.length:Int)).toNat]? = some u:=XR O' hu;have nh:X[y.length]? = some u:=by
     have e1:(Z.drop y.length)[0]? = (X.drop y.length)[0]? := by rw[p6]
     simpa [hu] using e1.symm
    rw[nh]at El;obtain rfl:u=xw:=by simpa using El
    rw[DM (ea y.length)]at p7;have Hg:=FZ (p3.take y.length);rw[xa,uc O']at Hg;rw[eX]at y3;have gl:=sU p7 y3 O' Hg;rw[<-G4 (show y.length<Z.length by omega),DM G']at gl;repeat' (first|(apply AG<;>intro hc<;>try omega)|(apply AX;omega)|(apply AP;omega)|apply sG|(apply E0;omega)|refine K2 V' ?_|apply AE)<;>conv=>whnf
    refine N5 y.length O' O' ?_;conv=>whnf
    repeat' (first|(apply AX;omega)|(apply E0;omega))<;>conv=>whnf
    refine F9 O' ?_;conv=>whnf
    repeat' (first|(apply BS;omega)|fail)<;>conv=>whnf
    exact BN [] B' (hk _ _ (by simpa using p2) (p3.set _ O') gl y1)
  ·have h3:=g9 u (c+b) (u-(c+b)) 0 rfl (Or.inl ⟨rfl,rfl,O'⟩) O'
   rw[Db,qb]at h3;obtain ⟨y1,y2⟩:=vH ag r2 h3;repeat' (first|(apply AG<;>intro hc<;>try omega)|(apply AX;omega)|(apply AP;omega)|(apply G5;omega)|(apply J8;omega;omega)|(apply CD;omega)|(apply E0;omega)|refine K2 V' ?_|apply AE)<;>conv=>whnf
   refine N5 y.length O' O' ?_;conv=>whnf
   repeat' (first|(apply AG<;>intro hc<;>try omega)|(apply AX;omega)|(apply E0;omega))<;>conv=>whnf
   refine F9 O' ?_;conv=>whnf
   repeat' (first|(apply BS;omega)|fail)<;>conv=>whnf
   exact BN [] B' (hk _ _ (by simpa using p2) (p3.set _ O') y2 y1)
theorem Agf (hA:A.length=j) (hW:W.length=y.length+1) (D2:A7 W) (fy:A7 y) (gq:2<=y.length) (yc:y.length<=549755813888) (ag:0<val y) (db:j<=1099511627776)
  (n2:4294967296^(y.length-1)*2147483648<=val y) (g2:val W<4294967296*val y) (jz:ul=j+(y.length+1)+C.length) (Li:w.length=m) (Kt:j<m)
  (hk : ∀ (W':N') (q':Nat),W'.length=y.length+1->A7 W'->val W'=val W%val y->q'=val W/val y->AA L eE (eF y s ul m ((j:Int)-1)) [(69,101021,.rw 1 ((A++W'++C).map AM)),(85,85,.rw 1 ((w.set j q').map AM))] Q) :
  AA L (.code ED.l2::eE) (eF y s ul m (j:Int)) [(69,101021,.rw 1 ((A++W++C).map AM)),(85,85,.rw 1 (w.map AM))] Q:=by
 obtain ⟨UL,a1,a2⟩:=jO D2 (n:=y.length+1) O' O';obtain ⟨VL,b5,b6⟩:=Zn fy (n:=y.length) gq O';obtain ⟨u0,w0⟩:=H' W y.length;obtain ⟨u1,w1⟩:=H' W (y.length-1);obtain ⟨u2,w2⟩:=H' W (y.length-2);obtain ⟨f1,x1⟩:=H' y (y.length-1);obtain ⟨f2,x2⟩:=H' y (y.length-2);rw[show y.length+1-3=y.length-2 by omega,show y.length+1-2=y.length-1 by omega,show y.length+1-1=y.length by omega,HO w0,HO w1,HO w2]at a2;rw[show y.length+1-3=y.length-2 by omega]at a1;rw[HO x1,HO x2]at b6;have wu:=Ym fy (k:=y.length-1) O' n2 x1;have k0:=D2.at w0;have k1:=D2.at w1;have k2:=D2.at w2;have k3:=fy.at x1;have k4:=fy.at x2;have z1:y[((y.length:Int)-1).toNat]? = some f1:=by rw[show ((y.length:Int)-1).toNat=y.length-1 by omega];exact x1
 have z2:y[((y.length:Int)-2).toNat]? = some f2:=by rw[show ((y.length:Int)-2).toNat=y.length-2 by omega];exact x2
 have s8:(A++W++C)[((j:Int)+(y.length:Int)).toNat]? = some u0:=XR O' w0;repeat' (first|(apply AG<;>intro hc<;>try omega)|(apply AX;omega)|(apply AP;omega)|(apply BS;omega)|(apply N1;omega)|(apply CD;omega)|refine K2 V' ?_|apply AE)<;>conv=>whnf
 have z0:(A++W++C)[((j:Int)+(y.length:Int)-1).toNat]? = some u1:=XR O' w1;refine Aea z0 ?_;conv=>whnf
 refine rY O' ?_;conv=>whnf
 refine QD O' ?_;conv=>whnf
 clear s8 z0;have au:(A++W++C)[((j:Int)+(y.length:Int)-2).toNat]? = some u2:=XR O' w2;generalize Ra:u0*4294967296+u1=top at *;have pz:top<=18446744073709551615:=O'
 have hU:val W=UL+4294967296^(y.length-2)*(u2+4294967296*top):=by rw[a2,show u1+4294967296*u0=top by omega]
 repeat' (first|(apply BS;omega)|(apply ZP;omega)|(apply cW;omega;omega)|(apply CD;omega)|(refine A4 V' ?_ rfl ?_;omega))<;>conv=>whnf
 refine ZI (λ q _=>q) (λ(q r:Nat)=>Gs (val W) (val y) f1 f2 u2 top q r) (λ q r=>[(16,.int .u64 (q:Int)),(17,.int .u64 (r:Int))]) (λ_ _=>[]) [] [] (top/f1) (top%f1) B' (Gs.start hU b6 a1 k2 ag O' k3) ?_;intro q r g lz;have hqt:q<=top:=by
  have h3:=g.hq;have h4:q*1<=q*f1:=Mc q O';omega
 have hr:=g.hr;have mi:=g.ge;by_cases hb:4294967296<=q
 ·obtain ⟨y1,y2,y3⟩:=g.next hU b6 a1 ag g2 (Or.inl hb)
  repeat' (first|(apply AG<;>intro hc<;>try omega)|(apply BS;omega)|(apply G5;omega)|(apply J8;omega;omega)|(apply CD;omega)|(refine A4 V' ?_ rfl ?_;omega)|apply AE)<;>conv=>whnf
  ·obtain ⟨t1,t2⟩:=YN hU b6 b5 wu k4 g2 y2 (Or.inr O')
   exact BN [] B' (mA (w:=w) (C:=C) hA hW D2 fy gq yc ag db jz Li Kt t1 y3 t2 hk)
  ·exact BN [] B' (lz (q-1) (r+f1) O' ⟨y2,O',y3⟩)
 ·have hmq:=YW (show q<4294967296 by omega) k4
  by_cases u4:r*4294967296+u2<q*f2
  ·obtain ⟨y1,y2,y3⟩:=g.next hU b6 a1 ag g2 (Or.inr u4)
   repeat' (first|(apply AG<;>intro hc<;>try omega)|(apply AX;omega)|(apply AP;omega)|(apply BS;omega)|(apply G5;omega)|(apply QC;omega)|(apply N1;omega)|(apply QD;omega)|(apply J8;omega;omega)|(apply CD;omega)|(refine A4 V' ?_ rfl ?_;omega)|refine K2 V' ?_|apply AE)<;>conv=>whnf
   ·obtain ⟨t1,t2⟩:=YN hU b6 b5 wu k4 g2 y2 (Or.inr O')
    exact BN [] B' (mA (w:=w) (C:=C) hA hW D2 fy gq yc ag db jz Li Kt t1 y3 t2 hk)
   ·exact BN [] B' (lz (q-1) (r+f1) O' ⟨y2,O',y3⟩)
  ·obtain ⟨t1,t2⟩:=YN hU b6 b5 wu k4 g2 g.hq (Or.inl ⟨O',O'⟩)
   repeat' (first|(apply AG<;>intro hc<;>try omega)|(apply AX;omega)|(apply AP;omega)|(apply BS;omega)|(apply QC;omega)|(apply N1;omega)|(apply QD;omega)|(apply CD;omega)|(refine A4 V' ?_ rfl ?_;omega)|refine K2 V' ?_|apply AE)<;>conv=>whnf
   exact BN [] B' (mA (w:=w) (C:=C) hA hW D2 fy gq yc ag db jz Li Kt t1 mi t2 hk)
end
theorem Anu {l:N'} (hD:A7 l) (h:l[l.length-1]? = some 0):val l<4294967296^(l.length-1):=by
 have hl:=(zS h).1;have h1:=LI l (l.length-1) O';have h2:=II h;rw[Na (show l.length<=l.length-1+1 by omega),J7]at h2;rw[h2]at h1;simp only[Db,qb]at h1;have h3:=FZ (hD.take (l.length-1));rw[xa,uc O']at h3;omega
theorem vL (N:a6 L) {X Y s:Nat} {x u y:N'} (hY:Y≠0) (dj:s<=31) (Kg:A7 u) (Ki:val u=X*2^s) (hU0:u[u.length-1]? = some 0) (jz:x.length+1<=u.length/\u.length<=549755813888) (fy:A7 y) (Kj:val y=Y*2^s) (gd:2<=y.length/\y.length<=x.length) (n2:4294967296^(y.length-1)*2147483648<=val y) :
  AA L Agd [(10,.row 69 0 1 0 u.length),(11,.sl false (y.map AM)),(9,.int .i64 (s:Int)),(0,.sl false (x.map AM))] [(69,101021,.rw 1 (u.map AM))] (RZ ED (.c5 [.sl false ((dg (X/Y)).map AM),.sl false ((dg (X%Y)).map AM),.int .i64 0])):=by
 refine CE (λ(_:Nat)=>0) (λ_=>True) (λ_=>[]) (λ_=>[]) 0 trivial ?_;intro _ _ _;repeat' (first|(apply AG<;>intro hc<;>try omega)|(apply AP;omega)|(apply BS;omega)|apply AR|apply AE)<;>conv=>whnf
 refine DW (enc:=AM) 0 (u.length-y.length) (by rfl) O' O' ?_;conv=>whnf
 repeat' (first|(apply BS;omega)|fail)<;>conv=>whnf
 have ag:0<val y:=by
  have:=Vf (y.length-1)
  omega
 have De:=FZ fy;generalize hm:u.length-y.length=m at *;have td:val (u.drop m)<val y:=by
  have h1:(u.drop m).length=y.length:=by simp;omega
  have h2:=Anu (l:=u.drop m) (Kg.drop _) (by rw[h1,Cc,show m+(y.length-1)=u.length-1 by omega];exact hU0);rw[h1]at h2;omega
 rw[show (u.length:Int)-y.length-1=((m:Nat):Int)-1 by omega];refine HK (λ n _ _=>n) (λ(n:Nat) (o w:N')=>n<=m/\o.length=u.length/\A7 o/\w.length=m/\A7 w/\val (o.drop n)<val y/\X*2^s=val (o.take n)+4294967296^n*(val (w.drop n)*val y+val (o.drop n))) (λ n o w=>[(14,.int .i64 ((n:Int)-1))]) (λ n o w=>[(69,101021,.rw 1 (o.map AM)),(85,85,.rw 1 (w.map AM))]) m u (ya m 0) ⟨O',rfl,Kg,Z',KC _,td,by rw[<-Ki,Na (show (ya m 0).length<=m by simp),J7,yf,Jc];exact LI u m O'⟩ ?_;intro n o w ⟨p1,p2,p3,p4,p5,p6,p7⟩ ih;rcases n with _|j
 ·clear ih
  rw[Ma]at p6;rw[oc,Ma,Ma,J7,Jc,uf,Rc]at p7;have qo:val o=val (o.take y.length):=by
   have h1:=XN o y.length;rcases pc (val (o.drop y.length)) with h2|h2
   ·rw[h2,Db,qb]at h1;exact h1
   ·have h3:4294967296^y.length*1<=4294967296^y.length*val (o.drop y.length):=Mc _ h2
    omega
  have yz:X/Y=val w/\X%Y=val o/2^s:=by
   obtain ⟨z1,z2⟩:=vK (X:=X) (Y:=Y) (Pc s);rw[<-z1,<-z2,<-Kj,p7];have e1:(val w*val y+val o)/val y=val w:=by
    rw[Hc,Eg ag,Cb p6,qb]
   have e2:(val w*val y+val o)%val y=val o:=by
    rw[Hc,Fg,pd p6]
   rw[e1,e2];exact ⟨rfl,rfl⟩
  rw[yz.1,yz.2,qo];have hT:=λ q=>G9 N w q p5 O'
  have ct:(o.take y.length).length<=549755813888:=by rw[xa];omega
  clear p7 yz td;rw[<-p4];rcases pc s with h0|h0
  ·subst h0
   have hS:=λ q=>xY N (o.take y.length) q 0 (p3.take _) ct O'
   rw[uf,hh]at hS;rw[uf,Hf];repeat' (first|(apply AG<;>intro hc<;>try omega)|(refine C8 (λ_=>rfl) rfl ?_ ?_;(first|rfl|simp))|apply AE|refine AD (hT _) ?_)<;>conv=>whnf
   refine HV y.length rfl O' ?_;conv=>whnf
   refine CQ.neg O' ?_;conv=>whnf
   refine I2 (enc:=AM) (λ_=>rfl) O' ?_;conv=>whnf
   rw[Ma,Ic,show -((0:Nat):Int)=((0:Nat):Int) by omega];(repeat' (refine AD (hS _) ?_<;>conv=>whnf))
   exact AY rfl (dQ _ _ _)
  ·have hS:=λ q=>Ain N (o.take y.length) q s (p3.take _) ct O'
   repeat' (first|(apply AG<;>intro hc<;>try omega)|(refine C8 (λ_=>rfl) rfl ?_ ?_;(first|rfl|simp))|apply AE|refine AD (hT _) ?_)<;>conv=>whnf
   refine HV y.length rfl O' ?_;conv=>whnf
   refine CQ.neg O' ?_;conv=>whnf
   refine I2 (enc:=AM) (λ_=>rfl) O' ?_;conv=>whnf
   rw[Ma,Ic];(repeat' (refine AD (hS _) ?_<;>conv=>whnf))
   exact AY rfl (dQ _ _ _)
 ·have e3:((j+1:Nat):Int)-1=j:=O'
  rw[e3];obtain ⟨A,W,C,hA,hW,rfl⟩:=wD o j (y.length+1) O';obtain ⟨g1,g2,g3⟩:=wF hA hW p3 p6 De;obtain ⟨D1,D2,D3⟩:=vF p3;have qt:val W/val y<4294967296:=(kc ag).2 g2;have Nc:val W=val W/val y*val y+val W%val y:=by rw[Hc];exact (Cd _ _).symm
  have Df:val W%val y<val y:=Eb _ ag;have Dc:X*2^s=val A+4294967296^j*val W+4294967296^j*4294967296*(val (w.drop (j+1))*val y):=by
   rw[p7,Lb,<-g3,ob];omega
  have sv:=wE Dc Nc;have mq : ∀ q',q'=val W/val y->val ((w.set j q').drop j)=val W/val y+4294967296*val (w.drop (j+1)):=λ q' h=>by
   rw[II (l:=w.set j q') (d:=q') (by rw[Ae O']),zc O',h]
  have hlen : ∀ W':N',W'.length=y.length+1->(A++W'++C).length=u.length:=λ W' h=>by
   rw[<-p2];simp [h,hW]
  have Kv:u.length=j+(y.length+1)+C.length:=by rw[<-p2];simp [hA,hW];omega
  refine BN [] B' (Agf (m:=m) (s:=s) (ul:=u.length) (C:=C) hA hW D2 fy gd.1 O' ag O' n2 g2 Kv p4 O' (λ W' q' z1 z2 z3 z4 => ?_));obtain ⟨t1,t2⟩:=mI (A:=A) (W:=W') (C:=C) (j:=j) hA g1;refine BN [] B' (ih j (A++W'++C) (w.set j q') O' ⟨O',hlen W' z1,(D1.append z2).append D3,by simpa using p4,p5.set _ O',O',?_⟩);rw[t1,t2,mq q' z4,z3];exact sv
end Go.c6

namespace Go.c6
open F
attribute [local irreducible] AA AF AL AC CQ AW BA A8 B3 BL CN D4 BP A1 B6 CF AB BG AH pw BV BO CS CY C2 BX CG BU CX
variable {L:Lib}
theorem xX (N:a6 L) (a b:N') (q1 q2:Bool) (hA:A7 a) (hB:A7 b) (la:a.length<=274877906944) (lb:b.length<=274877906944) (h0:val b≠0) :
  Ev L 109 [.sl q1 (a.map AM),.sl q2 (b.map AM)] (.c5 [.sl false ((dg (val a/val b)).map AM),.sl false ((dg (val a%val b)).map AM),.int .i64 0]):=by
 have t1:=λ q=>G9 N a q hA O'
 have t2:=λ q=>G9 N b q hB O'
 have l1:=FN hA;have l2:=FN hB;have l7:=λ q q'=>mW N (dg (val a)) (dg (val b)) q q' (EF _) (EF _) O' O'
 rw[B2,B2]at l7;generalize val a=X at *;generalize val b=Y at *;have d1:=EF X;have d2:=EF Y;have v1:=B2 X;have v2:=B2 Y;have hy1:=aB h0;refine Ev.x N.ED rfl rfl ?_;by_cases h1:(dg Y).length=1
 ·obtain ⟨y0,qz⟩ : ∃ y0,dg Y=[y0]:=Md.1 h1
  have zo:Y=y0:=by rw[<-v2,qz];simp [val]
  subst zo;have Ck:Y<4294967296:=d2 Y (by rw[qz];simp);have hyg:(dg Y)[(0:Int).toNat]? = some Y:=by rw[qz];rfl
  have cr:=λ q=>Aio N (dg X) Y q d1 O' h0 Ck
  rw[v1]at cr;have jg:X%Y<4294967296:=Nat.lt_trans (Eb _ O') Ck;have Kf:=λ q=>G9 N [X%Y] q (IP jg) Z'
  rw[show val [X%Y]=X%Y by simp [val]]at Kf;clear qz v2;generalize dg Y=y at *;repeat' (first|(apply AG<;>intro hc<;>try omega)|apply AR|(refine A4 V' ?_ rfl ?_;omega)|refine GS rfl ?_|apply AE|refine AD (t1 _) ?_|refine AD (t2 _) ?_|refine AD (cr _) ?_|refine AD (Kf _) ?_)<;>conv=>whnf
  exact AY rfl (dQ _ _ _)
 by_cases j9:X<Y
 ·rw[<-JP O']at l7
  repeat' (first|(apply AG<;>intro hc<;>try omega)|apply AR|apply AE|refine AD (t1 _) ?_|refine AD (t2 _) ?_|refine AD (l7 _ _) ?_)<;>conv=>whnf
  refine AY ?_ (dQ _ _ _);rw[Cb j9,pd j9,FY];rfl
 have mi:=dS (show Y<=X by omega);generalize DL X Y=cm at *;have Kx:2<=(dg Y).length:=O'
 obtain ⟨yt,Az,Ba⟩:=lX h0;have yg:=d2.at Az;obtain ⟨b1,b2,b3,b4⟩:=oS Ba yg;have da:=λ q=>Aik N yt q Ba yg
 generalize hs:32-n9 yt=s at *;have dj:s<=31:=O'
 have Qt:=λ q=>xY N (dg Y) q s d2 O' O'
 obtain ⟨n1,n2⟩:=oK d2 Az O' dj b3 b4;rw[v2]at Qt n1 n2;have qo:(dg Y).drop ((dg Y).length-1)=[yt]:=by
  obtain ⟨hi,he⟩:=zS Az;rw[xb hi,he,Na O']
 have gd:(dg (Y*2^s)).length=(dg Y).length:=by
  have a1:=OH.2 n1;have a2 : ¬ (dg (Y*2^s)).length<=(dg Y).length-1:=λ h=>by
   have:=OH.1 h
   omega
  omega
 have AzW:(dg (X*2^s)).length<=(dg X).length+1:=by
  refine OH.2 ?_;have a1:X<4294967296^(dg X).length:=OH.1 (ea _);rw[ob];have a2:=bD (s:=s) O';exact mg (Nat.mul_lt_mul_of_pos_right a1 (Pc s)) (Mc _ a2)
 have zd:(dg X).length<=(dg (X*2^s)).length:=SE (cd _ (Pc s));have zk:=SE (show Y<=X by omega);generalize hx:dg X=x at *;generalize hy:dg Y=y at *;have t3:=λ q=>G9 N x q d1 O'
 rw[v1,hx]at t3;repeat' (first|(apply AG<;>intro hc<;>try omega)|(apply BS;omega)|apply AR|apply AE|refine AD (t1 _) ?_|refine AD (t2 _) ?_|refine AD (l7 _ _) ?_)<;>conv=>whnf
 rw[show (y.length:Int)-1=((y.length-1:Nat):Int) by omega];refine sP (k:=y.length-1) (λ_=>rfl) O' ?_;conv=>whnf
 rw[qo];repeat' (first|(apply BS;omega)|refine AD (da _) ?_)<;>conv=>whnf
 rw[show (32:Int)-(n9 yt:Nat)=((s:Nat):Int) by omega];refine GU 1000 N.I9 rfl rfl ?_;have hsq:(s:Int)/32=((0:Nat):Int):=O'
 have hsr:(s:Int)%32=((s:Nat):Int):=O'
 repeat' (first|(apply AG<;>intro hc<;>try omega)|(refine IZ ?_ ?_ (λ_ => ?_) (λ_ _ => ?_);omega;omega;all_goals try omega)|apply AR|apply AE|refine AD (t3 _) ?_)<;>conv=>whnf
 rw[hsq];refine DW (enc:=AM) 0 0 rfl rfl O' ?_;conv=>whnf
 skip
 refine HK (λ i _ _=>x.length-i) (λ(i:Nat) (o:N') (c:Nat)=>i<=x.length/\o.length=i/\A7 o/\c<2^s/\val o+4294967296^i*c=val (x.take i)*2^s) (λ i o c=>[(10,.int .i64 i),(9,.int .u64 (c:Int)),(8,.row 107069 0 1 0 i)]) (λ i o c=>[(107069,107069,.rw 1 (o.map AM))]) 0 [] 0 ⟨O',rfl,X8,Pc _,by simp [val]⟩ ?_;intro i o c ⟨p1,p2,p3,p4,p5⟩ ih;have vf:=bD (s:=s) O';by_cases hi:i<x.length
 ·obtain ⟨d,hd⟩:=H' x i hi
  have bg:=d1.at hd;obtain ⟨f1,f2,f3,f4⟩:=XF (s:=s) bg O';have hr:=gI (show s<=64 by omega) f4;repeat' (first|(apply AG<;>intro hc<;>try omega)|(refine N2 ?_ (λ_ _ _ => ?_) (λ_ _ _ _ => ?_);omega;all_goals try omega)|(apply CD;omega)|apply AR|(refine A4 V' ?_ rfl ?_;omega)|apply AE)<;>conv=>whnf
  rw[hsr];refine QF O' f4 ?_;conv=>whnf
  skip
  refine cV s (Qe _ _) p4 O' ?_;conv=>whnf
  have g9:=Xj (d:=d) (P:=1) (V:=val o) (p:=4294967296^i) (lo:=c) (X:=val (x.take i)) (s:=s) (by rw[Rc,Rc];exact p5) rfl;have im:(c+d*2^s)/4294967296<2^s:=by
   rw[kc O'];have:=zR (2^s) (show d<=4294967295 by omega)
   omega
  generalize c+d*2^s=t at *;repeat' (first|apply GV|apply DG)<;>conv=>whnf
  refine EE (enc:=AM) (t%4294967296) rfl p2.symm rfl O' O' ?_;conv=>whnf
  repeat' (first|(apply AP;omega)|apply GH)<;>conv=>whnf
  rw[show (o++[t%4294967296]).length=i+1 by simp [p2]];refine BN [(107069,107091)] B' (ih (i+1) (o++[t%4294967296]) (t/4294967296) O' ⟨O',by simp;omega,p3.append (IP O'),im,?_⟩);rw[NX,p2,EO hd,ob];rw[Rc,Rc]at g9;exact g9
 obtain rfl:i=x.length:=O'
 clear ih;have zh:c<4294967296:=O'
 have hOD:A7 (o++[c]):=p3.append (IP zh);have Gv:val (o++[c])=X*2^s:=by
  rw[NX,p2,p5,DM (ea _),v1]
 have Gu:(o++[c]).length=x.length+1:=by simp [p2]
 repeat' (first|(apply AG<;>intro hc<;>try omega)|(apply E0;omega)|apply AR|apply DG|apply AE)<;>conv=>whnf
 refine EE (enc:=AM) c rfl p2.symm rfl O' O' ?_;conv=>whnf
 rw[Gu];generalize o++[c]=O at *;rw[<-Gu];clear p3 p4 p5;refine GU 1000 N.JA rfl rfl ?_;(repeat' (apply AE<;>conv=>whnf))
 refine CE (λ n=>n) (λ(n:Nat)=>n<=(O).length /\ ∀ i,n<=i->i<(O).length->(O)[i]? = some 0) (λ n=>[(3,.int .i64 n)]) (λ_=>[]) (O).length ⟨ea _,λ i h1 h2=>O'⟩ ?_;intro n ⟨p1,p2⟩ ih;rcases n with _|n
 ·repeat' (first|(apply AG<;>intro hc<;>try omega)|apply AE)<;>conv=>whnf
  refine HV 0 O' O' ?_;conv=>whnf
  have bp:=HD (l:=O) V' p1 p2 (Or.inl rfl);have l9:(Gc 0 O).length<=(O).length:=by rw[xa];omega
  clear ih p2;refine dC (enc:=AM) O' ?_;conv=>whnf
  rw[Ma,Ic];generalize Mx:Gc 0 O=T0 at *;refine RQ (enc:=AM) (λ_=>rfl) O' O' ?_;conv=>whnf
  refine ⟨rfl,_,rfl,?_⟩;conv=>whnf
  (refine ⟨rfl,_,rfl,?_⟩;(conv=>whnf);(repeat' (first|apply DG|refine AD (Qt _) ?_)<;>conv=>whnf);refine EE (enc:=AM) 0 rfl rfl rfl O' O' ?_;(conv=>whnf);rw[Gv]at bp;rw[bp];exact BN [] B' (vL N (x:=x) (X:=X) (Y:=Y) (s:=s) (u:=dg (X*2^s)++[0]) (y:=dg (Y*2^s)) h0 dj ((EF _).append (IP O')) (by rw[NX,B2,Db,qb]) Z' G' (EF _) (B2 _) O' (by rw[B2,gd];exact n2)))
 ·have e1:((n+1:Nat):Int)-1=n:=O'
  repeat' (first|(apply AG<;>intro hc<;>try omega)|(apply AX;omega)|(apply BS;omega)|(refine VZ V' ?_ (λ v hv hb => ?_);omega)|apply AE)<;>conv=>whnf
  ·rw[e1]
   exact A9 [] (ih n O' ⟨O',λ i h1 h2=>by
    by_cases h:i=n
    ·subst h
     rw[e1,Ia]at hv;rw[hv];congr 1;omega
    ·exact p2 i O' h2⟩)
  ·refine HV (n+1) O' O' ?_
   (conv=>whnf)
   rw[e1,Ia]at hv;have bp:=HD (l:=O) V' p1 p2 (Or.inr ⟨_,hv,O'⟩);have l9:(Gc (n+1) O).length<=(O).length:=by rw[xa];omega
   clear ih p2 hv;(rw[tH (l:=O)];rotate_left;exact rfl;exact rfl);conv=>whnf
   refine dC (enc:=AM) O' ?_;conv=>whnf
   rw[Ma,Ic];generalize Mx:Gc (n+1) O=T0 at *;refine RQ (enc:=AM) (λ_=>rfl) O' O' ?_;conv=>whnf
   refine ⟨rfl,_,rfl,?_⟩;conv=>whnf
   (refine ⟨rfl,_,rfl,?_⟩;(conv=>whnf);(repeat' (first|apply DG|refine AD (Qt _) ?_)<;>conv=>whnf);refine EE (enc:=AM) 0 rfl rfl rfl O' O' ?_;(conv=>whnf);rw[Gv]at bp;rw[bp];exact BN [] B' (vL N (x:=x) (X:=X) (Y:=Y) (s:=s) (u:=dg (X*2^s)++[0]) (y:=dg (Y*2^s)) h0 dj ((EF _).append (IP O')) (by rw[NX,B2,Db,qb]) Z' G' (EF _) (B2 _) O' (by rw[B2,gd];exact n2)))
theorem Ail (N:a6 L) (a b:N') (q1 q2:Bool) (hA:A7 a) (hB:A7 b) (la:a.length<=274877906944) (lb:b.length<=274877906944) :
  Ev L 110 [.sl q1 (a.map AM),.sl q2 (b.map AM)] (.sl false ((dg (Ga (val a) (val b))).map AM)):=by
 have t1:=λ q=>G9 N a q hA O'
 have t2:=λ q=>G9 N b q hB O'
 have l1:=FN hA;have l2:=FN hB;generalize val a=X at *;generalize val b=Y at *;refine Ev.x N.PL rfl rfl ?_;repeat' (first|apply AE|refine AD (t1 _) ?_|refine AD (t2 _) ?_)<;>conv=>whnf
 refine FJ (λ_ y=>y) (λ(x y:Nat)=>(dg x).length<=274877906944/\(dg y).length<=274877906944/\Ga x y=Ga X Y) (λ x y=>[(0,.sl false ((dg x).map AM)),(1,.sl false ((dg y).map AM))]) (λ_ _=>[]) X Y ⟨O',O',rfl⟩ ?_;intro x y ⟨p1,p2,p3⟩ ih;rw[<-p3];by_cases h0:y=0
 ·subst h0
  have jf:(dg 0).length=0:=by rw[FY];rfl
  clear ih;rw[Nat.gcd_zero_right];repeat' (first|(apply AG<;>intro hc<;>try omega)|apply AR|apply AE)<;>conv=>whnf
  exact AY rfl (K5 _)
 ·have hp:=aB h0
  have hD:=λ q q'=>xX N (dg x) (dg y) q q' (EF _) (EF _) p1 p2 (by rw[B2];exact h0)
  rw[B2,B2]at hD;have j9:x%y<y:=Eb _ O';have cq:=SE (rf j9);repeat' (first|(apply AG<;>intro hc<;>try omega)|apply AR|apply AE|refine AD (hD _ _) ?_)<;>conv=>whnf
  rw[p3];exact A9 [] (ih y (x%y) j9 ⟨p2,O',by rw[aQ];exact p3⟩)
theorem K6 (N:a6 L) (n q:Bool) (m:N') (hm:Sm 274877906944 m):Ev L 111 [.agg (rZ q n m)] (.agg (eZ (zv n m))):=by
 have hT:=λ q=>G9 N m q hm.1 (by have:=hm.2;omega)
 have hz:=JR (val m);have ha:=FU n m;refine Ev.x N.UO rfl rfl ?_;cases n
 ·rw[FA]at *
  repeat' (first|apply AE|refine AD (hT _) ?_)<;>conv=>whnf
  exact AY (FF ha.symm (HH O')) (D6 _)
 ·rw[QA]at *
  repeat' (first|(apply AG<;>intro hc<;>try omega)|apply AR|apply AE|refine AD (hT _) ?_)<;>conv=>whnf
  ·exact AY (FF ha.symm (NP O')) (D6 _)
  ·exact AY (FF ha.symm (HH O')) (D6 _)
theorem YG (N:a6 L) (n q:Bool) (m:N') (hm:Sm 274877906944 m):Ev L 113 [.agg (rZ q n m)] (.int .i64 (o3 (zv n m))):=by
 have hT:=λ q=>K6 N n q m hm
 generalize zv n m=z at *;have hz:=JR z.natAbs;refine Ev.x N.UM rfl rfl ?_;repeat' (first|(apply AG<;>intro hc<;>try omega)|apply AR|apply AE|refine AD (hT _) ?_)<;>conv=>whnf
 ·exact CJ (iU O')
 ·cases hd:decide (z<0)
  ·(conv=>whnf)
   exact CJ (qI (by have:=of_decide_eq_false hd;omega))
  ·(conv=>whnf)
   exact CJ (qH (of_decide_eq_true hd))
theorem mY (N:a6 L) (n q:Bool) (m:N') (hm:Sm 274877906944 m):Ev L 114 [.agg (rZ q n m)] (.agg (eZ (-(zv n m)))):=by
 have hT:=λ q=>K6 N n q m hm
 generalize zv n m=z at *;have hz:=JR z.natAbs;refine Ev.x N.UJ rfl rfl ?_;repeat' (first|apply AE|refine AD (hT _) ?_)<;>conv=>whnf
 cases hd:decide (z<0)
 ·have h1:=of_decide_eq_false hd
  (conv=>whnf)
  repeat' (first|(apply AG<;>intro hc<;>try omega)|apply AR)<;>conv=>whnf
  ·exact AY (FF O' (NP O')) (D6 _)
  ·exact AY (FF O' (HH O')) (D6 _)
 ·have h1:=of_decide_eq_true hd
  (conv=>whnf)
  skip
  exact AY (FF O' (HH O')) (D6 _)
theorem QR (N:a6 L) (n1 n2 q1 q2:Bool) (a b:N') (ha:A7 a) (hb:A7 b) (hl:a.length+b.length<=274877906944):Ev L 118 [.agg (rZ q1 n1 a),.agg (rZ q2 n2 b)] (.agg (eZ (zv n1 a*zv n2 b))):=by
 have h1:=λ q q'=>Aim N a b q q' ha hb O'
 have sa:Sm a.length a:=⟨ha,ea _⟩;have sb:Sm b.length b:=⟨hb,ea _⟩;have hT:=λ n q=>K6 N n q (dg (val a*val b)) ((sa.mul sb rfl).le hl)
 have e : ∀ n,zv n (dg (val a*val b))=bif n then -((val a*val b:Nat):Int) else ((val a*val b:Nat):Int):=λ n=>by unfold zv;rw[B2]
 have e2:zv n1 a*zv n2 b=zv (n1 != n2) (dg (val a*val b)):=by
  rw[e];cases n1<;>cases n2<;>simp [FA,QA,Me,fh]
 rw[e2];refine Ev.x N.UI rfl rfl ?_;cases n1<;>cases n2;all_goals
  repeat' (first|apply AE|refine AD (h1 _ _) ?_|refine AD (hT _ _) ?_)<;>conv=>whnf
  exact AY rfl (D6 _)
theorem xZ (N:a6 L) (n1 n2 q1 q2:Bool) (a b:N') (ha:Sm 274877906943 a) (hb:Sm 274877906943 b):Ev L 115 [.agg (rZ q1 n1 a),.agg (rZ q2 n2 b)] (.agg (eZ (zv n1 a+zv n2 b))):=by
 have t1:=λ q=>K6 N n1 q a (ha.le O')
 have t2:=λ q=>K6 N n2 q b (hb.le O')
 have s1:Sm 274877906943 (dg (zv n1 a).natAbs):=by rw[FU];exact ha.zq
 have s2:Sm 274877906943 (dg (zv n2 b).natAbs):=by rw[FU];exact hb.zq
 generalize zv n1 a=x at *;generalize zv n2 b=y at *;have h1:=λ q q'=>xW N (dg x.natAbs) (dg y.natAbs) q q' s1.1 s2.1 (by have:=s1.2;omega) (by have:=s2.2;omega)
 have h2:=λ q q'=>mX N (dg x.natAbs) (dg y.natAbs) q q' s1.1 s2.1 (by have:=s1.2;omega) (by have:=s2.2;omega)
 have h3:=λ q q'=>mX N (dg y.natAbs) (dg x.natAbs) q q' s2.1 s1.1 (by have:=s2.2;omega) (by have:=s1.2;omega)
 have l7:=λ q q'=>mW N (dg x.natAbs) (dg y.natAbs) q q' s1.1 s2.1 (by have:=s1.2;omega) (by have:=s2.2;omega)
 rw[B2,B2]at h1 h2 h3 l7;have u1:=λ n q=>K6 N n q (dg (x.natAbs+y.natAbs)) (s1.add s2 (by rw[B2,B2];omega))
 have u2:=λ n q=>K6 N n q (dg (x.natAbs-y.natAbs)) ((s1.low (V:=x.natAbs-y.natAbs) (by rw[B2];omega)).le O')
 have u3:=λ n q=>K6 N n q (dg (y.natAbs-x.natAbs)) ((s2.low (V:=y.natAbs-x.natAbs) (by rw[B2];omega)).le O')
 have e : ∀ n V,zv n (dg V)=bif n then -(V:Int) else (V:Int):=λ n V=>by unfold zv;rw[B2]
 refine Ev.x N.UE rfl rfl ?_;repeat' (first|apply AE|refine AD (t1 _) ?_|refine AD (t2 _) ?_)<;>conv=>whnf
 cases hx:decide (x<0)<;>cases hy:decide (y<0)
 ·have g1:=of_decide_eq_false hx
  have g2:=of_decide_eq_false hy;have hz:x+y=zv false (dg (x.natAbs+y.natAbs)):=by rw[e];simp only[cond_true,cond_false];omega
  rw[hz];conv=>whnf
  repeat' (first|refine AD (h1 _ _) ?_|refine AD (u1 _ _) ?_)<;>conv=>whnf
  exact AY rfl (D6 _)
 ·have g1:=of_decide_eq_false hx
  have g2:=of_decide_eq_true hy;by_cases j9:x.natAbs<y.natAbs
  ·have hz:x+y=zv true (dg (y.natAbs-x.natAbs)):=by rw[e];simp only[cond_true,cond_false];omega
   rw[hz];rw[<-JP O']at l7;conv=>whnf
   repeat' (first|(apply AG<;>intro hc<;>try omega)|refine AD (l7 _ _) ?_|refine AD (h3 _ _) ?_|refine AD (u3 _ _) ?_)<;>conv=>whnf
   exact AY rfl (D6 _)
  ·have hz:x+y=zv false (dg (x.natAbs-y.natAbs)):=by rw[e];simp only[cond_true,cond_false];omega
   rw[hz];have mi:=dS (show y.natAbs<=x.natAbs by omega);generalize DL (x.natAbs:Nat) (y.natAbs:Nat)=cm at *;conv=>whnf
   repeat' (first|(apply AG<;>intro hc<;>try omega)|refine AD (l7 _ _) ?_|refine AD (h2 _ _) ?_|refine AD (u2 _ _) ?_)<;>conv=>whnf
   exact AY rfl (D6 _)
 ·have g1:=of_decide_eq_true hx
  have g2:=of_decide_eq_false hy;by_cases j9:x.natAbs<y.natAbs
  ·have hz:x+y=zv false (dg (y.natAbs-x.natAbs)):=by rw[e];simp only[cond_true,cond_false];omega
   rw[hz];rw[<-JP O']at l7;conv=>whnf
   repeat' (first|(apply AG<;>intro hc<;>try omega)|refine AD (l7 _ _) ?_|refine AD (h3 _ _) ?_|refine AD (u3 _ _) ?_)<;>conv=>whnf
   exact AY rfl (D6 _)
  ·have hz:x+y=zv true (dg (x.natAbs-y.natAbs)):=by rw[e];simp only[cond_true,cond_false];omega
   rw[hz];have mi:=dS (show y.natAbs<=x.natAbs by omega);generalize DL (x.natAbs:Nat) (y.natAbs:Nat)=cm at *;conv=>whnf
   repeat' (first|(apply AG<;>intro hc<;>try omega)|refine AD (l7 _ _) ?_|refine AD (h2 _ _) ?_|refine AD (u2 _ _) ?_)<;>conv=>whnf
   exact AY rfl (D6 _)
 ·have g1:=of_decide_eq_true hx
  have g2:=of_decide_eq_true hy;have hz:x+y=zv true (dg (x.natAbs+y.natAbs)):=by rw[e];simp only[cond_true,cond_false];omega
  rw[hz];conv=>whnf
  repeat' (first|refine AD (h1 _ _) ?_|refine AD (u1 _ _) ?_)<;>conv=>whnf
  exact AY rfl (D6 _)
theorem Air (N:a6 L) (n1 n2 q1 q2:Bool) (a b:N') (ha:Sm 274877906943 a) (hb:Sm 274877906943 b):Ev L 116 [.agg (rZ q1 n1 a),.agg (rZ q2 n2 b)] (.agg (eZ (zv n1 a-zv n2 b))):=by
 have t2:=λ q=>mY N n2 q b (hb.le O')
 have s2:Sm 274877906943 (dg (-(zv n2 b)).natAbs):=by rw[Ee,FU];exact hb.zq
 have h1:=λ q q'=>xZ N n1 (decide (-(zv n2 b)<0)) q q' a (dg (-(zv n2 b)).natAbs) ha s2
 rw[F2,<-ig]at h1;refine Ev.x N.UN rfl rfl ?_;repeat' (first|apply AE|refine AD (t2 _) ?_|refine AD (h1 _ _) ?_)<;>conv=>whnf
 exact AY rfl (D6 _)
theorem Aip (N:a6 L) (n1 n2 q1 q2:Bool) (a b:N') (ha:Sm 274877906943 a) (hb:Sm 274877906943 b):Ev L 117 [.agg (rZ q1 n1 a),.agg (rZ q2 n2 b)] (.int .i64 (o3 (zv n1 a-zv n2 b))):=by
 have h1:=λ q q'=>Air N n1 n2 q q' a b ha hb
 have s1:Sm 274877906943 (dg (zv n1 a).natAbs):=by rw[FU];exact ha.zq
 have s2:Sm 274877906943 (dg (zv n2 b).natAbs):=by rw[FU];exact hb.zq
 have s3:Sm 274877906944 (dg (zv n1 a-zv n2 b).natAbs):=s1.add s2 (by rw[B2,B2];omega);have h2:=λ q=>YG N (decide (zv n1 a-zv n2 b<0)) q (dg (zv n1 a-zv n2 b).natAbs) s3
 rw[F2]at h2;refine Ev.x N.UF rfl rfl ?_;repeat' (first|apply AE|refine AD (h1 _ _) ?_|refine AD (h2 _) ?_)<;>conv=>whnf
 exact CJ rfl
theorem mZ (N:a6 L) (z:Int) (hz : -9223372036854775808<=z/\z<=9223372036854775807):Ev L 112 [.int .i64 z] (.agg (eZ z)):=by
 have two : ∀ k:Nat,k<18446744073709551616 -> ∀ n q,Ev L 111 [.agg [.bool n,.sl q [[.int .u32 ((k%4294967296:Nat):Int)],[.int .u32 ((k/4294967296:Nat):Int)]]]] (.agg (eZ (bif n then -(k:Int) else (k:Int)))):=λ k hk n q=>by
  have:=K6 N n q [k%4294967296,k/4294967296] ⟨(lS hk).2,Z'⟩
  unfold zv at this;rw[Add hk]at this;exact this
 refine Ev.x N.UK rfl rfl ?_;by_cases h0:0<=z
 ·obtain ⟨k,rfl⟩:=Qd h0
  have hT:=two k O';repeat' (first|(apply AG<;>intro hc<;>try omega)|apply GH|(apply CD;omega)|(apply E0;omega)|apply GV|refine JJ rfl rfl ?_|apply AE)<;>conv=>whnf
  generalize k%4294967296=lo at *;generalize k/4294967296=hi at *;(repeat' (refine AD (hT _ _) ?_<;>conv=>whnf))
  exact AY rfl (D6 _)
 ·obtain ⟨k,hk⟩:=Qd (show 0 <= -(z+1) by omega)
  have mu:z = -((k+1:Nat):Int):=O'
  have hT:=two (k+1) O';repeat' (first|(apply AG<;>intro hc<;>try omega)|(apply AP;omega)|apply sL|(apply CQ.neg;omega)|(apply CD;omega)|apply AE)<;>conv=>whnf
  rw[show IntKind.u64.wrap (-(z+1)+1)=((k+1:Nat):Int) by rw[IntWalk.u64_in _ O'];omega];rw[mu];generalize k+1=k1 at *;repeat' (first|apply GH|(apply E0;omega)|apply GV|refine JJ rfl rfl ?_)<;>conv=>whnf
  generalize k1%4294967296=lo at *;generalize k1/4294967296=hi at *;(repeat' (refine AD (hT _ _) ?_<;>conv=>whnf))
  exact AY rfl (D6 _)
theorem Aiq (N:a6 L) (n1 n2 q1 q2:Bool) (a b:N') (ha:Sm 274877906944 a) (hb:Sm 274877906944 b):Ev L 120 [.agg (rZ q1 n1 a),.agg (rZ q2 n2 b)] (.agg (eZ ((Ga (val a) (val b):Nat):Int))):=by
 have h1:=λ q q'=>Ail N a b q q' ha.1 hb.1 ha.2 hb.2
 refine Ev.x N.UH rfl rfl ?_;repeat' (first|apply AE|refine AD (h1 _ _) ?_)<;>conv=>whnf
 exact AY (FF O' (HH O')) (D6 _)
theorem Ag7 (n1 n2:Bool) (A B:Nat) (hB:B≠0):(bif n1 then -(A:Int) else (A:Int))/(bif n2 then -(B:Int) else (B:Int))=(bif n1 != n2 then -((if n1=true/\A%B≠0 then A/B+1 else A/B:Nat):Int) else ((if n1=true/\A%B≠0 then A/B+1 else A/B:Nat):Int)) /\
  (bif n1 then -(A:Int) else (A:Int))%(bif n2 then -(B:Int) else (B:Int))=((if n1=true/\A%B≠0 then B-A%B else A%B:Nat):Int):=by
 have hBp:(0:Int)<B:=O'
 have key : ∀ x:Int,x/(bif n2 then -(B:Int) else (B:Int))=(bif n2 then -(x/B) else x/B)/\x%(bif n2 then -(B:Int) else (B:Int))=x%B:=λ x=>by
  cases n2
  ·exact ⟨rfl,rfl⟩
  ·exact ⟨Int.ediv_neg x B,Int.emod_neg x B⟩
 rw[(key _).1,(key _).2];cases n1
 ·have h1:((A:Int))/B=((A/B:Nat):Int):=Z'
  have h2:((A:Int))%B=((A%B:Nat):Int):=Z'
  simp only[cond_false,h1,h2];cases n2<;>simp
 ·have hd:=Cd A B
  have j9:=Eb A (show B>0 by omega);by_cases h0:A%B=0
  ·have e : -(A:Int)=(B:Int)*(-((A/B:Nat):Int)):=by
    rw[h0,qb]at hd;rw[Me,<-Cg,hd]
   have h1 : -(A:Int)/B = -((A/B:Nat):Int):=by rw[e,Ob _ O']
   have h2 : -(A:Int)%B=0:=by rw[e,Int.mul_emod_right]
   simp only[cond_true,h1,h2,h0];cases n2<;>simp
  ·have e : -(A:Int)=(B:Int)*(-((A/B+1:Nat):Int))+((B-A%B:Nat):Int):=by
    have h3:(B:Int)*((A/B:Nat):Int)+((A%B:Nat):Int)=A:=by rw[<-Cg,<-Ag,hd]
    rw[Me,Ag,Int.mul_add];omega
   have h1 : -(A:Int)/B = -((A/B+1:Nat):Int):=by
    rw[e,Int.mul_add_ediv_left _ _ O',Int.ediv_eq_zero_of_lt O' O',Int.add_zero]
   have h2 : -(A:Int)%B=((B-A%B:Nat):Int):=by
    rw[e,Int.mul_add_emod_self_left,Int.emod_eq_of_lt O' O']
   simp only[cond_true,h1,h2];cases n2<;>simp [h0]
theorem yA (N:a6 L) (n1 n2 q1 q2:Bool) (a b:N') (ha:Sm 274877906943 a) (hb:Sm 274877906943 b) (h0:zv n2 b≠0):Ev L 119 [.agg (rZ q1 n1 a),.agg (rZ q2 n2 b)] (.c5 [.agg (eZ (zv n1 a/zv n2 b)),.agg (eZ (zv n1 a%zv n2 b)),.int .i64 0]):=by
 have t1:=λ q=>K6 N n1 q a (ha.le O')
 have t2:=λ q=>K6 N n2 q b (hb.le O')
 have s1:Sm 274877906943 (dg (zv n1 a).natAbs):=by rw[FU];exact ha.zq
 have s2:Sm 274877906943 (dg (zv n2 b).natAbs):=by rw[FU];exact hb.zq
 generalize zv n1 a=x at *;generalize zv n2 b=y at *;have Ex:=λ q q'=>xX N (dg x.natAbs) (dg y.natAbs) q q' s1.1 s2.1 (by have:=s1.2;omega) (by have:=s2.2;omega) (by rw[B2];omega)
 rw[B2,B2]at Ex;obtain ⟨e1,e2⟩:=Ag7 (decide (x<0)) (decide (y<0)) x.natAbs y.natAbs O';have hx:(bif decide (x<0) then -(x.natAbs:Int) else (x.natAbs:Int))=x:=by have:=F2 x;unfold zv at this;rw[B2]at this;exact this
 have hy:(bif decide (y<0) then -(y.natAbs:Int) else (y.natAbs:Int))=y:=by have:=F2 y;unfold zv at this;rw[B2]at this;exact this
 rw[hx,hy]at e1 e2;rw[e1,e2];have l1:=s1.2;have l2:=s2.2;have hq:Sm 274877906943 (dg (x.natAbs/y.natAbs)):=s1.low (by rw[B2];exact Dg _ _);have hr:Sm 274877906943 (dg (x.natAbs%y.natAbs)):=s2.low (by rw[B2];exact rf (Eb _ O'));have hrz:=JR (x.natAbs%y.natAbs);have iz:Ev L 103 [.sl false ((dg (x.natAbs/y.natAbs)).map AM),.sl true [[.int .u32 1]]] (.sl false ((dg (x.natAbs/y.natAbs+1)).map AM)):=by
  have:=xW N (dg (x.natAbs/y.natAbs)) [1] false true (EF _) (IP O') (by have:=hq.2;omega) Z'
  rw[B2,show val [1]=1 from rfl]at this;exact this
 have zl:Sm 274877906944 (dg (x.natAbs/y.natAbs+1)):=hq.add (b:=[1]) (qL O' O') (by rw[B2];simp [val]);have Jj:=λ q q'=>mX N (dg y.natAbs) (dg (x.natAbs%y.natAbs)) q q' s2.1 hr.1 O' (by have:=hr.2;omega)
 rw[B2,B2]at Jj;have u1:=λ n q=>K6 N n q (dg (x.natAbs/y.natAbs)) (hq.le O')
 have u2:=λ n q=>K6 N n q (dg (x.natAbs/y.natAbs+1)) zl
 have ez : ∀ n V,zv n (dg V)=bif n then -(V:Int) else (V:Int):=λ n V=>by unfold zv;rw[B2]
 have fin : ∀ (z:Int) (V:Nat),AH (.c5 [.agg (eZ z),.agg [.bool false,.sl false ((dg V).map AM)],.int .i64 0]) (.c5 [.agg (eZ z),.agg (eZ (V:Int)),.int .i64 0]):=λ z V=>by
  have e3:AV.agg (eZ (V:Int)) = .agg [.bool false,.sl false ((dg V).map AM)]:=(FF O' (HH O')).symm;rw[e3];refine AY rfl ?_;simp only[A3,B7,and_true,true_and];exact ⟨CP _,CP _⟩
 clear e1 e2 hx hy;generalize x.natAbs/y.natAbs=qq at *;generalize x.natAbs%y.natAbs=rr at *;refine Ev.x N.UG rfl rfl ?_;repeat' (first|(apply AG<;>intro hc<;>try omega)|apply AE|refine AD (t1 _) ?_|refine AD (t2 _) ?_|refine AD (Ex _ _) ?_)<;>conv=>whnf
 generalize decide (x<0)=p at *;generalize decide (y<0)=r at *;cases p
 ·rw[if_neg Z',if_neg Z',<-ez]
  cases r;all_goals
   (conv=>whnf)
   (repeat' (refine AD (u1 _ _) ?_<;>conv=>whnf))
   exact fin _ _
 ·by_cases s8:rr=0
  ·rw[if_neg (by simp [s8]),if_neg (by simp [s8]),<-ez]
   cases r;all_goals
    (conv=>whnf)
    repeat' (first|(apply AG<;>intro hc<;>try omega)|apply AR|refine AD (u1 _ _) ?_)<;>conv=>whnf
    exact fin _ _
  ·rw[if_pos ⟨rfl,s8⟩,if_pos ⟨rfl,s8⟩,<-ez]
   cases r;all_goals
    (conv=>whnf)
    repeat' (first|(apply AG<;>intro hc<;>try omega)|apply AR|refine GS rfl ?_|refine AD (iz) ?_|refine AD (Jj _ _) ?_|refine AD (u2 _ _) ?_)<;>conv=>whnf
    exact fin _ _
theorem vE:dg 1=[1]:=by rw[KB O'];simp [FY]
theorem tG:AV.agg [.bool false,.sl false [],.sl false [[.int .u32 1]]] = .agg (eQ 0):=by
 show _=AV.agg (rQ _ _ _ _ _);rw[Rat.zero_num,Rat.zero_den,vE,show (0:Int).natAbs=0 from rfl,FY];rfl
theorem Af8 {x y:Int} (hy:y≠0):(Ib x y).num=(if y<0 then -(x/((Ga x.natAbs y.natAbs:Nat):Int)) else x/((Ga x.natAbs y.natAbs:Nat):Int))/\(Ib x y).den=(y/((Ga x.natAbs y.natAbs:Nat):Int)).natAbs:=by
 have h1:=Rat.num_divInt x y;have h2:=Rat.den_divInt x y;rw[if_neg hy]at h2;have hg:eh y x=Ga x.natAbs y.natAbs:=by rw[eh,ph]
 rw[hg]at h1 h2;have Ou:0<Ga x.natAbs y.natAbs:=Ce _ O';have dx:((Ga x.natAbs y.natAbs:Nat):Int) ∣ x:=gg.2 (Nat.gcd_dvd_left _ _);have dy:((Ga x.natAbs y.natAbs:Nat):Int) ∣ y:=gg.2 (Nat.gcd_dvd_right _ _);generalize Ga x.natAbs y.natAbs=g at *;rw[h1,h2];obtain ⟨u,rfl⟩:=dx;obtain ⟨v,rfl⟩:=dy;have Ds:(g:Int)≠0:=O'
 refine ⟨?_,?_⟩
 ·rw[Ob _ Ds]
  split
  ·rename_i h
   rw[Fe h,show -1*((g:Int)*u)=g*(-u) by rw[Me];omega,Ob _ Ds]
  ·rw[Gd O',Ef,Ob _ Ds]
 ·rw[Ob _ Ds,xd,tb,Nat.mul_div_cancel_left _ Ou]
theorem aH (N:a6 L) (n1 n2 q1 q2:Bool) (a b:N') (ha:Sm 274877906943 a) (hb:Sm 274877906943 b):Ev L 121 [.agg (rZ q1 n1 a),.agg (rZ q2 n2 b)] (.agg (eQ (Ib (zv n1 a) (zv n2 b)))):=by
 have t1:=λ q=>YG N n1 q a (ha.le O')
 have t2:=λ q=>YG N n2 q b (hb.le O')
 by_cases h1:zv n1 a=0
 ·rw[h1,Rat.zero_divInt,<-tG]
  rw[h1,<-iU rfl]at t1;refine Ev.x N.MP rfl rfl ?_;repeat' (first|(apply AG<;>intro hc<;>try omega)|refine GS rfl ?_|apply AE|refine AD (t1 _) ?_)<;>conv=>whnf
  exact AY rfl (dP false [] [1])
 have s1:o3 (zv n1 a)≠0:=by unfold o3;split<;>(try split)<;>omega
 by_cases h2:zv n2 b=0
 ·rw[h2,Rat.divInt_zero,<-tG]
  rw[h2,<-iU rfl]at t2;generalize o3 (zv n1 a)=sg at *;refine Ev.x N.MP rfl rfl ?_;repeat' (first|(apply AG<;>intro hc<;>try omega)|refine GS rfl ?_|apply AE|refine AD (t1 _) ?_|refine AD (t2 _) ?_)<;>conv=>whnf
  exact AY rfl (dP false [] [1])
 have s2:o3 (zv n2 b)≠0:=by unfold o3;split<;>(try split)<;>omega
 obtain ⟨p1,p2⟩:=Af8 (x:=zv n1 a) h2;have hG:=λ q q'=>Aiq N n1 n2 q q' a b (ha.le O') (hb.le O')
 have hle:Ga (val a) (val b)<=val b:=Nat.gcd_le_right _ (by have:=FU n2 b;omega);have Ou:0<Ga (val a) (val b):=Ce _ (by have:=FU n2 b;omega);have sg:Sm 274877906943 (dg (Ga (val a) (val b))):=hb.low hle;rw[FU,FU]at p1 p2;have hgf:decide (((Ga (val a) (val b):Nat):Int)<0)=false:=Z'
 have sg':Sm 274877906943 (dg (((Ga (val a) (val b):Nat):Int)).natAbs):=by rw[tb];exact sg
 have zg:zv (decide (((Ga (val a) (val b):Nat):Int)<0)) (dg (((Ga (val a) (val b):Nat):Int)).natAbs)=((Ga (val a) (val b):Nat):Int):=F2 _;have wg:=λ q q'=>yA N n1 _ q q' a _ ha sg' (by rw[zg];omega)
 have wi:=λ q q'=>yA N n2 _ q q' b _ hb sg' (by rw[zg];omega)
 rw[zg]at wg wi;have xg:Sm 274877906943 (dg (zv n1 a/((Ga (val a) (val b):Nat):Int)).natAbs):=ha.low (by
  have:(zv n1 a/((Ga (val a) (val b):Nat):Int)).natAbs<=(zv n1 a).natAbs:=Int.natAbs_ediv_le_natAbs _ _
  rw[FU]at this;exact this)
 have Ds:0<((Ga (val a) (val b):Nat):Int):=O'
 generalize ((Ga (val a) (val b):Nat):Int)=g at *;generalize zv n1 a=x at *;generalize zv n2 b=y at *;generalize o3 x=sx at *;generalize o3 y=sy at *;have hN:=λ q=>mY N (decide (x/g<0)) q (dg (x/g).natAbs) (xg.le O')
 rw[F2]at hN;have Fu:decide (y/g<0)=decide (y<0):=by
  congr 1;rw[eq_iff_iff,Int.ediv_lt_iff_lt_mul O',Int.zero_mul]
 refine Ev.x N.MP rfl rfl ?_;repeat' (first|(apply AG<;>intro hc<;>try omega)|apply AE|refine AD (t1 _) ?_|refine AD (t2 _) ?_|refine AD (hG _ _) ?_|refine AD (wg _ _) ?_|refine AD (wi _ _) ?_)<;>conv=>whnf
 cases hyn:decide (y/g<0)
 ·rw[hyn]at Fu
  rw[if_neg (of_decide_eq_false Fu.symm)]at p1;conv=>whnf
  skip
  refine AY ?_ (DK _);show _=AV.agg (rQ _ _ _ _ _);rw[p1,p2]
 ·rw[hyn]at Fu
  rw[if_pos (of_decide_eq_true Fu.symm)]at p1;conv=>whnf
  (repeat' (refine AD (hN _) ?_<;>conv=>whnf))
  refine AY ?_ (DK _);show _=AV.agg (rQ _ _ _ _ _);rw[p1,p2]
theorem Aga {z:Int} {d:N'}:Ib z (zv false d)=mkRat z (val d):=by rw[FA,ib]
def Aej (n:Bool) (m d:N') (n':Bool) (m' d':N') (k:Nat):Prop:=Sm k m'/\Sm k d'/\val d'≠0/\qv n m d=mkRat (zv n' m') (val d')
theorem uG (n:Bool) (m d:N'):A3 (.c5 [.agg (rZ false n m),.agg (rZ false false d)]):=by
 simp only[A3,B7,and_true,true_and];exact ⟨CP _,CP _⟩
theorem NB (N:a6 L) (n q:Bool) (m d:N') (k:Nat) (hk:1<=k/\k<=274877906943) (hm:Sm k m) (hd:Sm k d) : ∃ n' m' d',Ev L 122 [.agg (rQ false q n m d)] (.c5 [.agg (rZ false n' m'),.agg (rZ false false d')])/\Aej n m d n' m' d' k:=by
 have t1:=λ q=>G9 N d q hd.1 (by have:=hd.2;omega)
 have hl:=JR (val d);by_cases h0:val d=0
 ·refine ⟨false,[],[1],?_,VE _,qL hk.1 O',Y',by unfold qv;rw[h0,xh,Adq,Je]⟩
  refine Ev.x N.PP rfl rfl ?_;repeat' (first|(apply AG<;>intro hc<;>try omega)|apply AR|refine GS rfl ?_|apply AE|refine AD (t1 _) ?_)<;>conv=>whnf
  exact AY rfl (uG false [] [1])
 ·refine ⟨n,m,dg (val d),?_,hm,hd.zq,by rw[B2];exact h0,by rw[B2];rfl⟩
  refine Ev.x N.PP rfl rfl ?_;repeat' (first|(apply AG<;>intro hc<;>try omega)|apply AR|apply AE|refine AD (t1 _) ?_)<;>conv=>whnf
  exact AY rfl (uG _ _ _)
theorem Ait (N:a6 L) (n q:Bool) (m d:N') (hm:Sm 274877906943 m) (hd:Sm 274877906943 d) {q0:Bool}:Ev L 123 [.agg (rQ q0 q n m d)] (.agg (eQ (qv n m d))):=by
 obtain ⟨n',m',d',hp,s1,s2,s3,s4⟩:=NB N n false m d 274877906943 O' hm hd;have hr:=λ q q'=>aH N n' false q q' m' d' s1 s2
 rw[Aga,<-s4]at hr;refine Ev.x N.UY rfl rfl ?_;repeat' (first|apply VX|apply AE|refine AD (hp) ?_|refine AD (hr _ _) ?_)<;>conv=>whnf
 exact AY rfl (DK _)
theorem AeZ (z:Int):AV.agg [.bool (decide (z<0)),.sl false ((dg z.natAbs).map AM),.sl false [[.int .u32 1]]] = .agg (eQ (z:Rat)):=by
 show _=AV.agg (rQ _ _ _ _ _);rw[Mg,Ig,vE];rfl
theorem KE (N:a6 L) (z:Int) (hz : -9223372036854775808<=z/\z<=9223372036854775807):Ev L 124 [.int .i64 z] (.agg (eQ (z:Rat))):=by
 have h1:=mZ N z hz;refine Ev.x N.UW rfl rfl ?_;repeat' (first|refine GS rfl ?_|apply AE|refine AD (h1) ?_)<;>conv=>whnf
 exact AY (AeZ z) (DK _)
theorem Yw {z:Int} (hz : -9223372036854775808<=z/\z<=9223372036854775808):Sm 2 (dg z.natAbs):=Sm.dg O'
theorem YH (N:a6 L) (x y:Int) (hx : -9223372036854775808<=x/\x<=9223372036854775807) (hy : -9223372036854775808<=y/\y<=9223372036854775807):Ev L 125 [.int .i64 x,.int .i64 y] (.agg (eQ (Ib x y))):=by
 have h1:=mZ N x hx;have h2:=mZ N y hy;have hr:=λ q q'=>aH N (decide (x<0)) (decide (y<0)) q q' _ _ ((Yw (z:=x) O').le O') ((Yw (z:=y) O').le O')
 rw[F2,F2]at hr;refine Ev.x N.UT rfl rfl ?_;repeat' (first|apply AE|refine AD (h1) ?_|refine AD (h2) ?_|refine AD (hr _ _) ?_)<;>conv=>whnf
 exact AY rfl (DK _)
theorem RG {k l:Nat} {n1 n2:Bool} {a b:N'} (ha:Sm k a) (hb:Sm l b):Sm (k+l) (dg (zv n1 a*zv n2 b).natAbs):=ha.mul hb (by rw[xd,FU,FU])
theorem AmH {k:Nat} {x y:Int} (ha:Sm k (dg x.natAbs)) (hb:Sm k (dg y.natAbs)):Sm (k+1) (dg (x+y).natAbs):=ha.add hb (by rw[B2,B2];omega)
theorem yB (N:a6 L) (k:Nat) (hk:1<=k/\k<=68719476736) (n1 n2 q2 q4:Bool) (m1 d1 m2 d2:N') (gn:Sm k m1) (oh:Sm k d1) (gj:Sm k m2) (oi:Sm k d2) {q1 q3:Bool} :
  Ev L 126 [.agg (rQ q1 q2 n1 m1 d1),.agg (rQ q3 q4 n2 m2 d2)] (.agg (eQ (qv n1 m1 d1+qv n2 m2 d2))):=by
 obtain ⟨a1,a2,a3,z0,s1,s2,s3,s5⟩:=NB N n1 false m1 d1 k O' gn oh;obtain ⟨b1,b2,b3,au,t1,t2,t3,t5⟩:=NB N n2 false m2 d2 k O' gj oi;have l1:=s1.2;have l2:=s2.2;have l3:=t1.2;have l4:=t2.2;rw[s5,t5,gF s3 t3,<-FA b3,<-FA a3];have dd:=λ q q'=>QR N a1 false q q' a2 b3 s1.1 t2.1 O'
 have de:=λ q q'=>QR N b1 false q q' b2 a3 t1.1 s2.1 O'
 have tp:=λ q q'=>QR N false false q q' a3 b3 s2.1 t2.1 O'
 have g1:Sm (k+k) (dg (zv a1 a2*zv false b3).natAbs):=RG s1 t2;have g2:Sm (k+k) (dg (zv b1 b2*zv false a3).natAbs):=RG t1 s2;have g3:=AmH g1 g2;have g4:Sm (k+k) (dg (zv false a3*zv false b3).natAbs):=RG s2 t2;have hA:=λ q q'=>xZ N (decide (zv a1 a2*zv false b3<0)) (decide (zv b1 b2*zv false a3<0)) q q' _ _ (g1.le O') (g2.le O')
 rw[F2,F2]at hA;have hR:=λ q q'=>aH N (decide (zv a1 a2*zv false b3+zv b1 b2*zv false a3<0)) (decide (zv false a3*zv false b3<0)) q q' _ _ (g3.le O') (g4.le O')
 rw[F2,F2,show zv false a3*zv false b3=((val a3*val b3:Nat):Int) by rw[FA,FA];simp,ib]at hR;rw[show zv false a3*zv false b3=((val a3*val b3:Nat):Int) by rw[FA,FA];simp]at tp;refine Ev.x N.UQ rfl rfl ?_;repeat' (first|apply VX|apply AE|refine AD (z0) ?_|refine AD (au) ?_|refine AD (dd _ _) ?_|refine AD (de _ _) ?_|refine AD (hA _ _) ?_|refine AD (tp _ _) ?_|refine AD (hR _ _) ?_)<;>conv=>whnf
 exact AY rfl (DK _)
theorem Ais (N:a6 L) (k:Nat) (hk:1<=k/\k<=68719476736) (n1 n2 q2 q4:Bool) (m1 d1 m2 d2:N') (gn:Sm k m1) (oh:Sm k d1) (gj:Sm k m2) (oi:Sm k d2) {q1 q3:Bool} :
  Ev L 128 [.agg (rQ q1 q2 n1 m1 d1),.agg (rQ q3 q4 n2 m2 d2)] (.agg (eQ (qv n1 m1 d1*qv n2 m2 d2))):=by
 obtain ⟨a1,a2,a3,z0,s1,s2,s3,s5⟩:=NB N n1 false m1 d1 k O' gn oh;obtain ⟨b1,b2,b3,au,t1,t2,t3,t5⟩:=NB N n2 false m2 d2 k O' gj oi;have l1:=s1.2;have l2:=s2.2;have l3:=t1.2;have l4:=t2.2;rw[s5,t5,oX];have dd:=λ q q'=>QR N a1 b1 q q' a2 b2 s1.1 t1.1 O'
 have tp:=λ q q'=>QR N false false q q' a3 b3 s2.1 t2.1 O'
 have g1:Sm (k+k) (dg (zv a1 a2*zv b1 b2).natAbs):=RG s1 t1;have g4:Sm (k+k) (dg (zv false a3*zv false b3).natAbs):=RG s2 t2;have hR:=λ q q'=>aH N (decide (zv a1 a2*zv b1 b2<0)) (decide (zv false a3*zv false b3<0)) q q' _ _ (g1.le O') (g4.le O')
 rw[F2,F2,show zv false a3*zv false b3=((val a3*val b3:Nat):Int) by rw[FA,FA];simp,ib]at hR;rw[show zv false a3*zv false b3=((val a3*val b3:Nat):Int) by rw[FA,FA];simp]at tp;refine Ev.x N.UU rfl rfl ?_;repeat' (first|apply VX|apply AE|refine AD (z0) ?_|refine AD (au) ?_|refine AD (dd _ _) ?_|refine AD (tp _ _) ?_|refine AD (hR _ _) ?_)<;>conv=>whnf
 exact AY rfl (DK _)
theorem Sc {a b:Int} {d e:Nat} (hd:d≠0) (he:e≠0):o3 (a*e-b*d)=o3 (mkRat a d-mkRat b e).num:=by
 have h:mkRat a d-mkRat b e=mkRat (a*e-b*d) (d*e):=by
  rw[qe,vh,gF hd he,fh,<-ig]
 rw[h,pA (Le hd he)]
theorem yC (N:a6 L) (k:Nat) (hk:1<=k/\k<=68719476736) (n1 n2 q2 q4:Bool) (m1 d1 m2 d2:N') (gn:Sm k m1) (oh:Sm k d1) (gj:Sm k m2) (oi:Sm k d2) {q1 q3:Bool} :
  Ev L 127 [.agg (rQ q1 q2 n1 m1 d1),.agg (rQ q3 q4 n2 m2 d2)] (.int .i64 (o3 (qv n1 m1 d1-qv n2 m2 d2).num)):=by
 obtain ⟨a1,a2,a3,z0,s1,s2,s3,s5⟩:=NB N n1 false m1 d1 k O' gn oh;obtain ⟨b1,b2,b3,au,t1,t2,t3,t5⟩:=NB N n2 false m2 d2 k O' gj oi;have l1:=s1.2;have l2:=s2.2;have l3:=t1.2;have l4:=t2.2;rw[s5,t5,<-Sc s3 t3,<-FA b3,<-FA a3];have dd:=λ q q'=>QR N a1 false q q' a2 b3 s1.1 t2.1 O'
 have de:=λ q q'=>QR N b1 false q q' b2 a3 t1.1 s2.1 O'
 have g1:Sm (k+k) (dg (zv a1 a2*zv false b3).natAbs):=RG s1 t2;have g2:Sm (k+k) (dg (zv b1 b2*zv false a3).natAbs):=RG t1 s2;have hC:=λ q q'=>Aip N (decide (zv a1 a2*zv false b3<0)) (decide (zv b1 b2*zv false a3<0)) q q' _ _ (g1.le O') (g2.le O')
 rw[F2,F2]at hC;refine Ev.x N.UR rfl rfl ?_;repeat' (first|apply VX|apply AE|refine AD (z0) ?_|refine AD (au) ?_|refine AD (dd _ _) ?_|refine AD (de _ _) ?_|refine AD (hC _ _) ?_)<;>conv=>whnf
 exact CJ rfl
theorem Bt.gf {k:Nat} {x:Rat} (h:Bt k x) (hk:k<2199023255552):Sm 68719476736 (dg x.num.natAbs)/\Sm 68719476736 (dg x.den):=h.dig O'
theorem QN (N:a6 L) {x y:Rat} {k l:Nat} (hx:Bt k x) (hy:Bt l y) (hk:k<2199023255552) (hl:l<2199023255552):Ev L 126 [.agg (eQ x),.agg (eQ y)] (.agg (eQ (x+y))):=by
 have:=yB (q1:=false) (q3:=false) N 68719476736 O' (decide (x.num<0)) (decide (y.num<0)) false false _ _ _ _ (hx.gf hk).1 (hx.gf hk).2 (hy.gf hl).1 (hy.gf hl).2
 rw[EL,EL]at this;exact this
theorem ON (N:a6 L) {x y:Rat} {k l:Nat} (hx:Bt k x) (hy:Bt l y) (hk:k<2199023255552) (hl:l<2199023255552):Ev L 128 [.agg (eQ x),.agg (eQ y)] (.agg (eQ (x*y))):=by
 have:=Ais (q1:=false) (q3:=false) N 68719476736 O' (decide (x.num<0)) (decide (y.num<0)) false false _ _ _ _ (hx.gf hk).1 (hx.gf hk).2 (hy.gf hl).1 (hy.gf hl).2
 rw[EL,EL]at this;exact this
theorem fD (N:a6 L) {x:Rat} {k:Nat} (hx:Bt k x) (hk:k<2199023255552):Ev L 123 [.agg (eQ x)] (.agg (eQ x)):=by
 have:=Ait (q0:=false) N (decide (x.num<0)) false _ _ ((hx.gf hk).1.le O') ((hx.gf hk).2.le O')
 rw[EL]at this;exact this
theorem eK (N:a6 L) {x y:Rat} {k l:Nat} (hx:Bt k x) (hy:Bt l y) (hk:k<2199023255552) (hl:l<2199023255552):Ev L 127 [.agg (eQ x),.agg (eQ y)] (.int .i64 (o3 (x-y).num)):=by
 have:=yC (q1:=false) (q3:=false) N 68719476736 O' (decide (x.num<0)) (decide (y.num<0)) false false _ _ _ _ (hx.gf hk).1 (hx.gf hk).2 (hy.gf hl).1 (hy.gf hl).2
 rw[EL,EL]at this;exact this
theorem iT {x y:Rat}:o3 (x-y).num=0↔x=y:=by
 have h:o3 (x-y).num=0↔(x-y).num=0:=by unfold o3;split<;>(try split)<;>omega
 rw[h,Lg];constructor
 ·intro h;grind
 ·rintro rfl;exact Rat.sub_self
theorem eN (N:k9 L) {x:Rat} {k:Nat} (hx:Bt k x) (hk:k<2199023255552):Ev L 152 [.agg (eQ x)] (.agg (eQ (-x))):=by
 have hT:=fD N.toa6 hx hk;have hN:=λ q=>mY N.toa6 (decide (x.num<0)) q (dg x.num.natAbs) ((hx.gf hk).1.le O')
 rw[F2]at hN;refine Ev.x N.UV rfl rfl ?_;repeat' (first|apply AE|refine AD (hT) ?_|refine AD (hN _) ?_)<;>conv=>whnf
 refine AY ?_ (DK _);show _=AV.agg (rQ _ _ _ _ _);rw[mh,lh]
theorem yM (N:k9 L) {x y:Rat} {k l:Nat} (hx:Bt k x) (hy:Bt l y) (hk:k<2199023255552) (hl:l<2199023255552):Ev L 153 [.agg (eQ x),.agg (eQ y)] (.agg (eQ (x-y))):=by
 have hn:Bt l (-y):=⟨by rw[mh,Ee];exact hy.1,by rw[lh];exact hy.2⟩;have hN:=eN N hy hl;have hA:=QN N.toa6 hx hn hk hl;rw[<-qe]at hA;refine Ev.x N.PO rfl rfl ?_;repeat' (first|apply AE|refine AD (hN) ?_|refine AD (hA) ?_)<;>conv=>whnf
 exact AY rfl (DK _)
theorem AkP {a c:Int} {b d:Nat} (hb:b≠0) (hd:d≠0) (hc:c≠0):mkRat a b/mkRat c d=Ib (a*d) (b*c):=by
 rw[Mf,<-ib,<-ib,Rat.inv_divInt,Rat.divInt_mul_divInt]
theorem xC (N:k9 L) {x y:Rat} {k l:Nat} (hx:Bt k x) (hy:Bt l y) (hk:k<2199023255552) (hl:l<2199023255552) (h0:y≠0):Ev L 154 [.agg (eQ x),.agg (eQ y)] (.c5 [.agg (eQ (x/y)),.int .i64 0]):=by
 obtain ⟨a1,a2,a3,z0,s1,s2,s3,s5⟩:=NB N.toa6 (decide (x.num<0)) false (dg x.num.natAbs) (dg x.den) 68719476736 O' (hx.gf hk).1 (hx.gf hk).2;obtain ⟨b1,b2,b3,au,t1,t2,t3,t5⟩:=NB N.toa6 (decide (y.num<0)) false (dg y.num.natAbs) (dg y.den) 68719476736 O' (hy.gf hl).1 (hy.gf hl).2;have l1:=s1.2;have l2:=s2.2;have l3:=t1.2;have l4:=t2.2;rw[EL]at s5 t5;have zf:zv b1 b2≠0:=λ h=>h0 (by rw[t5,h,Je])
 have hS:=λ q=>YG N.toa6 b1 q b2 (t1.le O')
 have um:o3 (zv b1 b2)≠0:=by unfold o3;split<;>(try split)<;>omega
 have dd:=λ q q'=>QR N.toa6 a1 false q q' a2 b3 s1.1 t2.1 O'
 have de:=λ q q'=>QR N.toa6 false b1 q q' a3 b2 s2.1 t1.1 O'
 have g1:Sm (68719476736+68719476736) (dg (zv a1 a2*zv false b3).natAbs):=RG s1 t2;have g2:Sm (68719476736+68719476736) (dg (zv false a3*zv b1 b2).natAbs):=RG s2 t1;have hR:=λ q q'=>aH N.toa6 (decide (zv a1 a2*zv false b3<0)) (decide (zv false a3*zv b1 b2<0)) q q' _ _ (g1.le O') (g2.le O')
 rw[F2,F2]at hR;have he:x/y=Ib (zv a1 a2*zv false b3) (zv false a3*zv b1 b2):=by rw[s5,t5,AkP s3 t3 zf,FA,FA]
 rw[he];generalize o3 (zv b1 b2)=sg at *;refine Ev.x N.US rfl rfl ?_;repeat' (first|(apply AG<;>intro hc<;>try omega)|apply VX|apply AE|refine AD (z0) ?_|refine AD (au) ?_|refine AD (hS _) ?_|refine AD (dd _ _) ?_|refine AD (de _ _) ?_|refine AD (hR _ _) ?_)<;>conv=>whnf
 exact AY rfl (by simp only[A3,B7,and_true,true_and];exact ⟨CP _,CP _⟩)
theorem yL (N:k9 L) {x:Rat} {k:Nat} (hx:Bt k x) (hk:k<2199023255552) : ∃ s:Int,Ev L 155 [.agg (eQ x)] (.int .i64 s)/\(s=0↔x=0):=by
 have hm:=hx.gf hk;obtain ⟨n',m',d',hp,s1,s2,s3,s4⟩:=NB N.toa6 (decide (x.num<0)) false (dg x.num.natAbs) (dg x.den) 274877906943 O' (hm.1.le O') (hm.2.le O');have hS:=λ q=>YG N.toa6 n' q m' (s1.le O')
 rw[EL]at s4;have hz:o3 (zv n' m')=0↔x=0:=by
  rw[s4,Rat.mkRat_eq_zero s3];unfold o3;split<;>(try split)<;>omega
 generalize o3 (zv n' m')=s at *;refine ⟨s,?_,hz⟩;refine Ev.x N.PN rfl rfl ?_;repeat' (first|apply VX|apply AE|refine AD (hp) ?_|refine AD (hS _) ?_)<;>conv=>whnf
 exact CJ rfl
def I3 (l:K'):Nat->Nat
 | 0=>0
 | n+1=>if l.getD n 0=0 then I3 l n else n+1
theorem Z7 (l:K') : ∀ n,I3 l n<=n
 | 0=>ea _
 | n+1=>by rw[I3];split;exact Nat.le_succ_of_le (Z7 l n);exact ea _
def VJ (l:K'):K':=l.take (I3 l l.length)
theorem Xh (l:K'):(VJ l).length=I3 l l.length:=by rw[VJ,xa];exact uc (Z7 _ _)
theorem Ahz (N:o4 L) (S:G7) (n k:Nat) (h:S.Ok n k) (hn:n<=64):Ev L 136 [.agg (eS S)] (.bool true):=by
 have h1:=h.la;have h2:=h.lb;have h3:=h.lc;refine Ev.x N.PS rfl rfl ?_;repeat' (first|(apply AG<;>intro hc<;>try omega)|apply AR|apply AE)<;>conv=>whnf
 refine CE (λ i=>S.a.length-i) (λ(i:Nat)=>i<=S.a.length) (λ i=>[(4,.int .i64 i)]) (λ_=>[]) 0 O' ?_;intro i p1 ih;by_cases hi:i<S.a.length
 ·obtain ⟨r,hr⟩:=H' S.a i hi
  have ja:S.a[(i:Int).toNat]? = some r:=hr;have bh:=h.lr r (zM hr);repeat' (first|(apply AG<;>intro hc<;>try omega)|(apply AP;omega)|apply AR|(refine A4 V' ?_ rfl ?_;omega)|apply AE)<;>conv=>whnf
  exact A9 [] (ih (i+1) O' O')
 ·obtain rfl:i=S.a.length:=O'
  clear ih;repeat' (first|(apply AG<;>intro hc<;>try omega)|apply AE)<;>conv=>whnf
  exact FB rfl
theorem wY (N:o4 L) (a b:K') (q1 q2:Bool) (k s:Nat) (hl:a.length=b.length) (ha:Bs k a) (hb:Bs s b) (hK:a.length*(k+s+1)+k+s<2199023255552) (y9:a.length<=1099511627776):Ev L 137 [.sl q1 (a.map eQ),.sl q2 (b.map eQ)] (.agg (eQ (AZ a b))):=by
 have hO:=KE N.toa6 0 O';refine Ev.x N.PR rfl rfl ?_;repeat' (first|apply AE|refine AD (hO) ?_)<;>conv=>whnf
 refine FJ (λ i _=>a.length-i) (λ(i:Nat) (acc:Rat)=>i<=a.length/\acc=AZ (a.take i) (b.take i)) (λ i acc=>[(6,.int .i64 i)]) (λ i acc=>[(5,5,.bx (eQ acc))]) 0 ((0:Int):Rat) ⟨O',by simp [AZ]⟩ ?_;intro i acc ⟨p1,p2⟩ ih;by_cases hi:i<a.length
 ·obtain ⟨x,hx⟩:=H' a i hi
  obtain ⟨y,hy⟩:=H' b i;have dv:a[(i:Int).toNat]? = some x:=hx;have vl:b[(i:Int).toNat]? = some y:=hy;have bx:=ha.at hx;have zy:=hb.at hy
  have hM:=ON N.toa6 bx zy O' O'
  have wm:Bt (a.length*(k+s+1)) acc:=by
   rw[p2];have:=(ha.take i).dot (hb.take i)
   refine this.le (zR _ ?_);rw[xa];omega
  have hA:=QN N.toa6 wm (bx.mul zy) O' O';have g9:=YA hx hy;repeat' (first|(apply AG<;>intro hc<;>try omega)|(apply AP;omega)|apply AR|(refine A4 V' ?_ rfl ?_;omega)|apply AE|refine AD (hM) ?_|refine AD (hA) ?_)<;>conv=>whnf
  refine BN [] B' (ih (i+1) (acc+x*y) O' ⟨O',?_⟩);rw[g9,<-p2]
 ·obtain rfl:i=a.length:=O'
  clear ih;rw[V9 rfl]at p2;rw[<-p2];repeat' (first|(apply AG<;>intro hc<;>try omega)|apply AR|apply AE)<;>conv=>whnf
  exact AY rfl (DK _)
end Go.c6

namespace Go.c6
theorem cP {w:Wd} {v:Int} (h:FT w v) : -8388608<=v/\v<=8388608:=by
 obtain ⟨hw,e1,e2⟩:=h;obtain ⟨h1,h2,h3,h4⟩:=Q1 hw;omega
theorem WY {l:List Int} {sg fr:Int} {t:Int × Int} (h:t∈EH l sg fr) : ∃ i:Nat,∃ v∈l,i<l.length/\t=(fr+i,sg*v):=by
 simp only[EH,Kc,gb]at h;obtain ⟨i,hi,rfl⟩:=h;exact ⟨i,l[i],List.getElem_mem hi,hi,by simp [va,zE hi]⟩
theorem Tj {n:Nat} {a b k:Int} (h:k∈H4 n a b):k=b \/ ∃ i:Nat,1<=i/\i<n/\k=a+i-1:=by
 simp only[H4,Kc,gb]at h;obtain ⟨i,hi,rfl⟩:=h;by_cases h0:i=0
 ·exact Or.inl (by rw[if_pos h0])
 ·exact Or.inr ⟨i,O',hi,by rw[if_neg h0]⟩
variable {b a:List Int} {d c:Wd}
theorem Ai0 (hd:WV d) (hc:WV c) (l1:1<=b.length/\b.length<=49) (l2:a.length<=8) (hb : ∀ v∈b,FT c v) (ha : ∀ v∈a,FT c v/\FT c (-v)):HR (GL b a d c)=true:=by
 rw[E7];refine ⟨hd,hc,⟨by simp only[GL];omega,by simp only[GL];omega,by simp [GL],by simp [GL,H4]⟩,?_,?_,by simp only[GL];omega,by simp only[GL,ae,Og];omega⟩
 ·simp only[GL,GT,Bool.and_true,qa,decide_eq_true_eq,Mb]
  refine ⟨by simp [LE];omega,λ t ht => ?_⟩;simp only[GF,decide_eq_true_eq];rcases Pg.1 ht with h|h
  ·obtain ⟨i,v,hv,hi,rfl⟩:=WY h
   exact ⟨by simp only;omega,by simp only;omega,Or.inr (by simpa using hb v hv)⟩
  ·obtain ⟨i,v,hv,hi,rfl⟩:=WY h
   exact ⟨by simp only;omega,by simp only;omega,Or.inr (by simpa using (ha v hv).2)⟩
 ·simp only[GL,I6,Mb,decide_eq_true_eq,ae,Og]
  intro k hk;rcases Pg.1 hk with h|h
  all_goals (rcases Tj h with rfl|⟨i,h1,h2,rfl⟩<;>refine decide_eq_true ?_<;>omega)
end Go.c6

namespace Go.c6
variable {d c:Wd} {p:List Int}
theorem AlS (n:Nat):ua n=List.range' 0 n:=List.range_eq_range'
end Go.c6

namespace Go.c6
open Go.ChangeShapes Go.WideShapes Go.ChangeAt Go.RowKit
inductive Ty where
 | int (k:IntKind)
 | bool
 | sl (e:Ty)
 | nil
 | cons (a r:Ty)
def Ty.cells:Ty->Nat
 | .int _=>1 | .bool=>1 | .sl _=>1
 | .nil=>0
 | .cons a r=>a.cells+r.cells
def KZ (l:Bool):Ty->u_->Prop
 | .int k,cs => ∃ n,cs=[.int k n]/\(Lit.int k n).wf=true
 | .bool,cs => ∃ b,cs=[.bool b]
 | .sl e,cs => ∃ es,cs=[.sl l es]/\es.length<=maxLen /\ ∀ x∈es,KZ l e x
 | .nil,cs=>cs=[]
 | .cons a r,cs => ∃ x y,cs=x++y/\KZ l a x/\KZ l r y
abbrev XX:=KZ true
theorem KZ.len {l:Bool} : ∀ {ty:Ty} {cs:u_},KZ l ty cs->cs.length=ty.cells
 | .int _,cs,h=>by obtain ⟨n,rfl,_⟩:=h;rfl
 | .bool,cs,h=>by obtain ⟨n,rfl⟩:=h;rfl
 | .sl _,cs,h=>by obtain ⟨n,rfl,_⟩:=h;rfl
 | .nil,cs,h=>by rw[show cs=[] from h];rfl
 | .cons a r,cs,h=>by obtain ⟨x,y,rfl,h1,h2⟩:=h;simp [Ty.cells,KZ.len h1,KZ.len h2]
def NK (P:Program):Nat->TypeId->Ty->Bool
 | 0,_,_=>false
 | n+1,t,ty=>match P.underlying t,ty with
  | some (.int k),.int k'=>decide (k=k')
  | some .bool,.bool=>true
  | some (.slice e),.sl nb=>NK P n e nb&&(P.cellsOf e == nb.cells&&decide (0<nb.cells))
  | some (.struct fs),ty=>go (NK P n) fs.toList 0 ty&&P.cellsOf t == ty.cells
  | _,_=>false
where
 go (ok:TypeId->Ty->Bool):List Field->Nat->Ty->Bool
  | [],_,.nil=>true
  | f::fs,off,.cons a r=>(f.offset == off&&(ok f.type a&&P.cellsOf f.type == a.cells))&&go ok fs (off+a.cells) r
  | _,_,_=>false
section
variable {H:Type} {enc:TypeId × Value->H} {P:Program} {w:World} {base:Nat} {spare:Nat->Bool} {held:Bool} {R:Bool->Nat->Prop}
def I0 (w:World) (R:Bool->Nat->Prop) (as:u_) (cs:List Value):Prop:=as.length=cs.length /\ ∀ (j:Nat) (a:AV) (c:Value),as[j]? = some a->cs[j]? = some c->Rd w R a c
theorem I0.one {a:AV} {c:Value} (h:Rd w R a c):I0 w R [a] [c]:=by
 refine ⟨rfl,λ j a' c' h1 h2 => ?_⟩;cases j with
 | zero=>simp at h1 h2;subst h1 h2;exact h
 | succ j=>simp at h1
theorem I0.append {as bs:u_} {cs ds:List Value} (h1:I0 w R as cs) (h2:I0 w R bs ds):I0 w R (as++bs) (cs++ds):=by
 refine ⟨by simp [h1.1,h2.1],λ j a c ha hc => ?_⟩;by_cases hj:j<as.length
 ·rw[Ge hj]at ha
  rw[Ge (by rw[<-h1.1];exact hj)]at hc;exact h1.2 j a c ha hc
 ·rw[Ca O']at ha
  rw[Ca (by rw[<-h1.1];omega),<-h1.1]at hc;exact h2.2 _ a c ha hc
theorem tE (a:Addr) (i:Nat) (h:a.spot=none):a.add i=⟨a.block,a.off+i,none⟩:=by
 obtain ⟨b,o,s⟩:=a;simp only at h;subst h;exact IJ b o i
theorem Ws {l:Bool} (hR : ∀ b,b<w.heap.size->R l b) (m:Nat) (ih : ∀ (ty:Ty) (t:TypeId) (cs:List Value) (fuel:Nat) (x:DataW H × List MemPlace),NK P m t ty=true->DataW.trod enc P w base spare held fuel t cs=some x -> ∃ as,KZ l ty as/\I0 w R as cs)
  (n:Nat) (cs:List Value) : ∀ (fs:List Field) (off:Nat) (ty:Ty),NK.go P (NK P m) fs off ty=true->(∀ f∈fs,∃ y,DataW.trod enc P w base spare held n f.type ((cs.drop f.offset).take (P.cellsOf f.type))=some y)->off+ty.cells=cs.length -> ∃ as,KZ l ty as/\I0 w R as (cs.drop off)
 | [],off,ty,g6,_,hl=>by
  cases ty<;>simp only[NK.go,og]at g6;simp only[Ty.cells]at hl;exact ⟨[],rfl,by rw[Na O'];exact ⟨rfl,λ j a c h=>by simp at h⟩⟩
 | f::fs,off,ty,g6,hf,hl=>by
  cases ty<;>simp only[NK.go,og,qa,beq_iff_eq]at g6;rename_i a r;obtain ⟨⟨h1,h2,h3⟩,h4⟩:=g6;simp only[Ty.cells]at hl;obtain ⟨y,hy⟩:=hf f ug;rw[h1,h3]at hy;obtain ⟨as1,g1,g2⟩:=ih a f.type _ n y h2 hy;obtain ⟨as2,g3,g4⟩:=Ws hR m ih n cs fs (off+a.cells) r h4 (λ f' h'=>hf f' (Rf _ h')) O';refine ⟨as1++as2,⟨as1,as2,rfl,g1,g3⟩,?_⟩;have:=g2.append g4
  rwa [show (cs.drop off).take a.cells++cs.drop (off+a.cells)=cs.drop off by rw[<-List.drop_drop,ff]]at this
theorem Wr {l:Bool} (hR : ∀ b,b<w.heap.size->R l b) : ∀ (m:Nat) (ty:Ty) (t:TypeId) (cs:List Value) (fuel:Nat) (x:DataW H × List MemPlace),NK P m t ty=true->DataW.trod enc P w base spare held fuel t cs=some x -> ∃ as,KZ l ty as/\I0 w R as cs
 | 0,_,_,_,_,_,h,_=>by simp [NK]at h
 | m+1,ty,t,cs,fuel,x,g6,h=>by
  have ih:=Wr hR m;simp only[NK]at g6;split at g6
  ·rename_i k k' hu
   obtain rfl:k=k':=by simpa using g6
   obtain ⟨n,rfl,_,hw⟩:=DataW.trod_int hu h;exact ⟨[.int k n],⟨n,rfl,hw⟩,I0.one (.int k n)⟩
  ·rename_i hu
   cases fuel with
   | zero=>simp [DataW.trod]at h
   | succ fuel =>
    unfold DataW.trod at h;rw[hu]at h;split at h<;>simp_all
    exact ⟨_,⟨_,rfl⟩,I0.one (.bool _)⟩
  ·rename_i e nb hu
   simp only[qa,beq_iff_eq,decide_eq_true_eq]at g6;obtain ⟨h1,h2,h3⟩:=g6;rcases DataW.trod_slice hu h with ⟨rfl,_⟩|⟨a,len,cap,elems,rest,n,_,rfl,_,hb,hl,hm,hlen,fi,_,_⟩
   ·exact ⟨[.sl l []],⟨[],rfl,Z',Z'⟩,I0.one (.ka l none 0)⟩
   ·have each : ∀ i,i<len -> ∃ as fg,KZ l nb as/\I0 w R as fg/\fg.length=nb.cells /\ ∀ j,j<nb.cells->w.cell? ((a.add (i*nb.cells)).add j)=fg[j]? := by
     intro i hi;have:=fi i hi
     rw[h2,zE O',Option.bind_eq_some_iff]at this;obtain ⟨fg,hc,ht⟩:=this;obtain ⟨as,g1,g2⟩:=ih nb e fg n _ h1 ht;obtain ⟨_,q1,q2⟩:=World.cells?_some hc;exact ⟨as,fg,g1,g2,q1,q2⟩
    by_cases h0:len=0
    ·subst h0
     exact ⟨[.sl l []],⟨[],rfl,Z',Z'⟩,I0.one (.ka l (some a) cap)⟩
    ·have Cf:a.spot=none:=by
      obtain ⟨as,fg,_,_,q1,q2⟩:=each 0 O';have:=q2 0 h3
      rw[zE O']at this;simpa [Addr.add] using World.cell?_spot this
     have od:a.block<w.heap.size:=by
      obtain ⟨as,fg,_,_,q1,q2⟩:=each 0 O';have:=q2 0 h3
      rw[zE O']at this;simpa [Addr.add] using V4 this
     have pick : ∃ f:Nat->List AV × List Value,∀ i,i<len->KZ l nb (f i).1/\I0 w R (f i).1 (f i).2/\(f i).2.length=nb.cells /\ ∀ j,j<nb.cells->w.cell? ((a.add (i*nb.cells)).add j)=(f i).2[j]? := by
      refine ⟨λ i=>if hi:i<len then (Classical.choose (each i hi),Classical.choose (Classical.choose_spec (each i hi))) else ([],[]),λ i hi => ?_⟩;simp only[hi,dif_pos];exact Classical.choose_spec (Classical.choose_spec (each i hi))
     obtain ⟨f,hf⟩:=pick;have n6 : ∀ i e',((ua len).map λ i=>(f i).1)[i]? = some e'->i<len/\e'=(f i).1:=by
      intro i e' he;rw[oa]at he;by_cases hi:i<len
      ·rw[ga hi]at he
       simp at he;exact ⟨hi,he.symm⟩
      ·rw[Oa (by simpa using hi)]at he
       cases he
     refine ⟨[.sl l ((ua len).map λ i=>(f i).1)],⟨_,rfl,by simp;omega,λ x hx => ?_⟩,I0.one ?_⟩
     ·obtain ⟨i,hi,rfl⟩:=Kc.1 hx
      exact (hf i (gb.1 hi)).1
     ·obtain ⟨ab,ao,as⟩:=a
      simp only at Cf;subst Cf;have Bx:((ua len).map λ i=>(f i).1).length=len:=Z'
      have:=Rd.sl (w:=w) (R:=R) l ((ua len).map λ i=>(f i).1) ab ao nb.cells cap (λ i j=>((f i).2[j]?).getD default) (by intro e;have:=congrArg List.length e;simp at this;omega) h3 (hR ab od) (by rw[Bx];exact hl)
       (λ e' he=>by
        obtain ⟨i,hi,rfl⟩:=Kc.1 he;exact (hf i (gb.1 hi)).1.len)
       (λ i e' he j c hc=>by
        obtain ⟨hi,rfl⟩:=n6 i e' he;obtain ⟨g1,g2,g3,g4⟩:=hf i hi;have hj:j<nb.cells:=by
         have:=(zS hc).1
         rwa [g1.len]at this
        have h5:=g4 j hj;rw[tE ⟨ab,ao,none⟩ (i*nb.cells) rfl,tE _ _ rfl]at h5;simp only at h5;rw[show ao+(i*nb.cells+j)=ao+i*nb.cells+j by omega,h5,zE O'];rfl)
       (λ i e' he j c hc=>by
        obtain ⟨hi,rfl⟩:=n6 i e' he;obtain ⟨g1,g2,g3,g4⟩:=hf i hi;have hj:j<nb.cells:=by
         have:=(zS hc).1
         rwa [g1.len]at this
        have h6:(f i).2[j]? = some ((f i).2[j]' O'):=zE _;rw[h6];exact g2.2 j c _ hc h6)
      rwa [Bx]at this
  ·rename_i fs hu
   simp only[qa,beq_iff_eq]at g6;obtain ⟨h1,h2⟩:=g6;obtain ⟨xs,n,_,_,hl,hlen,hf⟩:=DataW.trod_struct hu h;have:=Ws hR m ih n cs fs.toList 0 _ h1 (λ f om=>by
    obtain ⟨i,hi,rfl⟩:=List.getElem_of_mem om;have h5:=hf i fs.toList[i] Z';rw[h5,zE (by simpa [hlen] using hi)];exact ⟨_,rfl⟩) (by rw[hl,h2];omega)
   simpa using this
  ·exact absurd g6 Z'
theorem Alm {S:Nat->Prop} {ty:Ty} {t:TypeId} {cs:Array Value} {d:DataW H} {ps:List MemPlace} {m:Nat} (g6:NK P m t ty=true) (h:DataW.Trod enc P w base spare held t (.agg cs) d ps) :
  ∃ as,XX ty as/\CA w.heap.size S ⟨λ_ _=>none,AJ.emp,w⟩ (.agg as) (.agg cs):=by
 obtain ⟨fuel,hf⟩:=h;obtain ⟨as,h1,h2⟩:=Wr (R:=safe w.heap.size S ⟨λ_ _=>none,AJ.emp,w⟩) (λ b hb=>Or.inr (Or.inr ⟨rfl,hb⟩)) m ty t cs.toList fuel _ g6 hf;refine ⟨as,h1,?_⟩;have:=CA.agg (B:=w.heap.size) (S:=S) (m:=⟨λ_ _=>none,AJ.emp,w⟩) as cs.toList ⟨h2.1,λ j c v hc hv => .rd (h2.2 j c v hc hv)⟩
 simpa using this
end
theorem Ae7 {B:Nat} {S:Nat->Prop} {m:M} : ∀ (j:Nat) (c:AV) (v:Value),([]:u_)[j]? = some c->([]:List Value)[j]? = some v->CA B S m c v:=λ j c v h=>by simp at h
theorem Ae6 {B:Nat} {S:Nat->Prop} {m:M} {a:AV} {u:Value} {as:u_} {us:List Value} (h:CA B S m a u) (hr : ∀ (j:Nat) (c:AV) (v:Value),as[j]? = some c->us[j]? = some v->CA B S m c v) :
  ∀ (j:Nat) (c:AV) (v:Value),(a::as)[j]? = some c->(u::us)[j]? = some v->CA B S m c v
 | 0,c,v,h1,h2=>by simp at h1 h2;subst h1 h2;exact h
 | j+1,c,v,h1,h2=>hr j c v (by simpa using h1) (by simpa using h2)
theorem Akv {P:Program} {num:Nat->Nat} {L:Lib} (hP:ProgOK P num L) {f:Nat} {vs:u_} (h:Ev L f vs (.bool true)) {S:Nat->Prop} {w:World} {us:List Value} (hl:vs.length=us.length)
  (ha : ∀ (j:Nat) (c:AV) (v:Value),vs[j]? = some c->us[j]? = some v->CA w.heap.size S ⟨λ_ _=>none,AJ.emp,w⟩ c v) :
  Calls P (num f) us.toArray w λ e w'=>e = .returned (.bool true)/\Below w.heap.size w w':=by
 obtain ⟨n,hn⟩:=h;refine ((Afm hP n).pure f vs _ hn S w us hl ha).mono ?_;rintro e w' ⟨u,rfl,hb,w5,_⟩
 refine ⟨?_,hb⟩;cases w5 with
 | ca ni=>cases ni with
  | one w7=>cases w7 with
   | rd ko=>cases ko;rfl
end Go.c6

namespace Go.c6
abbrev tI:Ty := .int .i64
theorem Te {α:Type} {enc:α->u_} {p:α->Prop} : ∀ {es:o_},(∀ x∈es,∃ y,x=enc y/\p y) -> ∃ l:List α,es=l.map enc /\ ∀ y∈l,p y
 | [],_=>⟨[],rfl,Z'⟩
 | e::es,h=>by
  obtain ⟨y,rfl,hy⟩:=h e ug;obtain ⟨l,rfl,hl⟩:=Te (enc:=enc) (p:=p) λ x hx=>h x (Rf _ hx)
  exact ⟨y::l,rfl,by simpa using ⟨hy,hl⟩⟩
theorem AjQ {α:Type} {enc:α->u_} {p:α->Prop} {e:Ty} {cs:u_} (he : ∀ x,XX e x -> ∃ y,x=enc y/\p y) (h:XX (.sl e) cs) : ∃ l:List α,cs=[.sl true (l.map enc)]/\l.length<9223372036854775808 /\ ∀ y∈l,p y:=by
 obtain ⟨es,rfl,hl,hx⟩:=h;obtain ⟨l,rfl,hp⟩:=Te (enc:=enc) (p:=p) λ x hm=>he x (hx x hm)
 refine ⟨l,rfl,?_,hp⟩;have:maxLen=9223372036854775807:=rfl
 simp at hl;omega
theorem AnA {n:Int} (h:(Lit.int .i64 n).wf=true):EB n:=by
 simp only[Lit.wf,qa,decide_eq_true_eq]at h;have h1:IntKind.i64.min = -9223372036854775808:=rfl;have h2:IntKind.i64.max=9223372036854775807:=rfl;rw[h1,h2]at h;unfold EB;constructor<;>omega
theorem fR {cs:u_} (h:XX tI cs) : ∃ n,cs=C0 n/\EB n:=by obtain ⟨n,rfl,hw⟩:=h;exact ⟨n,rfl,AnA hw⟩
theorem Tw {cs:u_} (h:XX (.sl tI) cs) : ∃ l:List Int,cs=[.sl true (l.map C0)]/\l.length<9223372036854775808 /\ ∀ v∈l,EB v:=AjQ (λ_=>fR) h
abbrev tPl:Ty := .cons tI (.cons tI (.cons tI (.cons (.sl tI) (.cons (.sl tI) .nil))))
theorem AjP {cs:u_} (h:XX tPl cs) : ∃ (kd dk ck:Int) (b a:List Int),cs=[.int .i64 kd,.int .i64 dk,.int .i64 ck,.sl true (b.map C0),.sl true (a.map C0)]/\EB kd/\EB dk/\EB ck/\b.length<9223372036854775808/\a.length<9223372036854775808 /\ ∀ v∈a,EB v:=by
 obtain ⟨_,_,rfl,h1,_,_,rfl,h2,_,_,rfl,h3,_,_,rfl,h4,_,_,rfl,h5,rfl⟩:=h;obtain ⟨kd,rfl,i1⟩:=fR h1;obtain ⟨dk,rfl,i2⟩:=fR h2;obtain ⟨ck,rfl,i3⟩:=fR h3;obtain ⟨b,rfl,l4,_⟩:=Tw h4;obtain ⟨a,rfl,l5,i5⟩:=Tw h5;exact ⟨kd,dk,ck,b,a,rfl,i1,i2,i3,l4,l5,i5⟩
end Go.c6

namespace Go.c6
open F
attribute [local irreducible] AA AF AL AC CQ AW BA A8 B3 BL CN D4 BP A1 B6 CF AB BG AH pw BV BO CS CY C2 BX CG BU CX
variable {L:Lib}
theorem ZD {b:Int} (hb:0<=b) (v:Int) : -b<=M3 b v/\M3 b v<=b:=by
 have:=RO (v:=IntKind.i64.wrap (v+b)) (m:=2*b+1) O'
 unfold M3;omega
theorem tJ {c:Wd} (hc:WV c) (l:List Int) (n:Nat) : ∀ v∈IK (pw (c.b-1)-1) l n,FT c v/\FT c (-v):=by
 intro v hv;obtain ⟨h1,h2,h3,h4⟩:=Q1 hc;simp only[IK,Kc]at hv;obtain ⟨i,_,rfl⟩:=hv;have:=ZD (b:=pw (c.b-1)-1) O' (FM l i)
 exact ⟨⟨hc,O',O'⟩,⟨hc,O',O'⟩⟩
theorem kK (b:Int) (l:List Int) (n:Nat):(IK b l n).length=n:=by simp [IK]
def Y2 (c:Wd) (l:List Int):List Int :=
 if DU (FM l 0) 3=0 then [] else
 if DU (FM l 0) 3=1 then [M3 (pw c.f*3/4) (FM l 1)] else
 [M3 ((pw c.f+M3 (pw c.f/2) (FM l 1))/2) (FM l 2),M3 (pw c.f/2) (FM l 1)]
theorem Afd (b x:Int):IK b [x] 1=[M3 b x]:=rfl
theorem Ae8 {l:List Int} (h : ∀ v∈l,EB v) (i:Int):EB (FM l i):=by
 unfold FM;split
 ·rw[va]
  cases he:l[i.toNat]? with
  | none=>exact ⟨by show _<=(0:Int);decide,by show (0:Int)<=_;decide⟩
  | some v=>exact h v (zM he)
 ·exact ⟨Y',Y'⟩
theorem AiO (W:u5 L) (N:bm L) (c:Wd) (hc:WV c) (l:List Int) (q:Bool) (hl : ∀ v∈l,EB v):Ev L 347 [.agg (GY c),.sl q (l.map C0)] (.sl false ((Y2 c l).map C0)):=by
 have hp:=HF c.f;have Ed:pw c.f<=8388608:=by
  have o7:=hc;unfold WV at o7;have:=NL (n:=c.f) (m:=23) O'
  have xi:pw 23=8388608:=by unfold pw;rfl
  omega
 have hA:=yO W l;have hW:=YI W (FM l 0) 3 (Ae8 hl 0) O';have hr:=RO (v:=FM l 0) (m:=3) O';have hB:=λ(b:Int) (x:Int) (hb:0<=b/\b<=1000000000000)=>fE W b hb [x] true 1 O'
 simp only[Afd,xe,je]at hB;have o7:=hc;unfold WV at o7;refine Ev.x N.VO rfl rfl ?_;have hz:=ZD (b:=pw c.f/2) O' (FM l 1);have b1:=hB (pw c.f*3/4) (FM l 1) O';have b2:=hB (pw c.f/2) (FM l 1) O';have b3:=hB ((pw c.f+M3 (pw c.f/2) (FM l 1))/2) (FM l 2) O';unfold Y2;by_cases h0:DU (FM l 0) 3=0
 ·rw[if_pos h0]
  repeat' (first|(apply AG<;>intro hc<;>try omega)|(refine F3 ?_ (λ_ _ => ?_);omega)|(apply CD;omega)|apply AE|refine AD (hA _ _) ?_|refine AD (hW) ?_)<;>conv=>whnf
  exact AY rfl (by simp [A3,B7,EZ])
 rw[if_neg h0];by_cases h1:DU (FM l 0) 3=1
 ·rw[if_pos h1]
  repeat' (first|(apply AG<;>intro hc<;>try omega)|(apply FL;omega)|(refine F3 ?_ (λ_ _ => ?_);omega)|(refine IZ ?_ ?_ (λ_ => ?_) (λ_ _ => ?_);omega;omega;all_goals try omega)|(apply CD;omega)|refine GS rfl ?_|apply AE|refine AD (hA _ _) ?_|refine AD (hW) ?_|refine AD (b1) ?_)<;>conv=>whnf
  exact AY rfl (by simp [A3,B7,EZ])
 rw[if_neg h1];generalize M3 (pw c.f/2) (FM l 1)=z at *;repeat' (first|(apply AG<;>intro hc<;>try omega)|(refine F3 ?_ (λ_ _ => ?_);omega)|(refine IZ ?_ ?_ (λ_ => ?_) (λ_ _ => ?_);omega;omega;all_goals try omega)|(apply CD;omega)|refine GS rfl ?_|apply AE|refine AD (hA _ _) ?_|refine AD (hW) ?_|refine AD (b2) ?_)<;>conv=>whnf
 refine A4 (l:=[_]) (enc:=C0) (a:=0) rfl Y' rfl ?_;conv=>whnf
 repeat' (first|(apply AP;omega)|(refine IZ ?_ ?_ (λ_ => ?_) (λ_ _ => ?_);omega;omega;all_goals try omega)|refine GS rfl ?_|refine AD (hA _ _) ?_|refine AD (b3) ?_)<;>conv=>whnf
 refine A4 (l:=[_]) (enc:=C0) (a:=0) rfl Y' rfl ?_;conv=>whnf
 (repeat' (refine JJ rfl rfl ?_<;>conv=>whnf))
 exact AY rfl (by simp [A3,B7,EZ])
end Go.c6

namespace Go.c6
theorem RU {R:List (P')} {i e z:Nat} {es:o_} {K:P'->Prop} (he:e=i) (hi:i<R.length) (h:K (some (z,es))):BV (R.set i (some (z,es))) e K:=by
 subst he;exact ⟨_,by rw[Ka,if_pos rfl,if_pos hi],h⟩
theorem N0 {R:List (P')} {i e z:Nat} {es:o_} {K:Nat->o_->Prop} (he:e=i) (hi:i<R.length) (h:K z es):BO (R.set i (some (z,es))) e K:=by
 subst he;exact ⟨z,es,by rw[Ka,if_pos rfl,if_pos hi],h⟩
theorem dA {R:List (P')} {i e z:Nat} {es es':o_} {K:List (P')->Prop} (he:e=i) (hl:es'.length=es.length) (h:K (R.set i (some (z,es')))):CY (R.set i (some (z,es))) e z es es' K:=by
 subst he;exact ⟨hl,by rw[uh];exact h⟩
theorem R3 {R:List (P')} {i e z:Nat} {es:o_} {K:List (P')->Prop} (he:e=i) (hi:i<R.length) (h:K (R.set i (some (z,es)))):CS R e z es K:=by
 subst he;exact ⟨hi,h⟩
end Go.c6

namespace Go.c6
variable {L:Lib}
theorem Adw {kk:List It} {tm:Tm} {M:Mem} {Q:Tm->Mem->Prop} {k s:Nat} {rows:List (P')} {w:N'} (q7:List (P')) (e:b9 M k=some (s,.vw w rows)) (hl:q7.length=w.length)
  (hw : ∀ (i t:Nat),w[i]? = some t -> ∃ r,rows[t]? = some r/\q7[i]? = some r) (hi : ∀ (i i' t:Nat),w[i]? = some t->w[i']? = some t->i=i') (bp:K4 k tm=false) (oe:JN k M=false)
  (h:AA L kk tm ((k,s,.mx q7)::M) Q):AA L kk tm M Q:=by
 intro σ st hr;obtain ⟨σ',ja⟩:=hr.Es e hl hw hi bp oe;exact h σ' st ja
theorem rP {kk:List It} {tm:Tm} {M:Mem} {Q:Tm->Mem->Prop} {k s i j:Nat} {rows:List (P')} {a b:P'} (e:b9 M k=some (s,.vw (((ua rows.length).set i j).set j i) rows)) (ha:rows[i]? = some a) (hb:rows[j]? = some b) (bp:K4 k tm=false) (oe:JN k M=false)
  (h:AA L kk tm ((k,s,.mx ((rows.set i b).set j a))::M) Q):AA L kk tm M Q:=by
 have hi:=(zS ha).1;have hj:=(zS hb).1;have Re : ∀ p,p<rows.length->(((ua rows.length).set i j).set j i)[p]? = some (if p=j then i else if p=i then j else p):=λ p hp=>by
  rw[Ka,Ka,Jd,kg];by_cases h1:j=p
  ·subst h1;simp [hp]
  ·rw[if_neg h1,if_neg (Ne.symm h1)]
   by_cases h2:i=p
   ·subst h2;simp [hp]
   ·rw[if_neg h2,if_neg (Ne.symm h2),ga hp]
 have Ft : ∀ p t,(((ua rows.length).set i j).set j i)[p]? = some t->p<rows.length:=λ p t hp=>by
  have:=(zS hp).1
  simpa using this
 refine Adw ((rows.set i b).set j a) e Z' (λ p t hp => ?_) (λ p p' t hp Fi => ?_) bp oe h
 ·have ov:=Ft p t hp
  rw[Re p ov]at hp;obtain rfl:=fc hp;rw[Ka,Ka,Jd];by_cases h1:p=j
  ·subst h1
   exact ⟨a,by rw[if_pos rfl];exact ha,by rw[if_pos rfl,if_pos ov]⟩
  ·rw[if_neg h1,if_neg (Ne.symm h1)]
   by_cases h2:p=i
   ·subst h2
    exact ⟨b,by rw[if_pos rfl];exact hb,by rw[if_pos rfl,if_pos ov]⟩
   ·rw[if_neg h2,if_neg (Ne.symm h2)]
    exact ⟨_,zE ov,zE ov⟩
 ·have ov:=Ft p t hp
  have Qa:=Ft p' t Fi;rw[Re p ov]at hp;rw[Re p' Qa]at Fi;have:=fc (hp.trans Fi.symm)
  split at this<;>split at this<;>(try split at this)<;>(try split at this)<;>omega
def ME:BK->Bool
 | .ret=>false
 | .dr c _ _=>ME c
 | .scope c=>ME c
 | .seq a b=>ME a&&ME b
 | .cond _ a b=>ME a&&ME b
 | .block _ c=>ME c
 | .loop c=>ME c
 | _=>true
def MF:It->Bool
 | .code c=>ME c
 | .lp c=>ME c
 | _=>true
theorem aK {id:Nat} {kk:List It} : ∀ {l l':List It},EG id l=some l'->EG id (l++kk)=some (l'++kk)
 | [],_,h=>by cases h
 | .c9 i::l,l',h=>by
  simp only[Pa,EG]at h ⊢;split at h
  ·rename_i e;rw[if_pos e];cases h;rfl
  ·rename_i e;rw[if_neg e];exact aK h
 | .code c::l,l',h=>by
  simp only[Pa,EG]at h ⊢;exact aK h
 | .kx a b::l,l',h=>by
  simp only[Pa,EG]at h ⊢;exact aK h
 | .lp c::l,l',h=>by
  simp only[Pa,EG]at h ⊢;exact aK h
theorem aJ {id:Nat} {p:It->Bool} : ∀ {l l':List It},EG id l=some l'->l.all p=true->l'.all p=true
 | [],_,h,_=>by cases h
 | .c9 i::l,l',h,ha=>by
  simp only[EG]at h;simp only[La,qa]at ha;split at h
  ·cases h;exact ha.2
  ·exact aJ h ha.2
 | .code c::l,l',h,ha=>by
  simp only[EG]at h;simp only[La,qa]at ha;exact aJ h ha.2
 | .kx a b::l,l',h,ha=>by
  simp only[EG]at h;simp only[La,qa]at ha;exact aJ h ha.2
 | .lp c::l,l',h,ha=>by
  simp only[EG]at h;simp only[La,qa]at ha;exact aJ h ha.2
theorem KS {C:Cl} {kk:List It} {m:Nat} {BH BT:St} (hk:run C m kk BH=some BT) : ∀ (n:Nat) (l:List It) (st:St),l.all MF=true->run C n l st=some BH->run C (n+m) (l++kk) st=some BT
 | 0,_,_,_,h=>by cases h
 | n+1,[],st,_,h=>by
  simp only[run,yd]at h;subst h;exact KT (C:=C) (C':=C) ⟨λ_ _ _ h=>h,λ_ _ _ _ h=>h,rfl⟩ O' hk
 | n+1,.c9 i::l,st,ha,h=>by
  simp only[La,qa]at ha;rw[show n+1+m=n+m+1 by omega];simp only[Pa,run]at h ⊢;exact KS hk n l st ha.2 h
 | n+1,.kx ts ss::l,st,ha,h=>by
  simp only[La,qa]at ha;rw[show n+1+m=n+m+1 by omega];simp only[Pa,run]at h ⊢;exact KS hk n l _ ha.2 h
 | n+1,.lp c::l,st,ha,h=>by
  rw[show n+1+m=n+m+1 by omega];simp only[Pa,run]at h ⊢;exact KS hk n (.code c :: .lp c::l) st (by simp only[La,MF,qa]at ha ⊢;exact ⟨ha.1,ha.1,ha.2⟩) h
 | n+1,.code c::l,st,ha,h=>by
  simp only[La,MF,qa]at ha;obtain ⟨h1,h2⟩:=ha;rw[show n+1+m=n+m+1 by omega];cases c with
  | ret=>cases h1
  | skip =>
   simp only[Pa,run]at h ⊢;exact KS hk n l st h2 h
  | ops o d =>
   simp only[Pa,run]at h ⊢;cases hs:DJ C o st with
   | none=>rw[hs]at h;cases h
   | some s'=>rw[hs]at h;exact KS hk n l s' h2 h
  | dr c ts ss =>
   simp only[Pa,run]at h ⊢;exact KS hk n (.code c :: .kx ts ss::l) st (by simp only[La,MF,qa];exact ⟨h1,trivial,h2⟩) h
  | scope c =>
   simp only[Pa,run]at h ⊢;exact KS hk n (.code c::l) st (by simp only[La,MF,qa];exact ⟨h1,h2⟩) h
  | seq a b =>
   simp only[ME,qa]at h1;simp only[Pa,run]at h ⊢;exact KS hk n (.code a :: .code b::l) st (by simp only[La,MF,qa];exact ⟨h1.1,h1.2,h2⟩) h
  | cond x a b =>
   simp only[ME,qa]at h1;simp only[Pa,run]at h ⊢;split at h
   ·exact KS hk n (.code a::l) st (by simp only[La,MF,qa];exact ⟨h1.1,h2⟩) h
   ·exact KS hk n (.code b::l) st (by simp only[La,MF,qa];exact ⟨h1.2,h2⟩) h
   ·cases h
  | block i c =>
   simp only[Pa,run]at h ⊢;exact KS hk n (.code c :: .c9 i::l) st (by simp only[La,MF,qa];exact ⟨h1,trivial,h2⟩) h
  | loop c =>
   simp only[Pa,run]at h ⊢;exact KS hk n (.code c :: .lp c::l) st (by simp only[La,MF,qa];exact ⟨h1,h1,h2⟩) h
  | exit i =>
   simp only[Pa,run]at h ⊢;cases he:EG i l with
   | none=>rw[he]at h;cases h
   | some l' =>
    rw[he]at h;rw[aK he];exact KS hk n l' st (aJ he h2) h
theorem XU {l kk:List It} {tm:Tm} {M:Mem} {Q:Tm->Mem->Prop} (hn:l.all MF=true) (h:AA L l tm M (λ tm M=>AA L kk tm M Q)):AA L (l++kk) tm M Q:=by
 intro σ st hr;obtain ⟨n,c,BH,h1,σ1,tm1,M1,z0,h2⟩:=h σ st hr;obtain ⟨m,c2,BT,h3,h4⟩:=h2 σ1 BH z0;obtain ⟨c3,g1,g2⟩ : ∃ c3,(C3 L c).le (C3 L c3)/\(C3 L c2).le (C3 L c3):=⟨max c c2,FW (Nat.le_max_left _ _),FW (Nat.le_max_right _ _)⟩;exact ⟨n+m,c3,BT,KS (KT g2 (ea _) h3) n l st hn (KT g1 (ea _) h1),h4⟩
structure cR (p:Prop):Prop where
 go ::
 out:p
theorem Adv {α β γ:Type} {l kk:List It} {tm:Tm} {M:Mem} {Q:Tm->Mem->Prop} (P:α->β->γ->Prop) (vs:α->β->γ->Tm) (Ms:α->β->γ->Mem) (ts:N') (hn:l.all MF=true)
  (hr : ∀ a b c,P a b c->AA L kk (vs a b c++v8 ts tm) (Ms a b c++M) Q)
  (h:(∀ a b c,P a b c->AA L kk (vs a b c++v8 ts tm) (Ms a b c++M) Q)->AA L l tm M (λ tm M=>cR (AA L kk tm M Q))):AA L (l++kk) tm M Q:=by
 refine XU hn ?_;intro σ st hs;obtain ⟨n,c,BH,h1,σ1,tm1,M1,z0,h2⟩:=h hr σ st hs;exact ⟨n,c,BH,h1,σ1,tm1,M1,z0,h2.out⟩
end Go.c6

namespace Go.c6
theorem RV {es:o_} {i j n:Nat} {K:u_->Prop} {cs ds:u_} (h:es[i]? = some cs) (hp:part cs j n=some ds) (hk:K ds):BA es i j n K:=by
 unfold BA;exact ⟨cs,ds,h,hp,hk⟩
theorem R4 {es:o_} {i j:Nat} {vs cs:u_} {K:o_->Prop} (h:es[i]? = some cs) (hl:ie (j+vs.length) cs.length=true) (hk:K (es.set i (splice cs j vs))):A8 es i j vs K:=by
 unfold A8;exact ⟨cs,h,ub hl,hk⟩
theorem N4 {es:o_} {off len:Nat} {K:o_->Prop} (h:ie (off+len) es.length=true) (hz:es.all GE=true) (hk:K ((es.drop off).take len)):A1 es off len K :=
 ZU (ub h) (λ e he=>Mb.1 hz e he) hk
theorem jX {es:o_} {K:Nat->Prop} (n:Nat) (hn:es.length=n) (h:K n):AQ es K:=⟨hn ▸ h⟩
theorem EY {rows:List (P')} {len bytes:Nat} {r:P'} {K:List (P')->Nat->Prop} (n:Nat) (hn:n=len+1) (hl:len=rows.length) (hr:ie (n*bytes) 140737488355328=true) (au:ie n 9223372036854775807=true) (h:K (rows++[r]) n):BX rows len r bytes K:=by
 subst hn;exact ⟨hl,by simpa [DX] using ub hr,ub au,h⟩
theorem IX {es ys:o_} {len z bytes:Nat} {K:o_->Nat->Prop} (n:Nat) (hn:n=len+ys.length) (hl:ie len es.length=true) (hz:ys.all (λ e=>Nat.beq e.length z)=true) (hr:ie (n*bytes) 140737488355328=true) (au:ie n 9223372036854775807=true) (h:K (es.take len++ys) n):BL es len ys z bytes K:=by
 subst hn;exact ⟨ub hl,λ e he=>Nat.eq_of_beq_eq_true (Mb.1 hz e he),by simpa [DX] using ub hr,ub au,h⟩
theorem sQ {β:Type} {rows:List (P')} {z:Nat} {en:β->u_} {q:Bool} {off len:Nat} {K:o_->Prop} (ll:List (List β)) (hr:rows=BJ z en ll) (hz : ∀ x,GE (en x)=true) (ho:off=0) (hl:len=ll.length) (h:K (ll.map λ r=>[AV.sl q (r.map en)])):CG q rows off len K:=by
 subst hr;exact H1 hz ho hl h
theorem GI {es:o_} {a:Int} {z:Nat} {K:u_->Prop} {cs:u_} (i:Nat) (ha:a=i) (h:es[i]? = some cs) (hz:cs.length=z) (hk:K cs):AW es a z K:=by
 subst ha;unfold AW;exact ⟨O',cs,h,hz,hk⟩
end Go.c6

namespace Go.c6
open F
attribute [local irreducible] AA AF AL AC CQ AW BA A8 B3 BL CN D4 BP A1 B6 CF AB BG AH pw BV BO CS CY C2 BX CG BU CX
variable {L:Lib}
set_option maxRecDepth 8000
theorem AhW (I:e8 L) (N:bm L) (k v:List Int) (q1 q2:Bool) (c:Wd) (hc:WV c) (l1:k.length<=8) (l2:v.length=k.length+1) (hv : ∀ x∈v,FT c x) (hk : ∀ x∈k,FT c x/\FT c (-x)) (hu : ∀ x∈k,-pw c.f<x/\x<pw c.f) :
  Ev L 345 [.sl q1 (k.map C0),.sl q2 (v.map C0),.agg (GY c)] (.int .i64 0):=by
 have Fh : ∀ x∈k,-16777216<=x/\x<=16777216:=λ x hx=>by
  obtain ⟨_,e1,e2⟩:=(hk x hx).1;obtain ⟨h1,h2,h3,h4⟩:=Q1 hc;omega
 have o7:=hc;unfold WV at o7;have ov:=NL (n:=c.f) (m:=23) O';have xi:pw 23=8388608:=by unfold pw;rfl
 have vd:=HF c.f;refine Ev.x N.KF rfl rfl ?_;repeat' (first|(apply AG<;>intro hc<;>try omega)|(apply AP;omega)|apply AR|apply AE|refine FE (QP ⟨_,_,_,_⟩ I) (λ hf => ?_) (λ hf => ?_))<;>conv=>whnf
 all_goals try (exact absurd hc V')
 refine CE (λ i=>v.length-i) (λ(i:Nat)=>i<=v.length) (λ i=>[(29,.int .i64 i)]) (λ_=>[]) 0 O' ?_;intro i p1 ih;repeat' (first|(apply AG<;>intro hc<;>try omega)|(apply AP;omega)|apply AR|(refine LP ?_ (λ_=>rfl) (λ e he => ?_);omega)|apply AE|refine FE (WH ⟨_,_,_,_⟩ I _) (λ hf => ?_) (λ hf => ?_))<;>conv=>whnf
 ·exact A9 [] (ih (i+1) O' O')
 ·exact absurd (hv _ (zM he)) hf
 refine CE (λ i=>k.length-i) (λ(i:Nat)=>i<=k.length) (λ i=>[(40,.int .i64 i)]) (λ_=>[]) 0 O' ?_;intro i p1 ih;repeat' (first|(apply AG<;>intro hc<;>try omega)|apply AR|(refine LP ?_ (λ_=>rfl) (λ e he => ?_);omega)|apply AE|refine FE (WH ⟨_,_,_,_⟩ I _) (λ hf => ?_) (λ hf => ?_))<;>conv=>whnf
 ·have hfe:=Fh _ (zM he)
  repeat' (first|(apply AP;omega)|(apply CQ.neg;omega)|refine FE (WH ⟨_,_,_,_⟩ I _) (λ hf => ?_) (λ hf => ?_))<;>conv=>whnf
  ·exact A9 [] (ih (i+1) O' O')
  ·exact absurd (hk _ (zM he)).2 hf
 ·exact absurd (hk _ (zM he)).1 hf
 refine CE (λ i=>k.length-i) (λ(i:Nat)=>i<=k.length) (λ i=>[(58,.int .i64 i)]) (λ_=>[]) 0 O' ?_;intro i p1 ih;by_cases hi:i<k.length
 ·obtain ⟨x,hx⟩:=H' k i hi
  have dv:k[(i:Int).toNat]? = some x:=hx;have hfe:=Fh _ (zM hx);have hue:=hu _ (zM hx);repeat' (first|(apply AG<;>intro hc<;>try omega)|(apply AP;omega)|(refine F3 ?_ (λ_ _ => ?_);omega)|(apply CQ.neg;omega)|(refine A4 V' ?_ rfl ?_;omega)|apply AE)<;>conv=>whnf
  all_goals exact A9 [] (ih (i+1) O' O')
 ·repeat' (first|(apply AG<;>intro hc<;>try omega)|apply AE)<;>conv=>whnf
  exact CJ rfl
def FI (k v:List Int) (d c:Wd):Nt :=
 ⟨d,c,(k.length:Int),false,match k with
  | [x]=>[⟨false,[(0,pw c.f),(1,-x)]⟩,⟨false,[(2,x),(1,pw c.f)]⟩,⟨false,[(2,v.getD 0 0),(3,v.getD 1 0)]⟩]
  | [x,y]=>[⟨false,[(0,pw c.f),(2,-y)]⟩,⟨false,[(3,pw c.f),(1,-x)]⟩,⟨false,[(4,x),(1,pw c.f)]⟩,⟨false,[(3,y),(2,pw c.f)]⟩,⟨false,[(4,v.getD 0 0),(5,v.getD 1 0),(6,v.getD 2 0)]⟩]
  | _=>[⟨false,[(0,v.getD 0 0)]⟩],false,match k with
  | [_]=>[2]
  | [_,_]=>[4,5]
  | _=>[],3*(k.length:Int)+1⟩
theorem AhV (I:e8 L) (N:bm L) (k v:List Int) (q1 q2:Bool) (d c:Wd) (hd:WV d) (hc:WV c) (l1:k.length<=2) (l2:v.length=k.length+1) (hv : ∀ x∈v,FT c x) (hk : ∀ x∈k,FT c x/\FT c (-x)) (hu : ∀ x∈k,-pw c.f<x/\x<pw c.f) :
  Ev L 346 [.sl q1 (k.map C0),.sl q2 (v.map C0),.agg (GY d),.agg (GY c)] (.c5 [.agg (FG (FI k v d c)),.int .i64 0]):=by
 have hw:=λ q q'=>AhW I N k v q q' c hc O' l2 hv hk hu
 have o7:=hc;unfold WV at o7;have ov:=NL (n:=c.f) (m:=23) O';have xi:pw 23=8388608:=by unfold pw;rfl
 have vd:=HF c.f;have Fh : ∀ x∈k,-16777216<=x/\x<=16777216:=λ x hx=>by
  obtain ⟨_,e1,e2⟩:=(hk x hx).1;obtain ⟨h1,h2,h3,h4⟩:=Q1 hc;omega
 refine Ev.x N.LZ rfl rfl ?_;rcases k with _|⟨x,_|⟨y,_|⟨z,k⟩⟩⟩
 ·rcases v with _|⟨a,_|⟨b,v⟩⟩
  ·simp at l2
  ·simp only[xe,je]at hw ⊢
   repeat' (first|(apply AG<;>intro hc<;>try omega)|apply AE|refine FE (QP ⟨_,_,_,_⟩ I) (λ hf => ?_) (λ hf => ?_)|refine AD (hw _ _) ?_)<;>conv=>whnf
   all_goals try (exact absurd hd V')
   refine jX 0 rfl ?_;conv=>whnf
   repeat' (first|(refine F3 ?_ (λ_ _ => ?_);omega)|fail)<;>conv=>whnf
   refine DW (enc:=C0) 0 0 rfl O' O' ?_;conv=>whnf
   repeat' (first|(apply AP;omega)|(apply FL;omega))<;>conv=>whnf
   refine DW (enc:=C0) 0 1 rfl O' O' ?_;conv=>whnf
   skip
   refine F8 ?_;repeat' (first|(apply AG<;>intro hc<;>try omega)|(apply AP;omega)|apply AE)<;>conv=>whnf
   refine DW (enc:=C0) 0 1 rfl O' O' ?_;conv=>whnf
   repeat' (first|(apply AX;omega)|fail)<;>conv=>whnf
   repeat (
    repeat' (first|(apply AG<;>intro hc<;>try omega)|(apply AX;omega)|apply AE)<;>conv=>whnf
    (first|refine RV rfl rfl ?_|refine R4 rfl rfl ?_|refine GI 0 O' rfl rfl ?_|refine GI 1 O' rfl rfl ?_|refine GI 2 O' rfl rfl ?_|refine EY 2 rfl rfl rfl rfl ?_|refine EY 3 rfl rfl rfl rfl ?_|refine EY 4 rfl rfl rfl rfl ?_|refine EY 5 rfl rfl rfl rfl ?_|refine IX 2 rfl rfl rfl rfl rfl ?_|refine IX 3 rfl rfl rfl rfl rfl ?_|refine AX rfl ?_|refine AX ⟨rfl,Y'⟩ ?_|refine N4 rfl rfl ?_|refine F8 ?_)
    (conv=>whnf))
   skip
   refine H1 (z:=2) (en:=H5) (ll:=[[(0,a)]]) (λ_=>rfl) rfl rfl ?_;conv=>whnf
   repeat (
    (repeat' ((refine C8 (λ_=>rfl) rfl ?_ ?_;(first|rfl|simp))<;>conv=>whnf))
    (first|refine RV rfl rfl ?_|refine R4 rfl rfl ?_|refine GI 0 O' rfl rfl ?_|refine GI 1 O' rfl rfl ?_|refine GI 2 O' rfl rfl ?_|refine EY 2 rfl rfl rfl rfl ?_|refine EY 3 rfl rfl rfl rfl ?_|refine EY 4 rfl rfl rfl rfl ?_|refine EY 5 rfl rfl rfl rfl ?_|refine IX 2 rfl rfl rfl rfl rfl ?_|refine IX 3 rfl rfl rfl rfl rfl ?_|refine AX rfl ?_|refine AX ⟨rfl,Y'⟩ ?_|refine N4 rfl rfl ?_|refine F8 ?_)
    (conv=>whnf))
   (repeat' ((refine C8 (λ_=>rfl) rfl ?_ ?_;(first|rfl|simp))<;>conv=>whnf))
   exact AY rfl (YX (FI [] [a] d c) rfl rfl (by simp [FI]))
  ·simp at l2
 ·rcases v with _|⟨a,_|⟨b,_|⟨e,v⟩⟩⟩
  ·simp at l2
  ·simp at l2
  ·have hx:=Fh x Z'
   simp only[xe,je]at hw ⊢;repeat' (first|(apply AG<;>intro hc<;>try omega)|apply AE|refine FE (QP ⟨_,_,_,_⟩ I) (λ hf => ?_) (λ hf => ?_)|refine AD (hw _ _) ?_)<;>conv=>whnf
   all_goals try (exact absurd hd V')
   refine jX 1 rfl ?_;conv=>whnf
   repeat' (first|(refine F3 ?_ (λ_ _ => ?_);omega)|fail)<;>conv=>whnf
   refine DW (enc:=C0) 0 1 rfl O' O' ?_;conv=>whnf
   repeat' (first|(apply AP;omega)|(apply FL;omega))<;>conv=>whnf
   refine DW (enc:=C0) 0 2 rfl O' O' ?_;conv=>whnf
   skip
   repeat (
    repeat' (first|(apply AG<;>intro hc<;>try omega)|(apply AX;omega)|(apply AP;omega)|(apply BS;omega)|(apply CQ.neg;omega)|apply AE)<;>conv=>whnf
    (first|refine RV rfl rfl ?_|refine R4 rfl rfl ?_|refine GI 0 O' rfl rfl ?_|refine GI 1 O' rfl rfl ?_|refine GI 2 O' rfl rfl ?_|refine EY 2 rfl rfl rfl rfl ?_|refine EY 3 rfl rfl rfl rfl ?_|refine EY 4 rfl rfl rfl rfl ?_|refine EY 5 rfl rfl rfl rfl ?_|refine IX 2 rfl rfl rfl rfl rfl ?_|refine IX 3 rfl rfl rfl rfl rfl ?_|refine AX rfl ?_|refine AX ⟨rfl,Y'⟩ ?_|refine N4 rfl rfl ?_|refine F8 ?_)
    (conv=>whnf))
   repeat' (first|(apply AG<;>intro hc<;>try omega)|(apply AP;omega)|apply AE)<;>conv=>whnf
   refine DW (enc:=C0) 0 2 rfl O' O' ?_;conv=>whnf
   repeat (
    repeat' (first|(apply AG<;>intro hc<;>try omega)|(apply AX;omega)|(apply AP;omega)|(apply BS;omega)|(apply FL;omega)|apply DG|apply AE)<;>conv=>whnf
    (first|refine RV rfl rfl ?_|refine R4 rfl rfl ?_|refine GI 0 O' rfl rfl ?_|refine GI 1 O' rfl rfl ?_|refine GI 2 O' rfl rfl ?_|refine EY 2 rfl rfl rfl rfl ?_|refine EY 3 rfl rfl rfl rfl ?_|refine EY 4 rfl rfl rfl rfl ?_|refine EY 5 rfl rfl rfl rfl ?_|refine IX 2 rfl rfl rfl rfl rfl ?_|refine IX 3 rfl rfl rfl rfl rfl ?_|refine AX rfl ?_|refine AX ⟨rfl,Y'⟩ ?_|refine N4 rfl rfl ?_|refine F8 ?_)
    (conv=>whnf))
   skip
   refine H1 (z:=2) (en:=H5) (ll:=[[(0,pw c.f),(1,-x)],[(2,x),(1,pw c.f)],[(2,a),(3,b)]]) (λ_=>rfl) rfl rfl ?_;conv=>whnf
   repeat (
    (repeat' (refine GS rfl ?_<;>conv=>whnf))
    (first|refine RV rfl rfl ?_|refine R4 rfl rfl ?_|refine GI 0 O' rfl rfl ?_|refine GI 1 O' rfl rfl ?_|refine GI 2 O' rfl rfl ?_|refine EY 2 rfl rfl rfl rfl ?_|refine EY 3 rfl rfl rfl rfl ?_|refine EY 4 rfl rfl rfl rfl ?_|refine EY 5 rfl rfl rfl rfl ?_|refine IX 2 rfl rfl rfl rfl rfl ?_|refine IX 3 rfl rfl rfl rfl rfl ?_|refine AX rfl ?_|refine AX ⟨rfl,Y'⟩ ?_|refine N4 rfl rfl ?_|refine F8 ?_)
    (conv=>whnf))
   (repeat' (refine GS rfl ?_<;>conv=>whnf))
   exact AY rfl (YX (FI [x] [a,b] d c) rfl rfl (by simp [FI]))
  ·simp at l2
 ·rcases v with _|⟨a,_|⟨b,_|⟨e,_|⟨g,v⟩⟩⟩⟩
  ·simp at l2
  ·simp at l2
  ·simp at l2
  ·have hx:=Fh x Z'
   have hy:=Fh y Z';simp only[xe,je]at hw ⊢;repeat' (first|(apply AG<;>intro hc<;>try omega)|apply AE|refine FE (QP ⟨_,_,_,_⟩ I) (λ hf => ?_) (λ hf => ?_)|refine AD (hw _ _) ?_)<;>conv=>whnf
   all_goals try (exact absurd hd V')
   refine jX 2 rfl ?_;conv=>whnf
   repeat' (first|(refine F3 ?_ (λ_ _ => ?_);omega)|fail)<;>conv=>whnf
   refine DW (enc:=C0) 0 2 rfl O' O' ?_;conv=>whnf
   repeat' (first|(apply AP;omega)|(apply FL;omega))<;>conv=>whnf
   refine DW (enc:=C0) 0 3 rfl O' O' ?_;conv=>whnf
   skip
   repeat (
    repeat' (first|(apply AG<;>intro hc<;>try omega)|(apply AX;omega)|(apply AP;omega)|(apply BS;omega)|(apply CQ.neg;omega)|apply AE)<;>conv=>whnf
    (first|refine RV rfl rfl ?_|refine R4 rfl rfl ?_|refine GI 0 O' rfl rfl ?_|refine GI 1 O' rfl rfl ?_|refine GI 2 O' rfl rfl ?_|refine EY 2 rfl rfl rfl rfl ?_|refine EY 3 rfl rfl rfl rfl ?_|refine EY 4 rfl rfl rfl rfl ?_|refine EY 5 rfl rfl rfl rfl ?_|refine IX 2 rfl rfl rfl rfl rfl ?_|refine IX 3 rfl rfl rfl rfl rfl ?_|refine AX rfl ?_|refine AX ⟨rfl,Y'⟩ ?_|refine N4 rfl rfl ?_|refine F8 ?_)
    (conv=>whnf))
   repeat' (first|(apply AG<;>intro hc<;>try omega)|(apply AP;omega)|apply AE)<;>conv=>whnf
   refine DW (enc:=C0) 0 3 rfl O' O' ?_;conv=>whnf
   repeat (
    repeat' (first|(apply AG<;>intro hc<;>try omega)|(apply AX;omega)|(apply AP;omega)|(apply BS;omega)|(apply FL;omega)|apply DG|apply AE)<;>conv=>whnf
    (first|refine RV rfl rfl ?_|refine R4 rfl rfl ?_|refine GI 0 O' rfl rfl ?_|refine GI 1 O' rfl rfl ?_|refine GI 2 O' rfl rfl ?_|refine EY 2 rfl rfl rfl rfl ?_|refine EY 3 rfl rfl rfl rfl ?_|refine EY 4 rfl rfl rfl rfl ?_|refine EY 5 rfl rfl rfl rfl ?_|refine IX 2 rfl rfl rfl rfl rfl ?_|refine IX 3 rfl rfl rfl rfl rfl ?_|refine AX rfl ?_|refine AX ⟨rfl,Y'⟩ ?_|refine N4 rfl rfl ?_|refine F8 ?_)
    (conv=>whnf))
   skip
   refine sQ (z:=2) (en:=H5) [[(0,pw c.f),(2,-y)],[(3,pw c.f),(1,-x)],[(4,x),(1,pw c.f)],[(3,y),(2,pw c.f)],[(4,a),(5,b),(6,e)]] (by simp [BJ]) (λ_=>rfl) rfl rfl ?_;conv=>whnf
   repeat (
    (repeat' (refine JJ rfl rfl ?_<;>conv=>whnf))
    (first|refine RV rfl rfl ?_|refine R4 rfl rfl ?_|refine GI 0 O' rfl rfl ?_|refine GI 1 O' rfl rfl ?_|refine GI 2 O' rfl rfl ?_|refine EY 2 rfl rfl rfl rfl ?_|refine EY 3 rfl rfl rfl rfl ?_|refine EY 4 rfl rfl rfl rfl ?_|refine EY 5 rfl rfl rfl rfl ?_|refine IX 2 rfl rfl rfl rfl rfl ?_|refine IX 3 rfl rfl rfl rfl rfl ?_|refine AX rfl ?_|refine AX ⟨rfl,Y'⟩ ?_|refine N4 rfl rfl ?_|refine F8 ?_)
    (conv=>whnf))
   (repeat' (refine JJ rfl rfl ?_<;>conv=>whnf))
   exact AY rfl (YX (FI [x,y] [a,b,e] d c) rfl rfl (by simp [FI]))
  ·simp at l2
 ·simp at l1
abbrev eM (m:J'):o_:=m.map λ r=>[AV.sl false (r.map eQ)]
theorem kX (m:J'):EZ (eM m):=QK (λ r=>by simp only[B7,A3,and_true,true_and];exact KA r) m
theorem uE (m:J'):A3 (.sl false (eM m)):=by
 simp only[A3,true_and];exact kX m
theorem Bt.sm {k:Nat} {x:Rat} (h:Bt k x) (hk:k<2199023255552):Sm 68719476736 (dg x.num.natAbs)/\Sm 68719476736 (dg x.den):=h.dig O'
theorem NA (N:a5 L) {x y:Rat} {k l:Nat} (hx:Bt k x) (hy:Bt l y) (hk:k<2199023255552) (hl:l<2199023255552):Ev L 98 [.agg (eQ x),.agg (eQ y)] (.agg (eQ (x+y))):=by
 have:=yG N 68719476736 O' (decide (x.num<0)) (decide (y.num<0)) false false false false _ _ _ _ (hx.sm hk).1 (hx.sm hk).2 (hy.sm hl).1 (hy.sm hl).2
 rw[EL,EL]at this;exact this
theorem H7 (N:a5 L) {x y:Rat} {k l:Nat} (hx:Bt k x) (hy:Bt l y) (hk:k<2199023255552) (hl:l<2199023255552):Ev L 99 [.agg (eQ x),.agg (eQ y)] (.agg (eQ (x*y))):=by
 have:=aG N 68719476736 O' (decide (x.num<0)) (decide (y.num<0)) false false false false _ _ _ _ (hx.sm hk).1 (hx.sm hk).2 (hy.sm hl).1 (hy.sm hl).2
 rw[EL,EL]at this;exact this
theorem aF (N:a5 L) {x y:Rat} {k l:Nat} (hx:Bt k x) (hy:Bt l y) (hk:k<2199023255552) (hl:l<2199023255552) (h0:y≠0):Ev L 100 [.agg (eQ x),.agg (eQ y)] (.c5 [.agg (eQ (x/y)),.int .i64 0]):=by
 have:=AiG N 68719476736 O' (decide (x.num<0)) (decide (y.num<0)) false false false false _ _ _ _ (hx.sm hk).1 (hx.sm hk).2 (hy.sm hl).1 (hy.sm hl).2 (by rw[EL];exact h0)
 rw[EL,EL]at this;exact this
theorem K7 (N:a5 L) {x:Rat} {k:Nat} (hx:Bt k x) (hk:k<2199023255552):Ev L 95 [.agg (eQ x)] (.agg (eQ x)):=by
 have:=nA N (decide (x.num<0)) false false _ _ ((hx.sm hk).1.le O') ((hx.sm hk).2.le O')
 rw[EL]at this;exact this
theorem WK (N:a5 L) {x:Rat} {k:Nat} (hx:Bt k x) (hk:k<2199023255552):Ev L 97 [.agg (eQ x)] (.int .i64 (o3 x.num)):=by
 have:=yH N (decide (x.num<0)) false false _ _ ((hx.sm hk).1.le O') ((hx.sm hk).2.le O')
 rw[EL]at this;exact this
theorem MV {x:Rat}:o3 x.num=0↔x=0:=by
 rw[<-Lg];unfold o3;split
 ·omega
 ·split<;>omega
theorem Vh (n:Bool) (m d:N'):qv (!n) m d = -(qv n m d):=by
 unfold qv;have h:zv (!n) m = -(zv n m):=by cases n<;>simp [zv]
 rw[h,vh]
theorem Aft (n:Bool) (m d:N'):A3 (.agg (rQ false false n m d)):=by
 simp only[A3,B7,and_true,true_and];exact ⟨CP _,CP _⟩
theorem xF (N:q9 L) (n:Bool) (m d:N'):Ev L 149 [.agg (rQ false false n m d)] (.agg (rQ false false (!n) m d)):=by
 refine Ev.x N.T8 rfl rfl ?_;cases n;all_goals
  (repeat' (apply AE<;>conv=>whnf))
  exact AY rfl (Aft _ _ _)
theorem fA (N:q9 L) {x y:Rat} {k l:Nat} (hx:Bt k x) (hy:Bt l y) (hk:k<2199023255552) (hl:l<2199023255552):Ev L 150 [.agg (eQ x),.agg (eQ y)] (.agg (eQ (x-y))):=by
 have hF:=xF N (decide (y.num<0)) (dg y.num.natAbs) (dg y.den);have hA:=λ q3 q4=>yG N.toa5 68719476736 O' (decide (x.num<0)) (!decide (y.num<0)) false false q3 q4 _ _ _ _ (hx.sm hk).1 (hx.sm hk).2 (hy.sm hl).1 (hy.sm hl).2
 rw[Vh,EL,EL,<-qe]at hA;refine Ev.x N.T6 rfl rfl ?_;repeat' (first|apply sC|apply AE|refine AD (hF) ?_|refine AD (hA _ _) ?_)<;>conv=>whnf
 exact AY rfl (DK _)
theorem AkQ {x y:Int} (h:y≠0):mkRat (y.sign*x) y.natAbs=Ib x y:=by
 obtain ⟨d,hd|hd⟩:=Int.eq_nat_or_neg y
 ·subst hd
  rw[Gd O',Ef,tb,ib]
 ·subst hd
  rw[Fe O',Ee,tb,Rat.divInt_neg',ib,Int.neg_one_mul]
theorem wW (N:q9 L) (x y:Int) (hx : -9223372036854775808<=x/\x<=9223372036854775807) (hy : -9223372036854775808<=y/\y<=9223372036854775807) (h0:y≠0):Ev L 151 [.int .i64 x,.int .i64 y] (.agg (eQ (Ib x y))):=by
 have h1:=mS N.toa5 x hx;have h2:=mS N.toa5 y hy;have g1:Sm 2 (dg x.natAbs):=Sm.dg O';have g2:Sm 2 (dg y.natAbs):=Sm.dg O';have hl:=λ q1 q2=>YE N.toa5 (decide (x<0) != decide (y<0)) q1 q2 (dg x.natAbs) (dg y.natAbs) (g1.le O') (g2.le O') (by rw[B2];omega)
 unfold qv at hl;rw[Adr h0,B2,AkQ h0]at hl;refine Ev.x N.TZ rfl rfl ?_;repeat' (first|(apply AG<;>intro hc<;>try omega)|apply AE|refine AD (h1) ?_|refine AD (h2) ?_)<;>conv=>whnf
 refine FV 1000 N.PH rfl rfl ?_;(repeat' (apply AE<;>conv=>whnf))
 generalize decide (x<0)=p at *;generalize decide (y<0)=r at *;cases p<;>cases r;all_goals
  (conv=>whnf)
  refine ⟨rfl,?_⟩;conv=>whnf
  (repeat' (refine AD (hl _ _) ?_<;>conv=>whnf))
  exact AY rfl (DK _)
end Go.c6

namespace Go.c6
open F
attribute [local irreducible] AA AF AL AC CQ AW BA A8 B3 BL CN D4 BP A1 B6 CF AB BG AH pw BV BO CS CY C2 BX CG BU CX
variable {L:Lib}
variable (b a:List Int) (d c:Wd)
variable {b a d c}
end Go.c6

namespace Go.c6
open F
attribute [local irreducible] AA AF AL AC CQ AW BA A8 B3 BL CN D4 BP A1 B6 CF AB BG AH pw BV BO CS CY C2 BX CG BU CX
variable {L:Lib}
theorem Ahy (N:o4 L) (S:G7) (n k:Nat) (h:S.Ok n k) (hn:n<=64):Ev L 130 [.agg (eS S)] (.bool true):=by
 have h1:=h.la;have h2:=h.lb;have h3:=h.lc;refine Ev.x N.O2 rfl rfl ?_;repeat' (first|(apply AG<;>intro hc<;>try omega)|apply AR|apply AE)<;>conv=>whnf
 refine CE (λ i=>S.a.length-i) (λ(i:Nat)=>i<=S.a.length) (λ i=>[(28,.int .i64 i)]) (λ_=>[]) 0 O' ?_;intro i p1 ih;by_cases hi:i<S.a.length
 ·obtain ⟨r,hr⟩:=H' S.a i hi
  have ja:S.a[(i:Int).toNat]? = some r:=hr;have bh:=h.lr r (zM hr);repeat' (first|(apply AG<;>intro hc<;>try omega)|(apply AP;omega)|apply AR|(refine A4 V' ?_ rfl ?_;omega)|apply AE)<;>conv=>whnf
  exact A9 [] (ih (i+1) O' O')
 ·obtain rfl:i=S.a.length:=O'
  clear ih;repeat' (first|(apply AG<;>intro hc<;>try omega)|apply AE)<;>conv=>whnf
  exact FB rfl
def CR (n:Nt):List (List (Int × Int)):=n.nodes.map Nd.ts
def BR (n:Nt) (src ex:Int):K':=GK ((pw n.c.f:Int):Rat) ex 0 (B9 (1+n.s).toNat src) (CR n)
theorem gU {c:Wd} {s:Int} : ∀ {l:List Nd} {k j:Nat} {nd:Nd},GT c s k l=true->l[j]? = some nd->nd.ts.all (GF c s (k+j))=true
 | [],_,_,_,_,h=>by simp at h
 | e::l,k,0,nd,hb,h=>by
  simp only[List.getElem?_cons_zero,yd]at h;subst h;simp only[GT,qa]at hb;exact hb.1.2
 | e::l,k,j+1,nd,hb,h=>by
  simp only[List.getElem?_cons_succ]at h;simp only[GT,qa]at hb;rw[show k+(j+1)=k+1+j by omega];exact gU hb.2 h
theorem Anq (m p:Nat):(ya m (0:Rat)).set p 1=B9 m p:=by
 refine Pb λ j => ?_
 simp only[B9,Ka,oa,ud,Rb];by_cases h:j<m
 ·rw[ga h]
  by_cases e:p=j
  ·subst e;simp [h]
  ·simp [h,e];intro h3;omega
 ·rw[Oa (by simpa using h)]
  simp [h];intro e;omega
theorem Bs.unit (k m:Nat) (p:Int):Bs k (B9 m p):=by
 intro x hx;simp only[B9,Kc]at hx;obtain ⟨a,_,rfl⟩:=hx;split
 ·exact Bt.one k
 ·exact Bt.zero k
theorem nD (N:o4 L) (m:Nat) (hm:m<=65536):LM L 131 [.int .i64 (m:Int)] 3 ((ya m (0:Rat)).map eQ):=by
 have hO:=GZ N.toa5 0 O';refine LM.x N.O3 rfl rfl ?_;(repeat' (apply AE<;>conv=>whnf))
 refine DW (enc:=eO) none m rfl rfl O' ?_;conv=>whnf
 skip
 refine DF (λ i=>m-i) (λ(i:Nat)=>i<=m) (λ i=>[(9,.int .i64 i)]) (λ i=>[(131006,131006,.rw 3 ((FH (ya i 0) m).map eO))]) [] [] 0 (by first|exact B'|(rw[<-SP];exact B')) O' ?_;intro i p1 ih;by_cases hi:i<m
 ·have hl:=QU (l:=ya i (0:Rat)) (m:=m) G'
  have hs:=SR (l:=ya i (0:Rat)) (m:=m) (x:=0) G';rw[Rb]at hs;repeat' (first|(apply AG<;>intro hc<;>try omega)|(apply AX;omega)|apply AE|refine AD (hO) ?_)<;>conv=>whnf
  refine E5 (enc:=eO) (some 0) rfl (λ e=>by cases e<;>rfl) O' ?_;conv=>whnf
  repeat' (first|(apply AP;omega)|fail)<;>conv=>whnf
  rw[hs];rw[show ya i (0:Rat)++[0]=ya (i+1) 0 by rw[ec]];exact A9 [] (ih (i+1) O' O')
 obtain rfl:i=m:=O'
 clear ih;rw[SN Z'];repeat' (first|(apply AG<;>intro hc<;>try omega)|apply AE)<;>conv=>whnf
 exact ⟨rfl,rfl,Z',rfl,KA _⟩
theorem nC (N:ak L) (n:Nt) (src ex:Int) (hv:HR n=true) (cr:K3 (CR n)) (ju:n.nodes.length<=5) (hs : -1<=src/\src<=n.s) (hex:EB ex):Ev L 144 [.agg (FG n),.int .i64 src,.int .i64 ex] (.sl false ((BR n src ex).map eQ)):=by
 rw[E7]at hv;obtain ⟨h1,h2,h3,h4,h5,h6⟩:=hv;have hwf:0<=n.c.f/\n.c.f<=62:=by unfold WV at h2;omega
 have hP:=GZ N.toa5 (pw n.c.f) (by have:=HF n.c.f;have:=pQ hwf.2;omega);have hO:=GZ N.toa5 0 O';have hI:=GZ N.toa5 1 O';refine Ev.x N.MC rfl rfl ?_;repeat' (first|(apply AP;omega)|apply AE)<;>conv=>whnf
 obtain ⟨m,hm⟩ : ∃ m:Nat,1+n.s=m:=⟨_,(xc O').symm⟩;rw[hm];have hZ:=nD N.too4 m O';refine LL (enc:=eQ) m hZ Z' ?_;conv=>whnf
 have tf:=HF n.c.f;have nn:(pw n.c.f).natAbs<=2^24:=by
  have hf:n.c.f<24:=by unfold WV at h2;omega
  have h9:(2:Nat)^n.c.f.toNat<=2^24:=Hb O' O';rw[pw];exact_mod_cast h9
 have Jk:((pw n.c.f:Int):Rat)≠0:=by
  intro e;have:pw n.c.f=0:=by exact_mod_cast e
  omega
 have j9:(CR n).length=n.nodes.length:=by simp [CR]
 have Jm : ∀ j,j<=n.nodes.length->Bs 117150 (GK ((pw n.c.f:Int):Rat) ex 0 (B9 m src) ((CR n).take j)):=by
  intro j hj;have h:=fG (ex:=ex) tf nn ((CR n).take j) 0 (B9 m src) ⟨λ ts h=>cr.len ts (Da h),λ ts h=>cr.cf ts (Da h)⟩ (Bs.unit _ _ _);have e:0+((CR n).take j).length=j:=by rw[xa,j9];omega
  rw[e]at h;intro x hx;refine (h x hx).le ?_;rcases j with _|_|_|_|_|_|j
  ·decide
  ·decide
  ·decide
  ·decide
  ·decide
  ·decide
  ·omega
 have gd : ∀ j,j<=n.nodes.length->(GK ((pw n.c.f:Int):Rat) ex 0 (B9 m src) ((CR n).take j)).length=m+j:=by
  intro j hj;rw[fH,NW,xa,j9];omega
 have g9:=yR ((pw n.c.f:Int):Rat) ex (B9 m src) (CR n);have n8:BR n src ex=GK ((pw n.c.f:Int):Rat) ex 0 (B9 m src) ((CR n).take n.nodes.length):=by
  rw[BR,hm,Ia,<-j9,ic]
 rw[n8];clear n8;repeat' (first|(apply AG<;>intro hc<;>try omega)|(refine F3 ?_ (λ_ _ => ?_);omega))<;>conv=>whnf
 obtain ⟨p,rfl⟩ : ∃ p:Nat,src=p:=⟨_,(xc O').symm⟩;repeat' (first|(apply AX;omega)|refine AD (hI) ?_)<;>conv=>whnf
 refine LQ (enc:=eQ) p 1 O' rfl (λ_=>rfl) G' ?_;conv=>whnf
 rw[Anq];rotate_left
 obtain rfl:src = -1:=O'
 rw[<-Ano];all_goals
  repeat' (first|(refine F3 ?_ (λ_ _ => ?_);omega)|apply AR|refine AD (hP) ?_)<;>conv=>whnf
  generalize B9 m _=w at *;refine CE (λ j=>n.nodes.length-j) (λ(j:Nat)=>j<=n.nodes.length) (λ j=>[(34,.int .i64 j),(7,.row 19 0 3 0 (m+j:Nat))]) (λ j=>[(19,19,.rw 3 ((GK ((pw n.c.f:Int):Rat) ex 0 w ((CR n).take j)).map eQ))]) 0 O' ?_;intro j p2 ih;by_cases hj:j<n.nodes.length
  ·obtain ⟨nd,hnd⟩:=H' n.nodes j hj
   have Ea:n.nodes[(j:Int).toNat]? = some nd:=hnd;have oy:(CR n)[j]? = some nd.ts:=by simp [CR,hnd]
   have hbv:=Jm j p2;have iw:=gd j p2;have xv:=g9 j nd.ts oy;have Fp:=gU h4 hnd;have hL:nd.ts.length<=5:=cr.len _ (zM oy);have hC:=cr.cf _ (zM oy);generalize hV:GK ((pw n.c.f:Int):Rat) ex 0 w ((CR n).take j)=V at *;repeat' (first|(apply AG<;>intro hc<;>try omega)|apply AR|(refine A4 V' ?_ rfl ?_;omega)|apply AE|refine AD (hO) ?_)<;>conv=>whnf
   refine FJ (λ t _=>nd.ts.length-t) (λ(t:Nat) (acc:Rat)=>t<=nd.ts.length/\acc=E4 V (nd.ts.take t)) (λ t acc=>[(43,.int .i64 t)]) (λ t acc=>[(11,11,.bx (eQ acc))]) 0 (0:Rat) ⟨O',rfl⟩ ?_;intro t acc ⟨p3,p4⟩ jh;have xy:Bt 585900 acc:=by
    rw[p4];have a1:=hbv.sum (nd.ts.take t) (j:=24) (λ e he=>Bt.ofInt (hC e (Da he)));refine a1.le (Nat.le_trans (zR _ (show (nd.ts.take t).length<=5 by rw[xa];omega)) Y')
   by_cases ht:t<nd.ts.length
   ·obtain ⟨e,he⟩:=H' nd.ts t ht
    have iq:nd.ts[(t:Int).toNat]? = some e:=he;have Ik:=zM he;have g6:=Mb.1 Fp e Ik;simp only[GF,decide_eq_true_eq]at g6;have Km:=hC e Ik;obtain ⟨x,hx⟩:=H' V e.1.toNat;have jj:V.getD e.1.toNat 0=x:=by rw[va,hx];rfl
    have Fb:=hbv.at hx;have Ay:=Yb (vals:=V) he;rw[jj]at Ay;have nf:=WK N.toa5 Fb O';have hE:=GZ N.toa5 e.2 (by have:(2:Nat)^24=16777216:=rfl;omega);have hM:=H7 N.toa5 (Bt.ofInt Km) Fb O' O';have hA:=NA N.toa5 xy ((Bt.ofInt Km).mul Fb) O' O';have z1:=MV (x:=x);generalize o3 x.num=sx at *;by_cases q1:e.2=0
    ·repeat' (first|(apply AG<;>intro hc<;>try omega)|(apply AP;omega)|(refine A4 V' ?_ rfl ?_;omega)|apply AE)<;>conv=>whnf
     exact A9 [] (jh (t+1) acc O' ⟨O',by rw[Ay,q1,show ((0:Int):Rat)=0 from rfl,qh,Ld];exact p4⟩)
    ·by_cases q2:sx=0
     ·have qy:=z1.1 q2
      repeat' (first|(apply AG<;>intro hc<;>try omega)|(apply AX;omega)|(refine A4 V' ?_ rfl ?_;omega)|(refine LO ?_ (λ_=>rfl) (λ v hv => ?_);omega)|apply AE)<;>conv=>whnf
      cases hx.symm.trans hv;repeat' (first|(apply AG<;>intro hc<;>try omega)|(apply AP;omega)|refine AD (nf) ?_)<;>conv=>whnf
      exact A9 [] (jh (t+1) acc O' ⟨O',by rw[Ay,qy,Rat.mul_zero,Ld];exact p4⟩)
     ·repeat' (first|(apply AG<;>intro hc<;>try omega)|(apply AX;omega)|(refine A4 V' ?_ rfl ?_;omega)|(refine LO ?_ (λ_=>rfl) (λ v hv => ?_);omega)|apply AE)<;>conv=>whnf
      cases hx.symm.trans hv;repeat' (first|(apply AG<;>intro hc<;>try omega)|(apply AX;omega)|(refine LO ?_ (λ_=>rfl) (λ v hv => ?_);omega)|refine AD (nf) ?_|refine AD (hE) ?_)<;>conv=>whnf
      cases hx.symm.trans hv;repeat' (first|(apply AP;omega)|refine AD (hM) ?_|refine AD (hA) ?_)<;>conv=>whnf
      exact A9 [] (jh (t+1) (acc+((e.2:Int):Rat)*x) O' ⟨O',by rw[Ay,<-p4]⟩)
   ·obtain rfl:t=nd.ts.length:=O'
    clear jh;rw[ic]at p4;have hD:=aF N.toa5 xy (Bt.ofInt nn) O' O' Jk;rw[<-p4]at xv;by_cases q5:(j:Int)=ex
    ·have Bi:=NA N.toa5 (xy.vu tf nn) (Bt.ofInt (k:=0) (z:=1) Y') O' O'
     rw[if_pos q5]at xv;repeat' (first|(apply AG<;>intro hc<;>try omega)|apply DG|apply AE|refine AD (hD) ?_|refine AD (hI) ?_|refine AD (Bi) ?_)<;>conv=>whnf
     refine EE (enc:=eQ) (acc/((pw n.c.f:Int):Rat)+((1:Int):Rat)) rfl iw.symm rfl O' O' ?_;rw[show ((1:Int):Rat)=1 from rfl,<-xv,gd (j+1) O'];repeat' (first|(apply AP;omega)|fail)<;>conv=>whnf
     exact A9 [(19,86)] (ih (j+1) O' O')
    ·rw[if_neg q5,Ld]at xv
     repeat' (first|(apply AG<;>intro hc<;>try omega)|apply DG|apply AE|refine AD (hD) ?_)<;>conv=>whnf
     refine EE (enc:=eQ) (acc/((pw n.c.f:Int):Rat)) rfl iw.symm rfl O' O' ?_;rw[<-xv,gd (j+1) O'];repeat' (first|(apply AP;omega)|fail)<;>conv=>whnf
     exact A9 [(19,86)] (ih (j+1) O' O')
  ·obtain rfl:j=n.nodes.length:=O'
   clear ih;repeat' (first|(apply AG<;>intro hc<;>try omega)|apply AE)<;>conv=>whnf
   have iw:=gd n.nodes.length p2;refine C8 (enc:=eQ) (λ_=>rfl) rfl O' ?_;exact AY rfl (by simp only[A3,true_and];exact KA _)
theorem nQ {l:K'} {i:Nat} {x:Rat} (h:l[i]? = some x):l.getD i 0=x:=by rw[va,h];rfl
theorem Ai5 {l:K'} {i:Nat} (h:l.length<=i):l.getD i 0=0:=by rw[va,Oa h];rfl
theorem qG (z:Int):o3 z = -1/\z<0\/o3 z=0/\z=0\/o3 z=1/\0<z:=by
 unfold o3;split
 ·exact Or.inl ⟨rfl,O'⟩
 ·split
  ·exact Or.inr (Or.inr ⟨rfl,O'⟩)
  ·exact Or.inr (Or.inl ⟨rfl,O'⟩)
theorem Afz {a b:Nat} {z:Int} (h:z=(a:Int)-b):DL a b=o3 z:=by
 unfold DL o3;subst h;repeat' split
 all_goals omega
theorem xI (N:q8 L) (n1 n2 q1 q2:Bool) (a b:N') (ha:Sm 549755813888 a) (hb:Sm 549755813888 b):Ev L 197 [.agg (rZ q1 n1 a),.agg (rZ q2 n2 b)] (.int .i64 (o3 (zv n1 a-zv n2 b))):=by
 have h1:=λ q=>eL N.toa5 n1 q a ha
 have h2:=λ q=>eL N.toa5 n2 q b hb
 have h3:=λ q q'=>QQ N.toc4 a b q q' ha.1 hb.1 (by have:=ha.2;omega) (by have:=hb.2;omega)
 have h4:=λ q q'=>QQ N.toc4 b a q q' hb.1 ha.1 (by have:=hb.2;omega) (by have:=ha.2;omega)
 have za:=FU n1 a;have zb:=FU n2 b;generalize zv n1 a=x at *;generalize zv n2 b=y at *;rcases qG x with ⟨e1,g1⟩|⟨e1,g1⟩|⟨e1,g1⟩<;>rcases qG y with ⟨e2,g2⟩|⟨e2,g2⟩|⟨e2,g2⟩
 all_goals
  rw[e1]at h1;rw[e2]at h2;refine Ev.x N.S6 rfl rfl ?_;repeat' (first|(apply AG<;>intro hc<;>try omega)|apply AE|refine AD (h1 _) ?_|refine AD (h2 _) ?_|refine AD (h3 _ _) ?_|refine AD (h4 _ _) ?_)<;>conv=>whnf
  first
   | exact CJ (qH O')
   | exact CJ (qI O')
   | exact CJ (Afz O')
theorem AiF (N:q8 L) (k:Nat) (hk:1<=k/\k<=68719476736) (n1 n2:Bool) (m1 d1 m2 d2:N') (gn:Sm k m1) (oh:Sm k d1) (gj:Sm k m2) (oi:Sm k d2) :
  Ev L 198 [.agg (rQ false false n1 m1 d1),.agg (rQ false false n2 m2 d2)] (.int .i64 (o3 (qv n1 m1 d1-qv n2 m2 d2).num)):=by
 obtain ⟨a1,a2,a3,w1,z0,s1,s2,s3,s4,s5⟩:=OO N.toa5 n1 m1 d1 k O' gn oh;obtain ⟨b1,b2,b3,w2,au,t1,t2,t3,t4,t5⟩:=OO N.toa5 n2 m2 d2 k O' gj oi;rw[s5,t5,<-Sc s3 t3];by_cases hw:w1=true/\w2=true
 ·obtain ⟨rfl,rfl⟩:=hw
  have hC:=λ q q'=>xI N a1 b1 q q' a2 b2 (s1.le O') (t1.le O')
  rw[s4 rfl,t4 rfl];rw[show zv a1 a2*((1:Nat):Int)-zv b1 b2*((1:Nat):Int)=zv a1 a2-zv b1 b2 by omega];refine Ev.x N.PF rfl rfl ?_;repeat' (first|apply HY|apply AE|refine AD (z0) ?_|refine AD (au) ?_|refine AD (hC _ _) ?_)<;>conv=>whnf
  exact CJ rfl
 ·have dd:=λ q q'=>WI N.toa5 a1 false q q' a2 b3 s1.1 t2.1 (by have:=s1.2;have:=t2.2;omega)
  have de:=λ q q'=>WI N.toa5 b1 false q q' b2 a3 t1.1 s2.1 (by have:=t1.2;have:=s2.2;omega)
  have Ap:=YF N.toa5 a3;have xg:=YF N.toa5 b3;have g1:Sm (k+k) (dg (zv a1 a2*zv false b3).natAbs):=XG s1 t2;have g2:Sm (k+k) (dg (zv b1 b2*zv false a3).natAbs):=XG t1 s2;have hC:=λ q q'=>xI N (decide (zv a1 a2*zv false b3<0)) (decide (zv b1 b2*zv false a3<0)) q q' _ _ (g1.le O') (g2.le O')
  rw[F2,F2]at hC;rw[<-FA b3,<-FA a3];generalize zv a1 a2*zv false b3=x at *;generalize zv b1 b2*zv false a3=y at *;refine Ev.x N.PF rfl rfl ?_;cases w1<;>cases w2
  ·repeat' (first|apply HY|apply VW|apply AE|refine AD (z0) ?_|refine AD (au) ?_|refine AD (Ap) ?_|refine AD (xg) ?_|refine AD (dd _ _) ?_|refine AD (de _ _) ?_|refine AD (hC _ _) ?_)<;>conv=>whnf
   exact CJ rfl
  ·repeat' (first|apply HY|apply VW|apply AE|refine AD (z0) ?_|refine AD (au) ?_|refine AD (Ap) ?_|refine AD (xg) ?_|refine AD (dd _ _) ?_|refine AD (de _ _) ?_|refine AD (hC _ _) ?_)<;>conv=>whnf
   exact CJ rfl
  ·repeat' (first|apply HY|apply VW|apply AE|refine AD (z0) ?_|refine AD (au) ?_|refine AD (Ap) ?_|refine AD (xg) ?_|refine AD (dd _ _) ?_|refine AD (de _ _) ?_|refine AD (hC _ _) ?_)<;>conv=>whnf
   exact CJ rfl
  ·exact absurd ⟨rfl,rfl⟩ hw
theorem xB (N:q8 L) {x y:Rat} {k l:Nat} (hx:Bt k x) (hy:Bt l y) (hk:k<2199023255552) (hl:l<2199023255552):Ev L 198 [.agg (eQ x),.agg (eQ y)] (.int .i64 (o3 (x-y).num)):=by
 have:=AiF N 68719476736 O' (decide (x.num<0)) (decide (y.num<0)) _ _ _ _ (hx.sm hk).1 (hx.sm hk).2 (hy.sm hl).1 (hy.sm hl).2
 rw[EL,EL]at this;exact this
theorem xQ (N:q8 L) {x:Rat} {k:Nat} (hx:Bt k x) (hk:k<2199023255552):Ev L 199 [.agg (eQ x)] (.agg (eQ (-x))):=by
 have hF:=xF N.toq9 (decide (x.num<0)) (dg x.num.natAbs) (dg x.den);have hT:=λ q1 q2=>nA N.toa5 (!decide (x.num<0)) q1 q2 _ _ ((hx.sm hk).1.le O') ((hx.sm hk).2.le O')
 rw[Vh,EL]at hT;refine Ev.x N.T3 rfl rfl ?_;repeat' (first|apply sC|apply AE|refine AD (hF) ?_|refine AD (hT _ _) ?_)<;>conv=>whnf
 exact AY rfl (DK _)
theorem xU (N:q8 L) (q:Bool) (l:K') (k:Nat) (hl:Bs k l) (hk:k<2199023255552) (hn:l.length<=1000000):Ev L 200 [.sl q (l.map eQ)] (.int .i64 ((I3 l l.length:Int)-1)):=by
 refine Ev.x N.TV rfl rfl ?_;(repeat' (apply AE<;>conv=>whnf))
 refine GU 1000 N.PE rfl rfl ?_;repeat' (first|apply AR|apply AE)<;>conv=>whnf
 refine CE (λ n=>n) (λ(n:Nat)=>n<=l.length/\I3 l l.length=I3 l n) (λ n=>[(3,.int .i64 n)]) (λ_=>[]) l.length ⟨ea _,rfl⟩ ?_;intro n ⟨p1,p2⟩ ih;have done : ∀ {n:Nat},I3 l l.length=n->VJ l=l.take n:=λ h=>by rw[VJ,h]
 by_cases hz:n=0\/(∃ m x,n=m+1/\l[m]? = some x/\x≠0)
 ·have Hm:I3 l l.length=n:=by
   rw[p2];rcases hz with rfl|⟨m,x,rfl,h1,h2⟩
   ·rfl
   ·rw[I3,if_neg]
    rw[va,h1];exact h2
  have htq:=done Hm;have ct:(l.take n).length=n:=by rw[xa];omega
  clear ih Hm p2 done;rcases hz with h0|⟨m,x,hnm,h1,h2⟩
  case' inl=>repeat' (first|(apply AG<;>intro hc<;>try omega)|apply AE)<;>conv=>whnf
  case' inr =>
   have Ac:l[((n:Int)-1).toNat]? = some x:=by rw[show ((n:Int)-1).toNat=m by omega];exact h1
   have Ha:=WK N.toa5 (hl.at h1) O';have hs:=MV (x:=x);generalize o3 x.num=s at *;have hS : ∀ v,l[((n:Int)-1).toNat]? = some v->Ev L 97 [.agg (eQ v)] (.int .i64 s):=λ v h=>by
    obtain rfl:=fc (Ac.symm.trans h);exact Ha
   have br:s≠0:=λ h=>h2 (hs.1 h)
   repeat' (first|(apply AG<;>intro hc<;>try omega)|(apply BS;omega)|(refine A4 V' ?_ rfl ?_;omega)|apply AE|refine AD (Ha) ?_)<;>conv=>whnf
  all_goals
   refine M5 (enc:=eQ) (λ_=>rfl) p1 ?_;conv=>whnf
   skip
   refine ⟨rfl,_,rfl,?_⟩;conv=>whnf
   repeat' (first|(apply BS;omega)|apply AR)<;>conv=>whnf
   have Hn:I3 l l.length=n:=by rw[<-Xh,htq,ct]
   rw[Hn];exact CJ (by rw[ct])
 ·obtain ⟨m,rfl⟩ : ∃ m,n=m+1:=⟨n-1,O'⟩
  obtain ⟨x,hx⟩:=H' l m;have qy:x=0:=by
   rcases Classical.em (x=0) with h|h
   ·exact h
   ·exact (hz (Or.inr ⟨m,x,rfl,hx,h⟩)).elim
  have dv:l[((m+1:Nat)-1:Int).toNat]? = some x:=by rw[show ((m+1:Nat)-1:Int).toNat=m by omega];exact hx
  have Ha:=WK N.toa5 (hl.at hx) O';have hs:=MV (x:=x);generalize o3 x.num=s at *;have hS : ∀ v,l[((m+1:Nat)-1:Int).toNat]? = some v->Ev L 97 [.agg (eQ v)] (.int .i64 s):=λ v h=>by
   obtain rfl:=fc (dv.symm.trans h);exact Ha
  have br:=hs.2 qy;repeat' (first|(apply AG<;>intro hc<;>try omega)|(apply BS;omega)|(refine A4 V' ?_ rfl ?_;omega)|apply AE|refine AD (Ha) ?_)<;>conv=>whnf
  rw[show ((m+1:Nat):Int)-1=(m:Int) by omega];exact A9 [] (ih m O' ⟨O',by rw[p2,I3,if_pos (by rw[va,hx];exact qy)]⟩)
def BD (n:Nt):G7 where
 a:=n.next.map λ e=>(ua n.s.toNat).map λ(j:Nat)=>(BR n ((j:Int)+1) (-1)).getD e.toNat 0
 b:=n.next.map λ e=>(BR n 0 (-1)).getD e.toNat 0
 c:=(ua n.s.toNat).map λ(j:Nat)=>(BR n ((j:Int)+1) (-1)).getD n.out.toNat 0
 d:=(BR n 0 (-1)).getD n.out.toNat 0
abbrev eC:Option (K')->u_
 | none=>[.nil]
 | some l=>[.sl false (l.map eQ)]
def JS (l:J') (m:Nat):List (Option (K')):=l.map some++ya (m-l.length) none
theorem zB {l:J'} {m:Nat} (h:l.length<=m):(JS l m).length=m:=by simp [JS];omega
theorem zC {l:J'} {m:Nat} {x:K'} (h:l.length<m):(JS l m).set l.length (some x)=JS (l++[x]) m:=by
 unfold JS;rw[eb _ _ Z'];obtain ⟨k,hk⟩ : ∃ k,m-l.length=k+1:=⟨m-l.length-1,O'⟩;rw[hk,Qb,Kb,ze,tc,re,ef,show m-(l.length+1)=k by omega];simp
theorem nE {α:Type} (a b:α) {t m:Nat} (_:t<=m) (h:t<m):(ya t a++ya (m-t) b).set t a=ya (t+1) a++ya (m-(t+1)) b:=by
 obtain ⟨k,hk⟩ : ∃ k,m-t=k+1:=⟨m-t-1,O'⟩;rw[eb _ _ Z',hk,Rb,Kb,ze,tc,show m-(t+1)=k by omega,ec,nc];rfl
def fz {α:Type} (z:α) (l:List α) (m:Nat):List α:=l++ya (m-l.length) z
theorem K9 {α:Type} {z:α} {l:List α} {m:Nat} (h:l.length<=m):(fz z l m).length=m:=by simp [fz];omega
theorem zN {α:Type} (z:α) (l:List α) (m:Nat):(fz z l m).length=l.length+(m-l.length):=by simp [fz]
theorem LA {α:Type} {z x:α} {l:List α} {m:Nat} (h:l.length<m):(fz z l m).set l.length x=fz z (l++[x]) m:=by
 unfold fz;obtain ⟨k,hk⟩ : ∃ k,m-l.length=k+1:=⟨m-l.length-1,O'⟩;rw[eb _ _ Z',hk,Kb,ze,tc,re,ef,show m-(l.length+1)=k by omega,nc];rfl
theorem nP {α:Type} {z:α} {l:List α} {m:Nat} (h:l.length<m):(fz z l m)[l.length]? = some z:=by
 unfold fz;rw[Ca O',Kb,ud,if_pos O']
theorem K8 {α:Type} {z:α} {l:List α} {m:Nat} (h:l.length=m):fz z l m=l:=by simp [fz,h]
theorem zA (l:J'):(JS l l.length).map eC=l.map λ c=>[AV.sl false (c.map eQ)]:=by
 simp [JS,bf]
def G8 (n:Nt) (i:Nat):J':=(ua i).map λ(j:Nat)=>BR n (j:Int) (-1)
theorem uW (n:Nt) (i:Nat):G8 n (i+1)=G8 n i++[BR n (i:Int) (-1)]:=by simp [G8,Qc]
theorem OG (n:Nt) (i:Nat):(G8 n i).length=i:=by simp [G8]
theorem Tf {α:Type} {l:List α} {i:Nat} {x:α} (h:l[i]? = some x):l.set i x=l:=by
 refine Pb λ j => ?_
 rw[Ka];split
 ·rename_i e;subst e
  rw[h];split
  ·rfl
  ·rename_i h2;rw[Oa O']at h;cases h
 ·rfl
theorem NV {α:Type} {l:List α} {i:Nat} {x:α} (h:l[i]? = some x):l.take (i+1)=l.take i++[x]:=by
 rw[ke,h];rfl
theorem RJ (n:Nt) (src ex:Int):(BR n src ex).length=(1+n.s).toNat+n.nodes.length:=by
 simp only[BR,fH,NW,CR,Qb]
theorem RI (n:Nt) (src ex:Int) (h2:WV n.c) (cr:K3 (CR n)) (ju:n.nodes.length<=5):Bs 117150 (BR n src ex):=by
 have j9:(CR n).length=n.nodes.length:=by simp [CR]
 have tf:=HF n.c.f;have nn:(pw n.c.f).natAbs<=2^24:=by
  have hf:n.c.f<24:=by unfold WV at h2;omega
  have h9:(2:Nat)^n.c.f.toNat<=2^24:=Hb O' O';rw[pw];exact_mod_cast h9
 have h:=fG (ex:=ex) tf nn (CR n) 0 (B9 (1+n.s).toNat src) cr (Bs.unit _ _ _);rw[j9,Jc]at h;intro x hx;refine (h x hx).le ?_;generalize n.nodes.length=j at ju;rcases j with _|_|_|_|_|_|j
 ·decide
 ·decide
 ·decide
 ·decide
 ·decide
 ·decide
 ·omega
theorem ta (n:Nt) (t:Nat) (j:Int) (h:0<=j/\j<=t):(G8 n (t+1))[j.toNat]? = some (BR n j (-1)):=by
 unfold G8;rw[oa,ga O',Ja,xc h.1]
theorem Ahu (I:e8 L) (N:ak L) (n:Nt) (hv:HR n=true) (cr:K3 (CR n)) (ju:n.nodes.length<=5):Ev L 146 [.agg (FG n)] (.c5 [.agg (eS (BD n)),.int .i64 0]):=by
 have hV:=eR n I N.tow6;rw[hv]at hV;have Mv:=λ(j:Int) (h:0<=j/\j<=n.s)=>nC N n j (-1) hv cr ju O' (by unfold EB;omega)
 have hO:=GZ N.toa5 0 O';rw[E7]at hv;obtain ⟨h1,h2,h3,h4,h5,h6⟩:=hv;have ml : ∀ e∈n.next,0<=e/\e<=n.s+n.nodes.length:=λ e he=>by simpa using Mb.1 h5 e he
 refine Ev.x N.IC rfl rfl ?_;repeat' (first|(apply AP;omega)|apply AE|refine AD (hV) ?_)<;>conv=>whnf
 obtain ⟨m,hm⟩ : ∃ m:Nat,n.s=m:=⟨n.s.toNat,(xc O').symm⟩;rw[hm];unfold C2;refine ⟨⟨O',O',by simp only[DX];omega,O'⟩,?_⟩;rw[show ((m:Int)+1).toNat=m+1 by omega];conv=>whnf
 skip
 refine jS 146018 146018 (m+1) rfl ?_;skip
 rw[show ya (m+1) [AV.nil]=(JS (G8 n 0) (m+1)).map eC by simp [JS,G8]];refine CE (λ i=>m+1-i) (λ(i:Nat)=>i<=m+1) (λ i=>[(21,.int .i64 i)]) (λ i=>[(146018,146018,.rw 1 ((JS (G8 n i) (m+1)).map eC))]) 0 O' ?_;intro i p1 ih;by_cases hi:i<m+1
 ·have hl:=zB (l:=G8 n i) (m:=m+1) (by rw[OG];omega)
  have g9:=zC (l:=G8 n i) (m:=m+1) (x:=BR n (i:Int) (-1)) (by rw[OG];omega);rw[OG,<-uW]at g9;have hS:=Mv i O';unfold FG at hS;rw[hm]at hS;repeat' (first|(apply AG<;>intro hc<;>try omega)|(apply AX;omega)|apply AE|refine AD (hS) ?_)<;>conv=>whnf
  refine E5 (enc:=eC) (some (BR n (i:Int) (-1))) rfl (λ e=>by cases e<;>rfl) O' ?_;conv=>whnf
  repeat' (first|(apply AP;omega)|fail)<;>conv=>whnf
  rw[g9];exact A9 [] (ih (i+1) O' O')
 ·obtain rfl:i=m+1:=O'
  clear ih;repeat' (first|(apply AG<;>intro hc<;>try omega)|apply AE)<;>conv=>whnf
  refine FV 1000 N.MD rfl rfl ?_;(repeat' (apply AE<;>conv=>whnf))
  unfold C2;refine ⟨⟨O',O',by simp only[DX];omega,O'⟩,?_⟩;rw[Ia];conv=>whnf
  have hZ:=nD N.too4 m O';refine LL (enc:=eQ) m hZ Z' ?_;conv=>whnf
  refine LL (enc:=eQ) m hZ Z' ?_;conv=>whnf
  (repeat' (refine AD (hO) ?_<;>conv=>whnf))
  refine CE (λ t=>m-t) (λ(t:Nat)=>t<=m) (λ t=>[(16,.int .i64 t)]) (λ t=>[(145006,145006,.mx (ya t (some (3,(ya m (0:Rat)).map eQ))++ya (m-t) none))]) 0 O' ?_;intro t p4 th;by_cases ht:t<m
  ·repeat' (first|(apply AG<;>intro hc<;>try omega)|apply AE)<;>conv=>whnf
   refine LL (enc:=eQ) m hZ Z' ?_;conv=>whnf
   repeat' (first|(apply AX;omega)|fail)<;>conv=>whnf
   unfold AL CS;refine ⟨Z',by simp;omega,?_⟩;conv=>whnf
   rw[show 0+((t:Int)).toNat=t by omega,nE _ _ p4 ht];repeat' (first|(apply AP;omega)|fail)<;>conv=>whnf
   exact A9 [] (th (t+1) O' O')
  obtain rfl:t=m:=O'
  clear th;have dh:=ta n t;rw[show ya t (some (3,Pf eQ (ya t 0)))++ya (t-t) none=BJ 3 eQ (fz (ya t 0) [] t) by simp [BJ,fz],show ya t (0:Rat)=fz 0 [] t by simp [fz],show (JS (G8 n (t+1)) (t+1)).map eC=(G8 n (t+1)).map λ c=>[AV.sl false (c.map eQ)] by rw[<-zA,OG]];repeat' (first|(apply AG<;>intro hc<;>try omega)|apply AE)<;>conv=>whnf
  refine ⟨rfl,?_⟩;conv=>whnf
  (repeat' (apply AR<;>conv=>whnf))
  have vg:n.s.toNat=t:=O'
  have kn:n.next.length=t:=O'
  have Nu:=OG n (t+1);refine CE (λ i=>n.next.length-i) (λ(i:Nat)=>i<=n.next.length) (λ i=>[(37,.int .i64 i)]) (λ i=>[(145006,145006,.mx (BJ 3 eQ (fz (ya t 0) ((BD n).a.take i) t))),(145008,145008,.rw 3 ((fz 0 ((BD n).b.take i) t).map eQ))]) 0 O' ?_;intro i q1 ih;by_cases hi:i<n.next.length
  ·obtain ⟨e,he⟩:=H' n.next i hi
   have dv:n.next[(i:Int).toNat]? = some e:=he
   have mn:(BD n).a[i]? = some ((ua t).map λ(j:Nat)=>(BR n ((j:Int)+1) (-1)).getD e.toNat 0):=by
    rw[<-vg];simp only[BD,oa,he,Ja]
   have Hj:(BD n).b[i]? = some ((BR n 0 (-1)).getD e.toNat 0):=by
    simp only[BD,oa,he,Ja]
   have y9:(BD n).a.length=t:=by simp [BD,kn]
   have da:(BD n).b.length=t:=by simp [BD,kn]
   have zn:((BD n).a.take i).length=i:=by rw[xa];omega
   have pz:((BD n).b.take i).length=i:=by rw[xa];omega
   have hA0:fz (ya t 0) ((BD n).a.take i) t=(fz (ya t 0) ((BD n).a.take i) t).set i (fz 0 [] t):=by
    have:=nP (z:=ya t (0:Rat)) (l:=(BD n).a.take i) (m:=t) O'
    rw[zn]at this;rw[show fz (0:Rat) [] t=ya t 0 by simp [fz]];exact (Tf this).symm
   have Gk:=LA (z:=ya t (0:Rat)) (l:=(BD n).a.take i) (m:=t) (x:=(ua t).map λ(j:Nat)=>(BR n ((j:Int)+1) (-1)).getD e.toNat 0) O';have wc:=LA (z:=(0:Rat)) (l:=(BD n).b.take i) (m:=t) (x:=(BR n 0 (-1)).getD e.toNat 0) O';rw[zn,<-NV mn]at Gk;rw[pz,<-NV Hj]at wc;have hAl:=K9 (z:=ya t (0:Rat)) (l:=(BD n).a.take i) (m:=t) O';have Jz:=K9 (z:=(0:Rat)) (l:=(BD n).b.take i) (m:=t) O';have Oh:=ml e (zM he);generalize fz (ya t 0) ((BD n).a.take i) t=A0 at *;generalize fz (0:Rat) ((BD n).b.take i) t=B0 at *;have Bi:A0=A0.set i (fz 0 ((ua 0).map λ(j:Nat)=>(BR n ((j:Int)+1) (-1)).getD e.toNat 0) t):=hA0;repeat' (first|(apply AG<;>intro hc<;>try omega)|(refine A4 V' ?_ rfl ?_;omega)|apply AE)<;>conv=>whnf
   refine DF (λ j=>t-j) (λ(j:Nat)=>j<=t) (λ j=>[(44,.int .i64 j)]) (λ j=>[(145006,145006,.mx (BJ 3 eQ (A0.set i (fz 0 ((ua j).map λ(j:Nat)=>(BR n ((j:Int)+1) (-1)).getD e.toNat 0) t))))]) [] [] 0 (by first|exact B'|(rw[<-Bi];exact B')) O' ?_;intro j q2 jh;have l9:((ua j).map λ(j:Nat)=>(BR n ((j:Int)+1) (-1)).getD e.toNat 0).length=j:=Z'
   by_cases hj:j<t
   ·have eg:=dh ((j:Int)+1) O'
    have lv:=RJ n ((j:Int)+1) (-1);have lu:=RI n ((j:Int)+1) (-1) h2 cr O';obtain ⟨x,hx⟩ : ∃ x,(BR n ((j:Int)+1) (-1))[e.toNat]? = some x:=⟨_,zE O'⟩;have jj:(BR n ((j:Int)+1) (-1)).getD e.toNat 0=x:=by rw[va,hx];rfl
    have hT:=K7 N.toa5 (lu.at hx) O';have js:=LA (z:=(0:Rat)) (l:=(ua j).map λ(j:Nat)=>(BR n ((j:Int)+1) (-1)).getD e.toNat 0) (m:=t) (x:=x) O';have qm:=K9 (z:=(0:Rat)) (l:=(ua j).map λ(j:Nat)=>(BR n ((j:Int)+1) (-1)).getD e.toNat 0) (m:=t) O';rw[l9,show ((ua j).map λ(j:Nat)=>(BR n ((j:Int)+1) (-1)).getD e.toNat 0)++[x]=(ua (j+1)).map λ(j:Nat)=>(BR n ((j:Int)+1) (-1)).getD e.toNat 0 by rw[Qc,Kd,Ec,jj]]at js;have Fo:(A0.set i (fz 0 ((ua j).map λ(j:Nat)=>(BR n ((j:Int)+1) (-1)).getD e.toNat 0) t))[i]? = some (fz 0 ((ua j).map λ(j:Nat)=>(BR n ((j:Int)+1) (-1)).getD e.toNat 0) t):=by
     rw[Ka,if_pos rfl,if_pos O']
    have xq:(A0.set i (fz 0 ((ua j).map λ(j:Nat)=>(BR n ((j:Int)+1) (-1)).getD e.toNat 0) t)).length=t:=by rw[Jd];omega
    repeat' (first|(apply AG<;>intro hc<;>try omega)|(apply AX;omega)|(apply AP;omega)|(refine LO ?_ (λ_=>rfl) (λ v hv => ?_);omega)|(refine GG ?_ (λ r hr => ?_);omega)|apply AE)<;>conv=>whnf
    cases Fo.symm.trans hr;cases eg.symm.trans hv;repeat' (first|(refine A4 V' ?_ rfl ?_;omega)|refine AD (hT) ?_)<;>conv=>whnf
    refine AX E' ?_;conv=>whnf
    repeat' (first|refine GX V' ?_|fail)<;>conv=>whnf
    refine E5 (enc:=eQ) x rfl (λ_=>rfl) O' ?_;conv=>whnf
    rw[js];refine ZQ (by simp only[zN , l9,Qb,kg];omega) ?_;rw[uh];conv=>whnf
    repeat' (first|(apply AP;omega)|fail)<;>conv=>whnf
    exact A9 [] (jh (j+1) O' O')
   ·obtain rfl:j=t:=O'
    clear jh;rw[K8 l9,Gk];have eg:=dh 0 O';have lv:=RJ n 0 (-1);have lu:=RI n 0 (-1) h2 cr O';obtain ⟨x,hx⟩:=H' (BR n 0 (-1)) e.toNat;have jj:(BR n 0 (-1)).getD e.toNat 0=x:=by rw[va,hx];rfl
    rw[jj]at wc;have hT:=K7 N.toa5 (lu.at hx) O';repeat' (first|(apply AG<;>intro hc<;>try omega)|(apply AX;omega)|(refine LO ?_ (λ_=>rfl) (λ v hv => ?_);omega)|apply AE)<;>conv=>whnf
    cases eg.symm.trans hv;repeat' (first|(apply AX;omega)|(refine A4 V' ?_ rfl ?_;omega)|refine AD (hT) ?_)<;>conv=>whnf
    refine E5 (enc:=eQ) x rfl (λ_=>rfl) O' ?_;conv=>whnf
    rw[wc];repeat' (first|(apply AP;omega)|fail)<;>conv=>whnf
    exact A9 [] (ih (i+1) O' O')
  ·obtain rfl:i=n.next.length:=O'
   clear ih;have y9:(BD n).a.length=t:=by simp [BD,kn]
   have da:(BD n).b.length=t:=by simp [BD,kn]
   rw[zT (show (BD n).a.length<=n.next.length by omega),zT (show (BD n).b.length<=n.next.length by omega),K8 y9,K8 da];repeat' (first|(apply AG<;>intro hc<;>try omega)|apply AE)<;>conv=>whnf
   refine CE (λ j=>t-j) (λ(j:Nat)=>j<=t) (λ j=>[(78,.int .i64 j)]) (λ j=>[(145010,145010,.rw 3 ((fz 0 ((ua j).map λ(j:Nat)=>(BR n ((j:Int)+1) (-1)).getD n.out.toNat 0) t).map eQ))]) 0 O' ?_;intro j q2 jh;have l9:((ua j).map λ(j:Nat)=>(BR n ((j:Int)+1) (-1)).getD n.out.toNat 0).length=j:=Z'
   by_cases hj:j<t
   ·have eg:=dh ((j:Int)+1) O'
    have lv:=RJ n ((j:Int)+1) (-1);have lu:=RI n ((j:Int)+1) (-1) h2 cr O';obtain ⟨x,hx⟩ : ∃ x,(BR n ((j:Int)+1) (-1))[n.out.toNat]? = some x:=⟨_,zE O'⟩;have jj:(BR n ((j:Int)+1) (-1)).getD n.out.toNat 0=x:=by rw[va,hx];rfl
    have hT:=K7 N.toa5 (lu.at hx) O';have js:=LA (z:=(0:Rat)) (l:=(ua j).map λ(j:Nat)=>(BR n ((j:Int)+1) (-1)).getD n.out.toNat 0) (m:=t) (x:=x) O';have qm:=K9 (z:=(0:Rat)) (l:=(ua j).map λ(j:Nat)=>(BR n ((j:Int)+1) (-1)).getD n.out.toNat 0) (m:=t) O';rw[l9,show ((ua j).map λ(j:Nat)=>(BR n ((j:Int)+1) (-1)).getD n.out.toNat 0)++[x]=(ua (j+1)).map λ(j:Nat)=>(BR n ((j:Int)+1) (-1)).getD n.out.toNat 0 by rw[Qc,Kd,Ec,jj]]at js;repeat' (first|(apply AG<;>intro hc<;>try omega)|(apply AX;omega)|(apply AP;omega)|(refine LO ?_ (λ_=>rfl) (λ v hv => ?_);omega)|apply AE)<;>conv=>whnf
    cases eg.symm.trans hv;repeat' (first|(apply AX;omega)|(refine A4 V' ?_ rfl ?_;omega)|refine AD (hT) ?_)<;>conv=>whnf
    refine E5 (enc:=eQ) x rfl (λ_=>rfl) O' ?_;conv=>whnf
    rw[js];repeat' (first|(apply AP;omega)|fail)<;>conv=>whnf
    exact A9 [] (jh (j+1) O' O')
   ·obtain rfl:j=t:=O'
    clear jh;rw[K8 l9];have eg:=dh 0 O';have lv:=RJ n 0 (-1);have lu:=RI n 0 (-1) h2 cr O';obtain ⟨x,hx⟩:=H' (BR n 0 (-1)) n.out.toNat;have jj:(BR n 0 (-1)).getD n.out.toNat 0=x:=by rw[va,hx];rfl
    have hT:=K7 N.toa5 (lu.at hx) O';have hd:(BD n).d=x:=jj;have w7:(BD n).c=(ua j).map λ(j:Nat)=>(BR n ((j:Int)+1) (-1)).getD n.out.toNat 0:=by rw[BD,vg]
    rw[<-w7];repeat' (first|(apply AG<;>intro hc<;>try omega)|(apply AX;omega)|(refine LO ?_ (λ_=>rfl) (λ v hv => ?_);omega)|apply AE)<;>conv=>whnf
    cases eg.symm.trans hv;repeat' (first|(refine A4 V' ?_ rfl ?_;omega)|refine AD (hT) ?_)<;>conv=>whnf
    have lg:(BD n).c.length=j:=by rw[w7,l9]
    refine H1 (λ_=>rfl) rfl y9.symm ?_;conv=>whnf
    refine C8 (enc:=eQ) (λ_=>rfl) rfl da.symm ?_;conv=>whnf
    refine C8 (enc:=eQ) (λ_=>rfl) rfl lg.symm ?_;conv=>whnf
    refine AY (by rw[<-hd];rfl) ?_;simp only[A3,B7,and_true];exact V6 (BD n)
def cf (l:K') (prev:List (Option Rat)) (i:Nat):List (Option Rat):=(l.take i).map some++prev.drop i
def ot (P:J') (n j i:Nat):List (List (Option Rat)):=(ua P.length).map λ r=>FH ((P.getD r []).take (if r<i then j+1 else j)) n
theorem bB (P:J') (n j i:Nat):(ot P n j i).length=P.length:=by simp [ot]
theorem Aja {P:J'} {i:Nat} {row:K'} (h:P[i]? = some row):P.getD i []=row:=by rw[va,h];rfl
theorem gZ {P:J'} {n j i r:Nat} {row:K'} (h:P[r]? = some row):(ot P n j i)[r]? = some (FH (row.take (if r<i then j+1 else j)) n):=by
 have h1:=(zS h).1;simp only[ot,oa,ga h1,Ja,Aja h]
theorem Alr {P:J'} {n j i:Nat} {row:K'} (h:P[i]? = some row):(ot P n j i).set i (FH (row.take (j+1)) n)=ot P n j (i+1):=by
 refine Pb λ r => ?_
 rw[Ka,bB];cases e:P[r]? with
 | none =>
  have h1:=Ie.1 e;have h2:=(zS h).1;rw[Oa (by rw[bB];exact h1),if_neg O',Oa (by rw[bB];exact h1)]
 | some rw' =>
  rw[gZ e,gZ e];by_cases hi:i=r
  ·subst hi
   obtain rfl:=fc (h.symm.trans e);have h2:=(zS h).1;rw[if_pos rfl,if_pos h2,if_pos O']
  ·rw[if_neg hi]
   by_cases h3:r<i
   ·rw[if_pos h3,if_pos O']
   ·rw[if_neg h3,if_neg O']
theorem Alq (P:J') (n j:Nat):ot P n j P.length=ot P n (j+1) 0:=by
 refine yb λ r hr => ?_
 rw[if_pos (gb.1 hr),if_neg O']
theorem Als (P:J') (n:Nat):ot P n 0 0=ya P.length (FH [] n):=by
 refine Pb λ r => ?_
 simp only[ot,oa,ud];by_cases h:r<P.length
 ·rw[ga h,if_pos h];simp
 ·rw[Oa G',if_neg h];rfl
theorem Alp {P:J'} {n:Nat} (h : ∀ r∈P,r.length=n):BJ 3 eO (ot P n n 0)=BJ 3 eQ P:=by
 refine Pb λ r => ?_
 simp only[BJ,oa];cases e:P[r]? with
 | none=>rw[Oa (by rw[bB];exact Ie.1 e)];rfl
 | some row =>
  have hl:=h row (zM e);rw[gZ e,if_neg O',zT O'];simp only[Ja,SN hl]
def mz (Q:J') (n i:Nat):List (P'):=fz none (BJ 3 eQ (Q.take i)) n
theorem gL {Q:J'} {n i:Nat} (hi:i<=n):(mz Q n i).length=n:=by
 refine K9 ?_;simp only[BJ,Qb,xa];omega
theorem gO (Q:J') (n:Nat):mz Q n 0=ya n none:=by simp [mz,fz]
theorem gN {Q:J'} {n i:Nat} {row:K'} (h:Q[i]? = some row) (hi:i<n):(mz Q n i).set i (some (3,row.map eQ))=mz Q n (i+1):=by
 have h1:=(zS h).1;have hl:(BJ 3 eQ (Q.take i)).length=i:=by simp only[BJ,Qb,xa];omega
 have:=LA (z:=none) (l:=BJ 3 eQ (Q.take i)) (m:=n) (x:=some (3,row.map eQ)) O'
 rw[hl]at this;rw[mz,this,mz,NV h];simp [BJ]
theorem gK {Q:J'} {n:Nat} (h:Q.length=n):mz Q n n=BJ 3 eQ Q:=by
 rw[mz,zT O'];exact K8 (by simp [BJ,h])
abbrev DC (q:Bool) (m:J'):o_:=m.map λ r=>[AV.sl q (r.map eQ)]
theorem JO (m:J') (e:Int):A3 (.c5 [.sl false (eM m),.int .i64 e]):=by
 simp only[A3,B7,and_true,true_and];exact kX m
def cw (n:Nat) (v:K'):List (Option Rat):=ya (n-v.length) none++v.map some
theorem vA {n:Nat} {v:K'} (h:v.length<=n):(cw n v).length=n:=by simp [cw];omega
theorem AfY (n:Nat):cw n []=ya n none:=by simp [cw]
theorem AfW {n s:Nat} {v:K'} {x:Rat} (h:v[s]? = some x):(cw n v)[n-v.length+s]? = some (some x):=by
 rw[cw,Ca Z',Rb,Nat.add_sub_cancel_left,oa,h];rfl
theorem AfZ {n:Nat} {v:K'} {x:Rat} (h:v.length<n):(cw n v).set (n-(v.length+1)) (some x)=cw n (x::v):=by
 obtain ⟨k,hk⟩ : ∃ k,n-v.length=k+1:=⟨n-v.length-1,O'⟩;have e:n-(v.length+1)=k:=O'
 simp only[cw,hk,ae,e];rw[ec,nc,eb _ _ Z',Rb,Kb];rfl
theorem AfX {n:Nat} {v:K'} (h:v.length=n):(cw n v).map eO=v.map eQ:=by
 simp [cw,h,bf]
theorem S3 {l:K'} {i:Nat} (h:i<l.length):l[i]? = some (l.getD i 0):=by
 rw[va,zE h];rfl
theorem AhG (N:u9 L) (q q':Bool) (m:J') (n W c S:Nat) (l:Rat) (hm:m.length=n) (hW : ∀ r∈m,r.length=W) (hn:1<=n/\n<=1000) (hnW:n<=W) (hc:c<W) (Nb:W<=100000)
  (hd : ∀ (k:Nat) (r:K'),m[k]? = some r->r.getD k 0≠0) (lk:Ms S m) (hl:Bt S l) {C:Nat->Nat} (hC : ∀ k,Bs (C k) (ET c l (m.drop k) k)) (hB : ∀ k,k<n->3*S+n*(S+C (k+1)+1)<=1000000000000):Ev L 234 [.sl q (DC q' m),.int .i64 c,.agg (eQ l)] (.sl false ((ET c l m 0).map eQ)):=by
 have hS:S<2199023255552:=by
  have:=hB 0 O'
  omega
 refine Ev.x N.L3 rfl rfl ?_;repeat' (first|apply AR|apply AE)<;>conv=>whnf
 refine DW (enc:=eO) none n rfl O' O' ?_;conv=>whnf
 repeat' (first|(apply BS;omega)|apply AR)<;>conv=>whnf
 rw[hm];refine DF (λ k=>k) (λ(k:Nat)=>k<=n) (λ k=>[(8,.int .i64 ((k:Int)-1))]) (λ k=>[(13,13,.rw 3 ((cw n (ET c l (m.drop k) k)).map eO))]) [] [] n (by first|exact B'|(rw[Na O',ET,AfY];exact B')) O' ?_;intro k p1 kh;rcases k with _|k
 ·clear kh
  rw[Ma,AfX (by rw[QH];exact hm)];repeat' (first|(apply AG<;>intro hc<;>try omega)|apply AE)<;>conv=>whnf
  refine C8 (enc:=eQ) (λ_=>rfl) rfl (by rw[QH];omega) ?_;conv=>whnf
  exact AY rfl (by simp only[A3,true_and];exact KA _)
 ·obtain ⟨r,hr⟩:=H' m k
  have ja:m[(k:Int).toNat]? = some r:=hr;have bh:=hW r (zM hr);have e1:((k+1:Nat):Int)-1=k:=O'
  have hv:ET c l (m.drop k) k=(r.getD c 0*l-AZ (r.drop (k+1)) (ET c l (m.drop (k+1)) (k+1)))/r.getD k 0::ET c l (m.drop (k+1)) (k+1):=by
   obtain ⟨h1,h2⟩:=zS hr;rw[xb h1,ET,h2]
  have gd:(ET c l (m.drop (k+1)) (k+1)).length=n-(k+1):=by rw[QH,Qg,hm]
  have ji:=hC (k+1);have hB2:=hB k O';have jg:=lk.at hr;have Fk:r[(c:Int).toNat]? = some (r.getD c 0):=S3 O';have Fl:r[(k:Int).toNat]? = some (r.getD k 0):=S3 O';have Qh:=hd k r hr;have bc:=jg.at Fk;have bk:=jg.at Fl;have hM:=H7 N.toa5 bc hl hS hS;generalize ow:r.getD c 0=rc at *;generalize AAW:r.getD k 0=rk at *;generalize ET c l (m.drop (k+1)) (k+1)=v at *;generalize C (k+1)=X at *;rw[e1];repeat' (first|(apply AG<;>intro hc<;>try omega)|(apply AP;omega)|(refine A4 V' ?_ rfl ?_;omega)|apply AE|refine AD (hM) ?_)<;>conv=>whnf
  refine FJ (λ s _=>n-s) (λ(s:Nat) (acc:Rat)=>k+1+s<=n/\acc=rc*l-AZ ((r.drop (k+1)).take s) (v.take s)) (λ s _=>[(10,.int .i64 ((k+1+s:Nat):Int))]) (λ_ acc=>[(9,9,.bx (eQ acc))]) 0 (rc*l) ⟨O',by simp only[oc,AZ];grind⟩ ?_;intro s acc ⟨p2,p3⟩ sh;have bq:Bt (2*S+(n-(k+1))*(S+X+1)+1) acc:=by
   rw[p3];have h1:=AgX (k:=S) (l:=X) (a:=(r.drop (k+1)).take s) (b:=v.take s) (n:=n-(k+1)) (λ x hx=>jg x (List.mem_of_mem_drop (Da hx))) (ji.take s) F';exact ((bc.mul hl).pf h1).le O'
  have hmul:=zR (S+X+1) (show n-(k+1)+1<=n by omega);rw[Gf,Rc]at hmul;have hX:X<2199023255552:=by
   have:=mf (S+X+1) (show 0<n by omega)
   omega
  by_cases hs:k+1+s<n
  ·obtain ⟨x,hx⟩:=H' v s
   obtain ⟨y,hy⟩:=H' r (k+1+s);have vl:r[((k+1+s:Nat):Int).toNat]? = some y:=hy;have Fu:(r.drop (k+1))[s]? = some y:=by rw[Cc];exact hy
   have ni:=AfW (n:=n) hx;rw[gd,show n-(n-(k+1))+s=k+1+s by omega]at ni;have l9:=vA (n:=n) (v:=v) O';have zy:=jg.at hy
   have bx:=ji.at hx;have de:=H7 N.toa5 zy bx hS hX
   have Hd:=fA N.toq9 bq (zy.mul bx) O' (by
    have:=mf (S+X+1) (show 0<n-(k+1) by omega)
    omega)
   have Oc:=YA Fu hx;generalize cw n v=C at *;repeat' (first|(apply AG<;>intro hc<;>try omega)|(apply AX;omega)|apply AR|(refine A4 V' ?_ rfl ?_;omega)|apply AE)<;>conv=>whnf
   refine XZ (enc:=eO) (e:=some x) (by rw[Jc];exact ni) rfl ?_;conv=>whnf
   repeat' (first|(apply AP;omega)|refine AD (de) ?_|refine AD (Hd) ?_)<;>conv=>whnf
   refine BN [] B' (sh (s+1) (acc-y*x) O' ⟨O',?_⟩);rw[Oc,p3];grind
  ·obtain rfl:s=n-(k+1):=O'
   clear sh;have Oc:acc=rc*l-AZ (r.drop (k+1)) v:=by
    rw[p3,HN,V9 gd,HN]
   have hD:=aF N.toa5 bq bk O' hS Qh;have dh:=AfZ (n:=n) (v:=v) (x:=acc/rk) O';rw[gd,show n-(n-(k+1)+1)=k by omega]at dh;have l9:=vA (n:=n) (v:=v) O';rw[<-Oc]at hv;rw[<-hv]at dh;generalize cw n v=C at *;repeat' (first|(apply AG<;>intro hc<;>try omega)|(apply AX;omega)|apply AR|(refine A4 V' ?_ rfl ?_;omega)|apply AE|refine AD (hD) ?_)<;>conv=>whnf
   refine E5 (enc:=eO) (some (acc/rk)) rfl (λ e=>by cases e<;>rfl) O' ?_;conv=>whnf
   rw[dh];repeat' (first|(apply BS;omega)|fail)<;>conv=>whnf
   exact A9 [] (kh k O' O')
theorem lW:dg 1=[1]:=by rw[KB Y'];simp [FY]
theorem AhZ (N:a5 L) {s:Rat} {a l d:Nat} (q:Bool) (hs:Bt a s) (hd:d<=2^l) (ha:a<2199023255552) (hl:l<2199023255552):Ev L 99 [.agg (eQ s),.agg [.bool false,.sl false ((dg d).map AM),.sl q [[.int .u32 1]]]] (.agg (eQ (s*((d:Nat):Rat)))):=by
 have oi:Bt l ((d:Nat):Rat):=⟨by simpa using hd,by simpa using Nat.one_le_two_pow⟩;have e:=EL ((d:Nat):Rat);have h1:=(oi.sm hl).1;have h2:=(oi.sm hl).2;rw[Ng,Jg,tb,show decide ((d:Int)<0)=false by simp,lW]at e;rw[Ng,tb]at h1;rw[Jg,lW]at h2;have h:=aG N 68719476736 O' (decide (s.num<0)) false false false false q _ _ (dg d) [1] (hs.sm ha).1 (hs.sm ha).2 h1 h2;rw[EL,e]at h;exact h
theorem Zt {N i k:Nat} (hk:k<N) : ∀ t,t∈(ua N).set i k->t<N:=λ t ht=>by
 rcases List.mem_or_eq_of_mem_set ht with h|h
 ·exact gb.1 h
 ·omega
theorem Q6 {z:Nat} {m:J'} {i:Nat} {r:K'} (h:m[i]? = some r):(BJ z eQ m)[i]? = some (some (z,r.map eQ)):=by
 rw[BJ,oa,h];rfl
theorem Wa {z:Nat} {m:J'} {i j:Nat} {a b:K'}:((BJ z eQ m).set i (some (z,b.map eQ))).set j (some (z,a.map eQ))=BJ z eQ ((m.set i b).set j a):=by
 simp only[BJ,List.map_set]
theorem cQ {R:List (P')} {e z:Nat} {es:o_} {K:Nat->o_->Prop} (h:R[e]? = some (some (z,es))) (hk:K z es):BO R e K:=by
 unfold BO;exact ⟨z,es,h,hk⟩
theorem qF {α:Type} {l:List α} {i:Nat} {x:α} (h:l[i]? = some x):l.set i x=l:=by
 obtain ⟨h1,rfl⟩:=zS h;exact List.set_getElem_self h1
theorem AkN {a b:K'} {c:Nat} (hl:a.length=b.length) (h : ∀ j,j<c->a.getD j 0=0/\b.getD j 0=0):a.take c++b.drop c=b:=by
 have e:a.take c=b.take c:=by
  refine Pb λ j => ?_
  rw[qg,qg];by_cases hj:j<c
  ·rw[if_pos hj,if_pos hj]
   obtain ⟨h1,h2⟩:=h j hj;rw[va]at h1 h2;by_cases eo:j<a.length
   ·rw[zE eo,zE O']at *
    simp only[me]at h1 h2;rw[h1,h2]
   ·rw[Oa O',Oa O']
  ·rw[if_neg hj,if_neg hj]
 rw[e,ff]
theorem AkL {a b:K'} {j:Nat} {x:Rat} (hl:a.length=b.length) (hx:b[j]? = some x):(a.take j++b.drop j)[j]? = some x:=by
 have h1:=(zS hx).1;have ht:(a.take j).length=j:=by rw[xa];omega
 rw[Ca O',ht,Kb,Cc];exact hx
theorem AkM {a b:K'} {j:Nat} {y:Rat} (hl:a.length=b.length) (hy:a[j]? = some y):(a.take j++b.drop j).set j y=a.take (j+1)++b.drop (j+1):=by
 have h1:=(zS hy).1;have ht:(a.take j).length=j:=by rw[xa];omega
 rw[eb _ _ O',ht,Kb,xb O',tc,XJ hy,nc];rfl
theorem wK {m0 m a b:J'} {K n w c:Nat} {P:N'} {odd:Bool} {l:Rat} (hE:HX m0 K (n+w) n m P c odd l) (hs:ZT m0 (C1 a b)) (hl:a.length=b.length) (ha : ∀ r∈a,r.length=n) (y9:a.length=n) (gl:n<=c\/n<=P.length):P.length=n↔NS n a:=by
 have Oe:ES m (n+w) n P:=by
  have hc:=hE.cc;rcases gl with h|h
  ·obtain rfl:c=n:=O'
   exact hE.z7
  ·have h1:=hE.z7.pl
   have h2:=hE.len;have h3:=hs.1;simp only[C1,List.length_zipWith]at h3;exact hE.z7.wide O' hc
 exact AlT Oe (λ X=>(hE.ku X).trans (hs.ku X)) hl ha
end Go.c6

namespace Go.c6
open F
attribute [local irreducible] AA AF AL AC CQ AW BA A8 B3 BL CN D4 BP A1 B6 CF AB BG AH pw BV BO CS CY C2 BX CG BU CX
variable {L:Lib}
structure CK where
 n:Bool
 m:N'
 d:N'
abbrev eW (w:CK):u_:=rQ false false w.n w.m w.d
def CK.v (w:CK):Rat:=qv w.n w.m w.d
def CK.Sz (k:Nat) (w:CK):Prop:=Sm k w.m/\Sm k w.d
def qC (x:Rat):CK:=⟨decide (x.num<0),dg x.num.natAbs,dg x.den⟩
theorem Uu (x:Rat):(qC x).v=x:=EL x
section program
theorem Ah1 (N:a5 L) {w:CK} {y:Rat} {k l:Nat} (h:w.Sz k) (hy:Bt l y) (hk:k<=68719476736) (hl:l<2199023255552):Ev L 99 [.agg (eW w),.agg (eQ y)] (.agg (eQ (w.v*y))):=by
 have:=aG N 68719476736 O' w.n (decide (y.num<0)) false false false false w.m w.d _ _ (h.1.le hk) (h.2.le hk) (hy.gf hl).1 (hy.gf hl).2
 rw[EL]at this;exact this
theorem Ah2 (N:a5 L) {w:CK} {x:Rat} {k l:Nat} (hx:Bt l x) (h:w.Sz k) (hl:l<2199023255552) (hk:k<=68719476736):Ev L 99 [.agg (eQ x),.agg (eW w)] (.agg (eQ (x*w.v))):=by
 have:=aG N 68719476736 O' (decide (x.num<0)) w.n false false false false _ _ w.m w.d (hx.gf hl).1 (hx.gf hl).2 (h.1.le hk) (h.2.le hk)
 rw[EL]at this;exact this
end program
section reference
end reference
end Go.c6

namespace Go.c6
open F
attribute [local irreducible] AA AF AL AC CQ AW BA A8 B3 BL CN D4 BP A1 B6 CF AB BG AH pw BV BO CS CY C2 BX CG BU CX
variable {L:Lib}
theorem Aiv (N:jd L) (q q':Bool) (a:J') (n w:Nat) (hn:a.length=n) (hw : ∀ r∈a,r.length=w) (h1:1<=n/\n<=52) (h2:1<=w/\w<=52):Ev L 239 [.sl q (DC q' a)] (.bool true):=by
 obtain ⟨r0,s8⟩:=H' a 0;have Ar:a[(0:Int).toNat]? = some r0:=s8;have jf:=hw r0 (zM s8);refine Ev.x N.PQ rfl rfl ?_;repeat' (first|(apply AG<;>intro hc<;>try omega)|apply AR|(refine A4 V' ?_ rfl ?_;omega)|apply AE)<;>conv=>whnf
 refine CE (λ i=>n-i) (λ(i:Nat)=>i<=n) (λ i=>[(29,.int .i64 i)]) (λ_=>[]) 0 O' ?_;intro i p1 ih;by_cases hi:i<n
 ·obtain ⟨r,hr⟩:=H' a i
  have ja:a[(i:Int).toNat]? = some r:=hr;have hl:=hw r (zM hr);repeat' (first|(apply AG<;>intro hc<;>try omega)|(apply AP;omega)|apply AR|(refine A4 V' ?_ rfl ?_;omega)|apply AE)<;>conv=>whnf
  exact A9 [] (ih (i+1) O' O')
 ·obtain rfl:i=n:=O'
  clear ih;repeat' (first|(apply AG<;>intro hc<;>try omega)|apply AE)<;>conv=>whnf
  exact FB rfl
end Go.c6

namespace Go.c6
def hQ (S:G7):Nat->Rat
 | 0=>S.d
 | j+1=>AZ S.c (wQ S j)
theorem Anl {r:K'} (h:VJ r=r) (hn:r.length≠0):r.getD (r.length-1) 0≠0:=by
 have hl:=Xh r;rw[h]at hl;obtain ⟨n,py⟩ : ∃ n,r.length=n+1:=⟨r.length-1,O'⟩;rw[py,I3]at hl;rw[py,Nat.add_sub_cancel];intro h0;rw[if_pos h0]at hl;have:=Z7 r n
 omega
def CW (x:Rat):Rat:=if x.num<0 then -x else x
end Go.c6

namespace Go.c6
theorem Wh.of_dvd {k S T:Nat} {x:Rat} (hT:1<=T) (h:Wh k (((S*T:Nat):Rat)*x)) (hz : ∃ z:Int,x*(S:Rat)=(z:Rat)):Wh k (x*(S:Rat)):=by
 obtain ⟨z,hz⟩:=hz;obtain ⟨u,hu,hb⟩:=h;refine ⟨z,hz,?_⟩;have e:((z*(T:Int):Int):Rat)=(u:Rat):=by
  rw[Rat.intCast_mul,<-hz,<-hu,Rat.natCast_mul,Af];grind
 have e2:=Rat.intCast_inj.1 e;have:z.natAbs*T=u.natAbs:=by rw[<-e2,xd,tb]
 have h2:z.natAbs<=z.natAbs*T:=cd _ O';omega
theorem Yn {M k m:Nat} {l:K'} (hM:1<=M) (hm:M<=2^m) (h : ∀ x∈l,Wh k ((M:Rat)*x)):Wh m (C7 l) /\ ∀ x∈l,Wh k (x*C7 l):=by
 obtain ⟨S,e,⟨T,hT⟩,hz⟩:=Amw (M:=M) (l:=l) λ x hx=>by
  obtain ⟨z,hz,_⟩:=h x hx;exact ⟨z,hz⟩
 have My:1<=T:=by
  rcases pc T with h0|h0
  ·rw[h0]at hT;omega
  ·exact h0
 refine ⟨⟨(S:Int),by rw[e,Af],?_⟩,λ x hx => ?_⟩
 ·rw[tb]
  have:S<=S*T:=cd _ O'
  omega
 ·have h1:=h x hx
  rw[hT]at h1;rw[e];exact Wh.of_dvd My h1 (by rw[<-e];exact hz x hx)
section
variable {M ky:Nat} {g:List Pt}
end
end Go.c6

namespace Go.c6
def DS (n:Nt) (k:Int):G7 where
 a:=(BD n).a
 b:=n.next.map λ e=>(BR n (-1) k).getD e.toNat 0
 c:=(BD n).c
 d:=(BR n (-1) k).getD n.out.toNat 0
theorem kY (e:Int):A3 (.c5 [.agg [.sl false [],.sl false [],.sl false [],.bool false,.sl false [],.sl false []],.int .i64 e]):=by
 simp [A3,B7,EZ]
def LY (n:Nt) (k:Int):AV:=if 0<=k/\k<n.nodes.length then .c5 [.agg (eS (DS n k)),.int .i64 0] else .c5 [.agg [.sl false [],.sl false [],.sl false [],.bool false,.sl false [],.sl false []],.int .i64 1]
theorem Rz {a b:K'} {i:Nat} {x:Rat} (h:a[i]? = some x) (hb:i<b.length):(a.take i++b.drop i).set i x=a.take (i+1)++b.drop (i+1):=by
 have hl:=(zS h).1;have ht:(a.take i).length=i:=by rw[xa];omega
 rw[eb _ _ O',ht,Kb,xb hb,tc,ke,h,nc];rfl
end Go.c6

namespace Go.c6
open F
attribute [local irreducible] AA AF AL AC CQ AW BA A8 B3 BL CN D4 BP A1 B6 CF AB BG AH pw BV BO CS CY C2 BX CG BU CX
variable {L:Lib}
set_option maxRecDepth 8000
theorem AiK (N:q8 L) (m:Nat) (hm:m<=65536):LM L 206 [.int .i64 (m:Int)] 3 ((ya m (0:Rat)).map eQ):=by
 have hO:=GZ N.toa5 0 O';refine LM.x N.P4 rfl rfl ?_;(repeat' (apply AE<;>conv=>whnf))
 refine DW (enc:=eO) none m rfl rfl O' ?_;conv=>whnf
 skip
 refine DF (λ i=>m-i) (λ(i:Nat)=>i<=m) (λ i=>[(8,.int .i64 i)]) (λ i=>[(6,6,.rw 3 ((FH (ya i 0) m).map eO))]) [] [] 0 (by first|exact B'|(rw[<-SP];exact B')) O' ?_;intro i p1 ih;by_cases hi:i<m
 ·have hl:=QU (l:=ya i (0:Rat)) (m:=m) G'
  have hs:=SR (l:=ya i (0:Rat)) (m:=m) (x:=0) G';rw[Rb]at hs;repeat' (first|(apply AG<;>intro hc<;>try omega)|(apply AX;omega)|apply AE|refine AD (hO) ?_)<;>conv=>whnf
  refine E5 (enc:=eO) (some 0) rfl (λ e=>by cases e<;>rfl) O' ?_;conv=>whnf
  repeat' (first|(apply AP;omega)|fail)<;>conv=>whnf
  rw[hs];rw[show ya i (0:Rat)++[0]=ya (i+1) 0 by rw[ec]];exact A9 [] (ih (i+1) O' O')
 obtain rfl:i=m:=O'
 clear ih;rw[SN Z'];repeat' (first|(apply AG<;>intro hc<;>try omega)|apply AE)<;>conv=>whnf
 exact ⟨rfl,rfl,Z',rfl,KA _⟩
theorem nB (N:q8 L) (q:Bool) (l:K') (i:Int) (k:Nat) (h0:0<=i) (hl:Bs k l) (hk:k<2199023255552) (hn:l.length<=1000000):Ev L 205 [.sl q (l.map eQ),.int .i64 i] (.agg (eQ (l.getD i.toNat 0))):=by
 have hO:=GZ N.toa5 0 O';refine Ev.x N.VH rfl rfl ?_;by_cases hi:i<l.length
 ·obtain ⟨x,hx⟩:=H' l i.toNat
  have hT:=K7 N.toa5 (hl.at hx) hk;rw[nQ hx];repeat' (first|(apply AG<;>intro hc<;>try omega)|apply AR|(refine A4 V' ?_ rfl ?_;omega)|apply AE|refine AD (hT) ?_)<;>conv=>whnf
  exact AY rfl (DK _)
 ·rw[Ai5 (l:=l) O']
  repeat' (first|(apply AG<;>intro hc<;>try omega)|apply AR|apply AE|refine AD (hO) ?_)<;>conv=>whnf
  exact AY rfl (DK _)
theorem yK (N:q8 L) (q:Bool) (l:K') (k:Nat) (ht:VJ l=l) (hl:Bs k l) (hk:k<2199023255552) (hn:l.length<=1000000):Ev L 204 [.sl q (l.map eQ)] (.int .i64 ((l.length-1:Nat):Int)):=by
 refine Ev.x N.P3 rfl rfl ?_;repeat' (first|(apply BS;omega)|apply AR|apply AE)<;>conv=>whnf
 refine F8 ?_;by_cases h2:l.length<=1
 ·repeat' (first|(apply AG<;>intro hc<;>try omega)|apply AE)<;>conv=>whnf
  exact CJ O'
 ·obtain ⟨x,hx⟩:=H' l (l.length-1)
  have dv:l[((l.length:Int)-1).toNat]? = some x:=by rw[show ((l.length:Int)-1).toNat=l.length-1 by omega];exact hx
  have Lj:=Anl ht O';rw[nQ hx]at Lj;have hS:=WK N.toa5 (hl.at hx) hk;have hs:=MV (x:=x);generalize o3 x.num=s at *;have br:s≠0:=λ h=>Lj (hs.1 h)
  repeat' (first|(apply AG<;>intro hc<;>try omega)|(refine A4 V' ?_ rfl ?_;omega)|apply AE|refine AD (hS) ?_)<;>conv=>whnf
  exact CJ O'
theorem AiC (N:q8 L) (q1 q2:Bool) (B A:K') (k:Nat) (hB:Bs k B) (hA:Bs k A) (hk:k<2199023255552) (lB:B.length<=49) (lA:A.length<=49) (h0:A[0]? = some 1):Ev L 201 [.agg [.sl q1 (B.map eQ),.sl q2 (A.map eQ)]] (.bool true):=by
 have c1:=Z7 B B.length;have c2:=Z7 A A.length;have wg:=xU N q1 B k hB hk O';have wi:=xU N q2 A k hA hk O';have hO:=GZ N.toa5 1 O';have hC:=xB N (Bt.one 1) (Bt.one 1) O' O';rw[iT.2 rfl]at hC;have hAl:0<A.length:=(zS h0).1;have Ab:A[(0:Int).toNat]? = some 1:=h0;generalize I3 B B.length=d1 at *;generalize I3 A A.length=d2 at *;refine Ev.x N.U8 rfl rfl ?_;repeat' (first|(apply AG<;>intro hc<;>try omega)|apply AR|(refine A4 V' ?_ rfl ?_;omega)|apply AE|refine AD (wg) ?_|refine AD (wi) ?_|refine AD (hO) ?_|refine AD (hC) ?_)<;>conv=>whnf
 exact FB rfl
theorem P6 {α:Type} {l:List α} {i:Nat} {x:α} (h:l[i]? = some x):l.take (i+1)=l.take i++[x]:=by
 rw[ke,h];rfl
theorem Afo (S:G7) (e:Int):A3 (.c5 [.agg (eS S),.int .i64 e]):=by
 have:=V6 S
 simp only[A3,B7,true_and,and_true]at this ⊢;exact this
theorem uV {a:J'} {i j:Nat} {r:K'} {x:Rat} (hr:a[j]? = some r) (hx:r[i]? = some x):(DI a i)[j]? = some x:=by
 simp only[DI,oa,hr,Ja,nQ hx]
theorem cS {R:List (P')} {e:Nat} {r:P'} {K:P'->Prop} (h:R[e]? = some r) (hk:K r):BV R e K:=by
 unfold BV;exact ⟨r,h,hk⟩
def ZA (n:Nt) (inj:Int) (j:Nat):Int:=if j<n.s.toNat then (j:Int)+1 else if inj<0 then 0 else -1
def LW (n:Nt) (inj:Int) (j:Nat):Int:=if j<n.s.toNat then -1 else if inj<0 then -1 else inj
def FX (n:Nt) (inj:Int) (k j:Nat):K':=GK ((pw n.c.f:Int):Rat) (LW n inj j) 0 (B9 (1+n.s).toNat (ZA n inj j)) ((CR n).take k)
def EM (n:Nt) (inj:Int) (k m:Nat):K':=(ua (n.s.toNat+1)).map λ j=>(FX n inj k j).getD m 0
def HC (n:Nt) (inj:Int) (k:Nat):J':=(ua ((1+n.s).toNat+k)).map (EM n inj k)
def FR (n:Nt) (inj:Int) (k:Nat) (ts:List (Int × Int)) (t:Nat):K':=(ua (n.s.toNat+1)).map λ j=>E4 (FX n inj k j) (ts.take t)/((pw n.c.f:Int):Rat)
theorem lG (n:Nt) (inj:Int) (k j:Nat) (hk:k<=n.nodes.length):(FX n inj k j).length=(1+n.s).toNat+k:=by
 simp only[FX,fH,NW,xa,CR,Qb];omega
theorem XB (n:Nt) (inj:Int) (k m:Nat):(EM n inj k m).length=n.s.toNat+1:=by simp [EM]
theorem iP (n:Nt) (inj:Int) (k:Nat):(HC n inj k).length=(1+n.s).toNat+k:=by simp [HC]
theorem uT (n:Nt) (inj:Int) (k j:Nat) (h2:WV n.c) (cr:K3 (CR n)) (hk:k<=n.nodes.length) (ju:n.nodes.length<=5):Bs 117150 (FX n inj k j):=by
 have j9:(CR n).length=n.nodes.length:=by simp [CR]
 have tf:=HF n.c.f;have nn:(pw n.c.f).natAbs<=2^24:=by
  have hf:n.c.f<24:=by unfold WV at h2;omega
  have h9:(2:Nat)^n.c.f.toNat<=2^24:=Hb O' O';rw[pw];exact_mod_cast h9
 have h:=fG (ex:=LW n inj j) tf nn ((CR n).take k) 0 (B9 (1+n.s).toNat (ZA n inj j)) ⟨λ ts h=>cr.len ts (Da h),λ ts h=>cr.cf ts (Da h)⟩ (Bs.unit _ _ _);rw[xa,j9,uc hk,Jc]at h;intro x hx;refine (h x hx).le ?_;rcases k with _|_|_|_|_|_|k
 ·decide
 ·decide
 ·decide
 ·decide
 ·decide
 ·decide
 ·omega
theorem uU (n:Nt) (inj:Int) (k j:Nat) {ts:List (Int × Int)} (h:(CR n)[k]? = some ts):FX n inj (k+1) j=FX n inj k j++[E4 (FX n inj k j) ts/((pw n.c.f:Int):Rat)+(if (k:Int)=LW n inj j then 1 else 0)]:=yR _ _ _ _ k ts h
theorem Al9 (n:Nt) (inj:Int) (hs:0<=n.s):EM n inj 0 0=B9 (n.s.toNat+1) (if inj<0 then n.s else -1):=by
 simp only[EM,FX,oc,GK,B9];refine yb λ j hj => ?_
 have hj:=gb.1 hj;rw[va,oa,ga O'];simp only[Ja,me,ZA];congr 1;rw[eq_iff_iff];split<;>split<;>omega
theorem Al8 (n:Nt) (inj:Int) (i:Nat) (hs:0<=n.s) (hi:i<n.s.toNat):EM n inj 0 (i+1)=B9 (n.s.toNat+1) (i:Int):=by
 simp only[EM,FX,oc,GK,B9];refine yb λ j hj => ?_
 have hj:=gb.1 hj;rw[va,oa,ga O'];simp only[Ja,me,ZA];congr 1;rw[eq_iff_iff];split
 ·omega
 ·split<;>omega
theorem Amc (n:Nt) (inj:Int) (k:Nat) {ts:List (Int × Int)} (h:(CR n)[k]? = some ts) (hk:k<n.nodes.length):HC n inj (k+1)=HC n inj k++[EM n inj (k+1) ((1+n.s).toNat+k)]:=by
 unfold HC;rw[show (1+n.s).toNat+(k+1)=((1+n.s).toNat+k)+1 by omega,Qc,Kd,Ec];congr 1;refine yb λ m hm => ?_
 have hm:=gb.1 hm;unfold EM;refine yb λ j _ => ?_
 rw[uU n inj k j h,Ajd (by rw[lG n inj k j O'];omega)]
theorem Vv (n:Nt) (inj:Int) (k:Nat) {ts:List (Int × Int)} (h:(CR n)[k]? = some ts) (hk:k<n.nodes.length) :
  EM n inj (k+1) ((1+n.s).toNat+k)=(ua (n.s.toNat+1)).map λ j=>E4 (FX n inj k j) ts/((pw n.c.f:Int):Rat)+(if (k:Int)=LW n inj j then 1 else 0):=by
 unfold EM;refine yb λ j _ => ?_
 rw[uU n inj k j h,Ajc (by rw[lG n inj k j O'])]
theorem Amb (n:Nt) (inj:Int) (k:Nat) {ts:List (Int × Int)} (h:(CR n)[k]? = some ts) (hk:k<n.nodes.length) (k7:(k:Int)≠inj):FR n inj k ts ts.length=EM n inj (k+1) ((1+n.s).toNat+k):=by
 rw[Vv n inj k h hk];unfold FR;refine yb λ j _ => ?_
 have : ¬ (k:Int)=LW n inj j:=by unfold LW;split<;>(try split)<;>omega
 rw[if_neg this,Ld,ic]
theorem Ama (n:Nt) (inj:Int) (k:Nat) {ts:List (Int × Int)} (h:(CR n)[k]? = some ts) (hk:k<n.nodes.length) (he:(k:Int)=inj) {x:Rat} (hx:(FR n inj k ts ts.length)[n.s.toNat]? = some x):(FR n inj k ts ts.length).set n.s.toNat (x+1)=EM n inj (k+1) ((1+n.s).toNat+k):=by
 rw[Vv n inj k h hk];refine Pb λ j => ?_
 rw[Ka];have hl:(FR n inj k ts ts.length).length=n.s.toNat+1:=by simp [FR]
 by_cases hj:n.s.toNat=j
 ·subst hj
  rw[if_pos rfl,if_pos O',oa,ga O'];simp only[FR,oa,ga (show n.s.toNat<n.s.toNat+1 by omega),Ja,yd,ic]at hx ⊢;have:(k:Int)=LW n inj n.s.toNat:=by unfold LW;rw[if_neg O',if_neg O'];exact he
  rw[if_pos this,hx]
 ·rw[if_neg hj]
  by_cases h2:j<n.s.toNat+1
  ·simp only[FR,oa,ga h2,Ja,ic]
   have : ¬ (k:Int)=LW n inj j:=by unfold LW;rw[if_pos O'];omega
   rw[if_neg this,Ld]
  ·rw[Oa O',Oa G']
theorem Af9 (c f:Int):Ib c (pw f)=((c:Int):Rat)/((pw f:Int):Rat):=by
 obtain ⟨d,hd⟩:=Qd (show 0<=pw f by have:=HF f;omega);rw[hd,ib,Rat.mkRat_eq_div];rfl
theorem qZ (n:Nt) (inj:Int) (k:Nat) (ts:List (Int × Int)) (t j:Nat) (hj:j<n.s.toNat+1):(FR n inj k ts t)[j]? = some (E4 (FX n inj k j) (ts.take t)/((pw n.c.f:Int):Rat)):=by
 simp only[FR,oa,ga hj,Ja]
theorem Am6 (n:Nt) (inj:Int) (k:Nat) {ts:List (Int × Int)} {t j:Nat} {e:Int × Int} (he:ts[t]? = some e) (hj:j<n.s.toNat+1) :
  (FR n inj k ts (t+1))[j]? = some (E4 (FX n inj k j) (ts.take t)/((pw n.c.f:Int):Rat)+((e.2:Int):Rat)/((pw n.c.f:Int):Rat)*(FX n inj k j).getD e.1.toNat 0):=by
 rw[qZ n inj k ts (t+1) j hj,Yb he];congr 1;simp only[Mf];grind
theorem Am7 (n:Nt) (inj:Int) (k:Nat) (ts:List (Int × Int)) {m:Nat} (hm:n.s.toNat=m):B9 (m+1) (-1)=FR n inj k ts 0:=by
 rw[FR,hm,B9];refine yb λ j _ => ?_
 rw[if_neg O',oc,E4,Mf,qh]
theorem AiQ (N:o4 L) (n:Nat) (j:Int) (hn:n<=65536):LM L 135 [.int .i64 (n:Int),.int .i64 j] 3 ((B9 n j).map eQ):=by
 have hO:=KE N.toa6 0 O';have hI:=KE N.toa6 1 O';refine LM.x N.PV rfl rfl ?_;(repeat' (apply AE<;>conv=>whnf))
 refine CE (λ i=>n-i) (λ(i:Nat)=>i<=n) (λ i=>[(6,.int .i64 i),(5,.row 5 0 3 0 i)]) (λ i=>[(5,5,.rw 3 ((B9 i j).map eQ))]) 0 O' ?_;intro i p1 ih;have hlen:=NW i j;by_cases hi:i<n
 ·have te:=Anp i j
  by_cases hj:(i:Int)=j
  ·rw[if_pos hj]at te
   repeat' (first|(apply AG<;>intro hc<;>try omega)|apply DG|apply AE|refine AD (hI) ?_)<;>conv=>whnf
   refine EE (enc:=eQ) ((1:Int):Rat) rfl hlen.symm rfl O' O' ?_;conv=>whnf
   repeat' (first|(apply AP;omega)|fail)<;>conv=>whnf
   rw[show (B9 i j++[((1:Int):Rat)]).length=i+1 by simp [hlen],show B9 i j++[((1:Int):Rat)]=B9 (i+1) j from te.symm];exact A9 [(5,18)] (ih (i+1) O' O')
  ·rw[if_neg hj]at te
   repeat' (first|(apply AG<;>intro hc<;>try omega)|apply DG|apply AE|refine AD (hO) ?_)<;>conv=>whnf
   refine EE (enc:=eQ) ((0:Int):Rat) rfl hlen.symm rfl O' O' ?_;conv=>whnf
   repeat' (first|(apply AP;omega)|fail)<;>conv=>whnf
   rw[show (B9 i j++[((0:Int):Rat)]).length=i+1 by simp [hlen],show B9 i j++[((0:Int):Rat)]=B9 (i+1) j from te.symm];exact A9 [(5,22)] (ih (i+1) O' O')
 ·obtain rfl:i=n:=O'
  clear ih;repeat' (first|(apply AG<;>intro hc<;>try omega)|apply AE)<;>conv=>whnf
  exact ⟨rfl,rfl,by simp [hlen],rfl,KA _⟩
theorem yI (N:v3 L) (n:Nt) (inj:Int) (hv:HR n=true) (cr:K3 (CR n)) (ju:n.nodes.length<=5) (Ox:EB inj) :
  Ev L 163 [.agg (FG n),.int .i64 inj] (.sl false ((HC n inj n.nodes.length).map λ r=>[AV.sl false (r.map eQ)])):=by
 rw[E7]at hv;obtain ⟨h1,h2,h3,h4,h5,h6⟩:=hv;unfold EB at Ox;have hwf:0<=n.c.f/\n.c.f<=62:=by unfold WV at h2;omega
 have tf:=HF n.c.f;have nn:(pw n.c.f).natAbs<=2^24:=by
  have hf:n.c.f<24:=by unfold WV at h2;omega
  have h9:(2:Nat)^n.c.f.toNat<=2^24:=Hb O' O';rw[pw];exact_mod_cast h9
 have e24:(2:Nat)^24=16777216:=rfl;obtain ⟨m,hm⟩ : ∃ m:Nat,n.s=m:=⟨n.s.toNat,(xc O').symm⟩;have qp:n.s.toNat=m:=O'
 have gn:(1+n.s).toNat=m+1:=O'
 have hZ : ∀ j:Int,LM L 135 [.int .i64 ((m:Int)+1),.int .i64 j] 3 ((B9 (m+1) j).map eQ):=λ j=>AiQ N.too4 (m+1) j O'
 have bu:EM n inj 0 0=B9 (m+1) (if inj<0 then n.s else -1):=by rw[Al9 n inj O',qp]
 have Rn : ∀ i:Nat,i<m->EM n inj 0 (i+1)=B9 (m+1) (i:Int):=λ i hi=>by rw[Al8 n inj i O' O',qp]
 rw[hm]at bu;refine Ev.x N.JB rfl rfl ?_;refine rR 6 ?_;conv=>whnf
 refine ZJ 5 5 rfl ?_;repeat' (first|(apply AG<;>intro hc<;>try omega)|(apply AP;omega)|apply AE)<;>conv=>whnf
 all_goals rw[hm]
 rw[if_neg O']at bu;rotate_left
 rw[if_pos O']at bu;rotate_left
 all_goals
  refine LL (enc:=eQ) (m+1) (hZ _) (by simp [B9]) ?_;rw[<-bu];conv=>whnf
  refine AX (by rw[Qb,XB,qp]) ?_;refine RP (ll:=[]) (r:=EM n inj 0 0) (en:=eQ) rfl Z' Z' ?_;conv=>whnf
  skip
  try refine BN (ax:=[(6,.int .i64 0),(5,.row 20 0 1 0 1),(2,.ptr 2 0 0 0),(0+1,.int .i64 inj)]) (M':=[(20,5,.mx (BJ 3 eQ ([]++[EM n inj 0 0]))),(2,2,.bx [.int .i64 n.d.b,.int .i64 n.d.f,.int .i64 n.d.r,.int .i64 n.d.o,.int .i64 n.c.b,.int .i64 n.c.f,.int .i64 n.c.r,.int .i64 n.c.o,.int .i64 m,.sl n.qn (n.nodes.map SL),.sl n.qx (n.next.map C0),.int .i64 n.out])]) [(20,29)] B' ?_
  refine CE (λ i=>m-i) (λ(i:Nat)=>i<=m) (λ i=>[(6,.int .i64 i),(5,.row 20 0 1 0 (1+i))]) (λ i=>[(20,5,.mx (BJ 3 eQ ((ua (1+i)).map (EM n inj 0))))]) 0 O' ?_;intro i p1 ih;have hlr:((ua (1+i)).map (EM n inj 0)).length=1+i:=Z'
  by_cases hi:i<m
  ·have Rn:=Rn i hi
   have hsc:(ua (1+i)).map (EM n inj 0)++[EM n inj 0 (i+1)]=(ua (1+(i+1))).map (EM n inj 0):=by
    rw[show 1+(i+1)=(1+i)+1 by omega,Qc,Kd,Ec,lf i 1]
   repeat' (first|(apply AG<;>intro hc<;>try omega)|(apply AP;omega)|apply AE)<;>conv=>whnf
   refine LL (enc:=eQ) (m+1) (hZ _) (by simp [B9]) ?_;rw[<-Rn];conv=>whnf
   refine AX (by rw[Qb,XB,qp]) ?_;refine RP (r:=EM n inj 0 (i+1)) (en:=eQ) hlr.symm O' O' ?_;rw[hsc,show ((ua (1+(i+1))).map (EM n inj 0)).length=1+(i+1) by simp];conv=>whnf
   repeat' (first|(apply AP;omega)|fail)<;>conv=>whnf
   exact A9 [(20,43)] (ih (i+1) O' O')
  obtain rfl:i=m:=O'
  clear ih;rw[show (ua (1+i)).map (EM n inj 0)=HC n inj 0 by rw[HC,gn,lf]];have j9:(CR n).length=n.nodes.length:=by simp [CR]
  repeat' (first|(apply AG<;>intro hc<;>try omega)|apply AE)<;>conv=>whnf
  refine DF (λ k=>n.nodes.length-k) (λ(k:Nat)=>k<=n.nodes.length) (λ k=>[(7,.int .i64 k),(5,.row 20 0 1 0 (i+1+k))]) (λ k=>[(20,5,.mx (BJ 3 eQ (HC n inj k)))]) [] [] 0 (by first|exact B'|(rw[lf 1 i];exact B')) O' ?_;intro k p2 ih;have bh:=iP n inj k;by_cases hk:k<n.nodes.length
  ·obtain ⟨nd,hnd⟩:=H' n.nodes k hk
   have Ea:n.nodes[(k:Int).toNat]? = some nd:=hnd;have oy:(CR n)[k]? = some nd.ts:=by simp [CR,hnd]
   have Fp:=gU h4 hnd;have hL:nd.ts.length<=5:=cr.len _ (zM oy);have hC:=cr.cf _ (zM oy);repeat' (first|(apply AG<;>intro hc<;>try omega)|(apply AP;omega)|apply AR|apply AE)<;>conv=>whnf
   refine LL (enc:=eQ) (i+1) (hZ _) (by simp [B9]) ?_;rw[show B9 (i+1) (-1)=FR n inj k nd.ts 0 from Am7 n inj k nd.ts qp];conv=>whnf
   refine CE (λ t=>nd.ts.length-t) (λ(t:Nat)=>t<=nd.ts.length) (λ t=>[(9,.int .i64 t)]) (λ t=>[(54,54,.rw 3 ((FR n inj k nd.ts t).map eQ))]) 0 O' ?_;intro t p3 th;by_cases ht:t<nd.ts.length
   ·obtain ⟨e,he⟩:=H' nd.ts t ht
    have iq:nd.ts[(t:Int).toNat]? = some e:=he;have Ik:=zM he;have g6:=Mb.1 Fp e Ik;simp only[GF,decide_eq_true_eq]at g6;have Km:=hC e Ik;have hF:=YH N.toa6 e.2 (pw n.c.f) O' O';rw[Af9]at hF;have hbF:Bt 48 (((e.2:Int):Rat)/((pw n.c.f:Int):Rat)):=(Bt.ofInt Km).vu tf nn;repeat' (first|(apply AG<;>intro hc<;>try omega)|apply AR|(refine A4 V' ?_ rfl ?_;omega)|apply AE)<;>conv=>whnf
    refine DF (λ j=>i+1-j) (λ(j:Nat)=>j<=i+1) (λ j=>[(11,.int .i64 j)]) (λ j=>[(54,54,.rw 3 (((FR n inj k nd.ts (t+1)).take j++(FR n inj k nd.ts t).drop j).map eQ))]) [] [] 0 (by first|exact B'|(rw[oc,List.nil_append,Ma];exact B')) O' ?_;intro j p4 jh;have Eh:(FR n inj k nd.ts (t+1)).length=i+1:=by simp [FR,qp]
    have br:(FR n inj k nd.ts t).length=i+1:=by simp [FR,qp]
    have cq:((FR n inj k nd.ts (t+1)).take j++(FR n inj k nd.ts t).drop j).length=i+1:=by rw[re,xa,Qg];omega
    by_cases hj:j<i+1
    ·have Kl:=uT n inj k j h2 cr O' ju
     have l9:=lG n inj k j O';have g9:=Am6 n inj k he (show j<n.s.toNat+1 by omega);have az:=qZ n inj k nd.ts t j O';obtain ⟨x,hx⟩:=H' (EM n inj k e.1.toNat) j (by rw[XB];omega);have jj:(FX n inj k j).getD e.1.toNat 0=x:=by
      rw[EM,oa,ga O',Ja,yd]at hx;exact hx
     have Fb:Bt 117150 x:=by rw[<-jj];exact Kl.getD _
     rw[jj]at g9;have tz:Bt 586000 (E4 (FX n inj k j) (nd.ts.take t)/((pw n.c.f:Int):Rat)):=by
      have a1:=Kl.sum (nd.ts.take t) (j:=24) (λ e he=>Bt.ofInt (hC e (Da he)));have a2:Bt 585900 (E4 (FX n inj k j) (nd.ts.take t)):=a1.le (by
       have:(nd.ts.take t).length<=5:=by rw[xa];omega
       omega)
      exact (a2.vu tf nn).le O'
     have Fo:(HC n inj k)[e.1.toNat]? = some (EM n inj k e.1.toNat):=by
      rw[HC,oa,ga O'];rfl
     have iy:((FR n inj k nd.ts (t+1)).take j++(FR n inj k nd.ts t).drop j)[j]? = some (E4 (FX n inj k j) (nd.ts.take t)/((pw n.c.f:Int):Rat)):=by
      rw[Ca F',xa,uc O',Kb,Cc,qb];exact az
     have mq:=Rz (b:=FR n inj k nd.ts t) g9 O';have Jf:=XB n inj k e.1.toNat;generalize E4 (FX n inj k j) (nd.ts.take t)/((pw n.c.f:Int):Rat)=sm at *;have hM:=ON N.toa6 hbF Fb O' O';have hA:=QN N.toa6 tz (hbF.mul Fb) O' O';repeat' (first|(apply AG<;>intro hc<;>try omega)|(apply AX;omega)|(refine F3 ?_ (λ_ _ => ?_);omega)|(apply CD;omega)|(refine GR ?_ (λ_=>rfl) (λ v hv => ?_);omega)|apply AE|refine AD (hF) ?_)<;>conv=>whnf
     cases iy.symm.trans hv;skip
     refine Ad9 O' (λ r hr => ?_);cases Fo.symm.trans hr;conv=>whnf
     skip
     refine AX E' ?_;conv=>whnf
     refine Ad6 Fo ?_;conv=>whnf
     repeat' (first|(refine GR ?_ (λ_=>rfl) (λ v hv => ?_);omega)|fail)<;>conv=>whnf
     cases hx.symm.trans hv;repeat' (first|(apply AX;omega)|refine AD (hM) ?_|refine AD (hA) ?_)<;>conv=>whnf
     refine E5 (enc:=eQ) (sm+((e.2:Int):Rat)/((pw n.c.f:Int):Rat)*x) rfl (λ_=>rfl) O' ?_;conv=>whnf
     rw[mq];repeat' (first|(apply AP;omega)|fail)<;>conv=>whnf
     exact A9 [] (jh (j+1) O' O')
    ·obtain rfl:j=i+1:=O'
     clear jh;rw[zT O',Na O',List.append_nil];repeat' (first|(apply AG<;>intro hc<;>try omega)|(apply AP;omega)|apply AE)<;>conv=>whnf
     exact A9 [] (th (t+1) O' O')
   ·obtain rfl:t=nd.ts.length:=O'
    clear th;have hI:=KE N.toa6 1 O';have br:(FR n inj k nd.ts nd.ts.length).length=i+1:=by simp [FR,qp]
    have hsu:=Amc n inj k oy hk;have Jb:=iP n inj (k+1);have az:=qZ n inj k nd.ts nd.ts.length i O';have Kl:=uT n inj k i h2 cr O' ju;have tz:Bt 586000 (E4 (FX n inj k i) (nd.ts.take nd.ts.length)/((pw n.c.f:Int):Rat)):=by
     have a1:=Kl.sum (nd.ts.take nd.ts.length) (j:=24) (λ e he=>Bt.ofInt (hC e (Da he)));have a2:Bt 585900 (E4 (FX n inj k i) (nd.ts.take nd.ts.length)):=a1.le (by
      have:(nd.ts.take nd.ts.length).length<=5:=by rw[xa];omega
      omega)
     exact (a2.vu tf nn).le O'
    have Jf:=XB n inj (k+1) ((1+n.s).toNat+k);by_cases Ff:(k:Int)=inj
    ·all_goals try omega
     all_goals
      have hri:=Ama n inj k oy hk Ff (x:=E4 (FX n inj k i) (nd.ts.take nd.ts.length)/((pw n.c.f:Int):Rat)) (by rw[qp];exact az);rw[qp]at hri;generalize E4 (FX n inj k i) (nd.ts.take nd.ts.length)/((pw n.c.f:Int):Rat)=sm at *;have hA:=QN N.toa6 tz (Bt.ofInt (k:=0) (z:=1) Y') O' O';repeat' (first|(apply AG<;>intro hc<;>try omega)|(apply AX;omega)|apply AR|(refine A4 V' ?_ rfl ?_;omega)|(refine GR ?_ (λ_=>rfl) (λ v hv => ?_);omega)|apply AE|refine AD (hI) ?_)<;>conv=>whnf
      cases az.symm.trans hv;repeat' (first|(apply AX;omega)|refine AD (hA) ?_)<;>conv=>whnf
      refine E5 (enc:=eQ) (sm+1) rfl (λ_=>rfl) O' ?_;conv=>whnf
      rw[hri];refine AX E' ?_;refine RP (r:=EM n inj (k+1) ((1+n.s).toNat+k)) (en:=eQ) O' O' O' ?_;rw[<-hsu,Jb,gn];conv=>whnf
      repeat' (first|(apply AP;omega)|fail)<;>conv=>whnf
      exact A9 [(20,123)] (ih (k+1) O' O')
    ·rw[Amb n inj k oy hk Ff]
     repeat' (first|(apply AG<;>intro hc<;>try omega)|apply AR|(refine A4 V' ?_ rfl ?_;omega)|apply AE)<;>conv=>whnf
     refine AX E' ?_;refine RP (r:=EM n inj (k+1) ((1+n.s).toNat+k)) (en:=eQ) O' O' O' ?_;rw[<-hsu,Jb,gn];conv=>whnf
     repeat' (first|(apply AP;omega)|fail)<;>conv=>whnf
     exact A9 [(20,123)] (ih (k+1) O' O')
  ·obtain rfl:k=n.nodes.length:=O'
   clear ih;repeat' (first|(apply AG<;>intro hc<;>try omega)|apply AR|apply AE)<;>conv=>whnf
   refine H1 (λ_=>rfl) rfl O' ?_;conv=>whnf
   refine AY rfl ?_;simp only[A3,true_and];exact QK (λ r=>by simp only[B7,A3,and_true,true_and];exact KA r) _
end Go.c6
