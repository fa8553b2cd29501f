/-
  Limit cycles (layer 31), the reference: all cycles of a box.
-/
import Derived.Test.YtmhfodhmngfoiaaGreatDoorB5
import Derived.Test.YtmhfodhmngfoiaaGreatDoorB4
import Derived.Test.YtmhfodhmngfoiaaGreatDoorB1
import Derived.Test.YtmhfodhmngfoiaaGreatDoorB3
import Derived.ProofKit
import Derived.OpenShut
import Derived.ChangeOld
import Derived.WalkKit
import Derived.WideShapes
import Derived.ChangeArms
set_option linter.unusedSimpArgs false
set_option linter.unusedVariables false
set_option linter.unnecessarySimpa false
set_option maxHeartbeats 16000000
open Bool renaming and_eq_true->Je,false_eq_true->ph
open Function renaming comp->fj
open Int renaming toNat_natCast->tb,natAbs_natCast->zc,eq_ofNat_of_zero_le->Ie,mul_ediv_mul_of_pos_left->fg,natAbs_mul->bg,ediv_emod_unique->Ag,toNat_of_nonneg->qh,natAbs_neg->qi,mul_comm->Vi,mul_neg->yj,not_lt->kj,not_le->ij
open List renaming length_take->za,getElem?_map->sa,length_map->na,getD_eq_getElem?_getD->da,mem_map->Pa,map_congr_left->Oa,replicate->Na,length_append->Ma,getElem?_range->Ha,range->Ga,mem_cons_of_mem->Da,mem_cons_self->Ca,mem_of_mem_take->yb,take_length->vb,all_eq_true->mb,take_add_one->db,take_zero->Pb,length_replicate->Cb,append_nil->yc,map_map->tc,length_cons->dc,mem_range->Nc,getElem?_append_right->Mc,drop_eq_getElem_cons->Gc,length_set->xd,flatten_cons->od,drop_of_length_le->dd,getElem?_eq_none->Od,mem_flatten->Jd,range_succ->Hd,nil_append->Gd,foldl_cons->Ed,getElem?_append_left->ve,append_assoc->ue,map_cons->te,length_eq_zero_iff->je,getElem?_replicate->ie,map_append->Ce,take_append_drop->Ae,set_append_right->yf,flatten_append->pf,set_cons_zero->jf,mem_singleton->gf,getElem?_drop->Nf,set_set->Hf,getElem?_set->Gf,length_drop->Df,cons_append->Cf,eq_nil_of_length_eq_zero->zg,mem_append->lg,mem_cons->Og,length_singleton->Eg,replicate_succ->Bg,map_singleton->vh,foldl_append->Nh,ext_getElem?->Lh,set_append->Ih,all_append->Eh,drop_zero->Ah,length->ai,take->oj
open Nat renaming pow_le_pow_right->ob,mul_le_mul->Nb,le_trans->Mb,le_refl->Jb,zero_add->ic,succ_mul->fc,sub_self->cd,add_comm->ze,pow_succ->Ee,min_eq_left->Be,one_le_two_pow->Mf,eq_zero_or_pos->Jf,add_zero->Ef,pow_add->ng,mul_comm->Gg,pow_le_pow_left->yh,pos_of_ne_zero->Oh,lt_irrefl->oi,pow_pos->Ji,pow_mul->Gi,one_mul->Ei,mul_two->Di,mul_pos->Ci,mul_add->Bi,mod_lt->qj
open Option renaming map_some->zb,toList_some->Eb,getD_some->Db,toList_none->Cd,some.injEq->lf,some.inj->fh
open Rat renaming div_def->ub,intCast_natCast->fb,divInt->Ob,natCast_mul->xc,pow_succ->pc,mul_pos->Fc,add_zero->Dc,pow_zero->Cc,intCast_mul->vd,zero_mul->pd,mul_inv_cancel->ye,mul_assoc->pe,divInt_ofNat->Bf,one_mul->yg,mul_one->vg,num_natCast->kg,natCast_inj->jg,den_natCast->gg,mul_nonneg->cg,zero_add->Jg,neg_num->Dg,mul_lt_mul_right->Cg,sub_eq_add_neg->oh,mkRat_eq_div->Jh,intCast_inj->Ch,num_nonneg->yi,neg_zero->mi,le_trans->fi,neg_den->Oi,le_refl->Ni,add_mul->Li,not_le->xj
namespace Go.Eng
open F
attribute [local irreducible] AA AF AW AC AX BD BG CM BS BR A5 AB AH pw
variable {L:Lib}
set_option maxRecDepth 8000
theorem Ajr(I:a8 L)(J:k7 L)(N:w4 L){n:Nt}{x:Int}{box:List Int}(h:I2 n x box≠0)(q:Bool)(hb:box.length<9223372036854775808):Ev L 447 [.agg (BX n),.int .i64 x,.sl q (box.map AZ)] (.j4 [.sl false [],.int .i64 (I2 n x box)]):=by
 refine Ev.x N.GH rfl rfl ?_;have hV:=V6 n I J;have hw:=λq=>nI I n.d box q hb
 unfold I2 at h⊢;by_cases h1:C6 n=true;rotate_left
 ·rw[if_neg h1]
  rw[Bool.not_eq_true]at h1;rw[h1]at hV;repeat' (first|apply AE|refine AD (hV) ?_)<;>conv=>whnf
  exact AU rfl (by simp[AY,BI,DB])
 rw[if_pos h1]at h⊢;rw[h1]at hV;by_cases h2:(box.length:Int)=n.s;rotate_left
 ·rw[if_neg h2]
  repeat' (first|apply AG<;>intro hc<;>try omega|apply AP|apply AE|refine AD (hV) ?_)<;>conv=>whnf
  exact AU rfl (by simp[AY,BI,DB])
 rw[if_pos h2]at h⊢;repeat' (first|apply AG<;>intro hc<;>try omega|apply AP|apply AE|refine AD (hV) ?_)<;>conv=>whnf
 refine C0 (λi=>box.length-i) (λ(i:Nat)=>i<=box.length/\box.all (λb=>decide (0<=b))=(box.drop i).all λb=>decide (0<=b)) (λi=>[(8,.int .i64 i)]) (λ_=>[]) 0 ⟨O',rfl⟩ ?_;intro i ⟨p1,p2⟩ ih;by_cases hi:i<box.length
 ·obtain⟨b,ib⟩:=N' box i hi
  rw[CW ib,List.all_cons]at p2;repeat' (first|apply AG<;>intro hc<;>try omega|apply AR;omega|apply AP|refine A3 V' ?_ rfl ?_;omega|apply AE)<;>conv=>whnf
  ·rw[decide_eq_false O',Bool.false_and]at p2
   rw[if_neg (by rw[p2];simp)];exact AU rfl (by simp[AY,BI,DB])
  ·rw[decide_eq_true O',Bool.true_and]at p2
   exact BC [] (ih (i+1) O' ⟨O',p2⟩)
 rw[ES O',List.all_nil]at p2;rw[if_pos p2]at h⊢;clear ih;have h0:∀b∈box,0<=b:=λb hb=>of_decide_eq_true (mb.1 p2 b hb)
 have hF:=V5 n.d I x;by_cases h3:FT n.d x;rotate_left
 ·rw[if_neg h3]
  rw[decide_eq_false h3]at hF;repeat' (first|apply AG<;>intro hc<;>try omega|apply AP|apply AE|refine AD (hF) ?_)<;>conv=>whnf
  exact AU rfl (by simp[AY,BI,DB])
 rw[if_pos h3]at h⊢;rw[decide_eq_true h3]at hF;have hw:∀q,Ev L 19 [.agg (HV n.d),.sl q (box.map AZ)] (.bool (DF n.d box)):=hw;cases h4:DF n.d box with
 |false=>
  rw[h4]at hw;rw[if_neg Z'];repeat' (first|apply AG<;>intro hc<;>try omega|apply AP|apply AE|refine AD (hF) ?_|refine AD (hw _) ?_)<;>conv=>whnf
  exact AU rfl (by simp[AY,BI,DB])
 |true=>
  rw[h4]at hw h;rw[if_pos rfl]at h⊢;have h5:JD box 1=true:=by
   cases e:JD box 1
   ·rw[e]at h;exact absurd rfl h
   ·rfl
  have hC:=λq=>zU N box q (λb hb=>⟨h0 b hb,(YD (of_decide_eq_true (mb.1 h4 b hb))).2⟩) hb
  rw[h5]at hC⊢;rw[if_pos rfl]at hC⊢;repeat' (first|apply AG<;>intro hc<;>try omega|apply AP|apply AE|refine AD (hF) ?_|refine AD (hw _) ?_|refine AD (hC _) ?_)<;>conv=>whnf
  exact AU rfl (by simp[AY,BI,DB])
theorem Ajq(I:a8 L)(J:k7 L)(N:w4 L){n:Nt}{x:Int}{box:List Int}(h:I2 n x box=0)(q:Bool) :
  ∃v,Ev L 447 [.agg (BX n),.int .i64 x,.sl q (box.map AZ)] v/\∃l,LK (c7 n x) (ax n x) box l/\v = .j4 [.sl false (l.map DR),.int .i64 0]:=by
 have hX:=ZQ.of h;have y5:=hX.du;have my:=hX.nn;have Hi:=hX.As;have qf:=hX.Pg;obtain⟨g1,g2,g3,g4,g5,g6⟩:=(CP n).1 y5;have kb:=hX.len;have Bl:box.length<=64:=O'
 have mu:∀b∈box,0<=b/\b<=8388607:=λb h=>⟨my b h,(YD (of_decide_eq_true (mb.1 hX.wd b h))).2⟩
 have k6:∀t,B9 box t->DW n t:=λt h=>DW.box hX.len hX.wd h
 have hV:=V6 n I J;rw[y5]at hV;have hF:=V5 n.d I x;rw[decide_eq_true qf]at hF;have hw:∀q,Ev L 19 [.agg (HV n.d),.sl q (box.map AZ)] (.bool (DF n.d box)):=λq=>nI I n.d box q O'
 rw[hX.wd]at hw;have Hh:JD box 1=false:=by
  unfold I2 at h;rw[if_pos y5,if_pos kb,if_pos (mb.2 λb hb=>decide_eq_true (my b hb)),if_pos qf,if_pos hX.wd]at h;cases e:JD box 1
  ·rfl
  ·rw[e]at h;cases h
 have hC:=λq=>zU N box q mu O'
 rw[Hh,if_neg Y']at hC;clear h Hh;refine Ev.xE N.GH rfl rfl ?_;repeat' (first|apply AG<;>intro hc<;>try omega|apply AP|apply AE|refine AD (hV) ?_)<;>conv=>whnf
 refine C0 (λi=>box.length-i) (λ(i:Nat)=>i<=box.length) (λi=>[(8,.int .i64 i)]) (λ_=>[]) 0 O' ?_;intro i p1 ih;by_cases hi:i<box.length
 ·obtain⟨b,ib⟩:=N' box i hi
  have:=mu b (zM ib)
  repeat' (first|apply AG<;>intro hc<;>try omega|apply AR;omega|apply AP|refine A3 V' ?_ rfl ?_;omega|apply AE)<;>conv=>whnf
  exact BC [] (ih (i+1) O' O')
 clear ih;repeat' (first|apply AG<;>intro hc<;>try omega|apply AP|apply AE|refine AD (hF) ?_|refine AD (hw _) ?_|refine AD (hC _) ?_)<;>conv=>whnf
 have iq:∀t,DW n t->(c7 n x t).length=box.length:=λt ht=>by have:=(ht.step y5 qf).len;omega
 refine C0 (λk=>BU box-k) (λ(k:Nat)=>k<=BU box) (λk=>[(11,.int .i64 k),(10,.row 10 0 1 0 k)]) (λk=>[(10,10,.rw 1 (((S7 (c7 n x) box).take k).map AZ))]) 0 O' ?_;intro k k1 ih;have ep:=Sn (f:=c7 n x) (box:=box);have de:((S7 (c7 n x) box).take k).length=k:=by rw[za];omega
 by_cases hk:k<BU box
 ·have gp:=pW my k
  have kn:=λq=>mX N k box q O' mu O'
  have hS:=λq=>nF I J y5 qf (k6 _ gp) q
  have gq:=iq _ (k6 _ gp);have hI:=λq1 q2=>AiO N (c7 n x (FD box k)) box q1 q2 gq (λb hb=>by have:=mu b hb;omega) O'
  have l9:(S7 (c7 n x) box)[k]?=some (NY box (c7 n x (FD box k))):=by rw[S7,sa,Ha hk];rfl
  have rf:=ih (k+1) O' O';rw[db,l9,Eb]at rf;clear ih;rw[NY]at rf;cases sw:JX box (c7 n x (FD box k))with
  |true=>
   have va:=(UV gq).1 sw;have hJ:=λq1 q2=>AiN N (c7 n x (FD box k)) box q1 q2 va Hi mu O'
   rw[sw]at hI rf;rw[if_pos rfl]at rf;repeat' (first|apply AG<;>intro hc<;>try omega|apply CI|apply AE|refine AD (kn _) ?_|refine AD (hS _) ?_|refine AD (hI _ _) ?_|refine AD (hJ _ _) ?_)<;>conv=>whnf
   refine C1 (enc:=AZ) ((B2 box (c7 n x (FD box k)):Nat):Int) rfl de.symm rfl O' O' ?_;conv=>whnf
   rw[Ma,de,show k+[((B2 box (c7 n x (FD box k)):Nat):Int)].length=k+1 from rfl];repeat' (first|apply AR;omega|fail)<;>conv=>whnf
   exact A9 [(10,83)] E' rf
  |false=>
   rw[sw]at hI rf;rw[if_neg Y']at rf;repeat' (first|apply AG<;>intro hc<;>try omega|apply CI|apply AE|refine AD (kn _) ?_|refine AD (hS _) ?_|refine AD (hI _ _) ?_)<;>conv=>whnf
   refine C1 (enc:=AZ) (-1) rfl de.symm rfl O' O' ?_;conv=>whnf
   rw[Ma,de,show k+[(-1:Int)].length=k+1 from rfl];repeat' (first|apply AR;omega|fail)<;>conv=>whnf
   exact A9 [(10,86)] E' rf
 have ek:k=BU box:=O'
 rw[ek,zT O'];clear ih de hk k1 ek ep;repeat' (first|apply AG<;>intro hc<;>try omega|apply AE)<;>conv=>whnf
 refine E6 (enc:=AZ) 0 (BU box) rfl rfl O' ?_;rw[<-AlM];conv=>whnf
 skip
 have ABy:=Sn (f:=c7 n x) (box:=box);have Ng:=λseen=>bF (box:=box) seen
 refine FP (λk _ _=>BU box-k) (λ(k:Nat)(seen:List (List Int×Int))(l:List Cy)=>IE (c7 n x) (ax n x) box seen l k/\l.length<=k/\k<=BU box/\(∀t,B9 box t->B2 box t<k->t∈DJ seen)/\∀p∈seen,1<=p.2) (λk _ l=>[(18,.int .i64 k),(16,.row 16 0 2 0 l.length)]) (λk seen l=>[(88,88,.rw 1 ((JJ box seen).map AZ)),(16,16,.rw 2 (l.map DR))]) 0 [] [] ⟨IE.start,Z',O',λt _ h=>absurd h O',Z'⟩ ?_;intro k seen l ⟨p1,p2,p3,p4,p5⟩ ih;by_cases hk:k<BU box
 ·have gp:=pW my k
  have Gb:=Ps my hk;have hW:=λj=>DW.it y5 qf j (k6 _ gp)
  have Gr:=λkk=>mX N kk box
  generalize eu:FD box k=s at*;repeat' (first|apply AG<;>intro hc<;>try omega|apply AE)<;>conv=>whnf
  have zu:(k:Int)=NY box (AQ (c7 n x) 0 s):=by
   have:JX box (AQ (c7 n x) 0 s)=true:=(UV (Q1 gp)).2 gp
   rw[NY,if_pos this];exact congrArg Int.ofNat Gb.symm
  have Dq:∀{kk:Nat}{r:Option Cy},MC (c7 n x) box seen s kk->LP (c7 n x) (ax n x) box seen s kk r->IE (c7 n x) (ax n x) box (E3 (c7 n x) seen s ((k:Int)+1) kk) (l++r.toList) ((k+1:Nat):Int)/\(l++r.toList).length<=k+1/\k+1<=BU box/\(∀t,B9 box t->B2 box t<k+1->t∈DJ (E3 (c7 n x) seen s ((k:Int)+1) kk))/\∀p∈E3 (c7 n x) seen s ((k:Int)+1) kk,1<=p.2:=λ{kk r} h1 h2=>by
   refine⟨p1.walk h1 h2,?_,O',λt ht og=>?_,Vu p5 O'⟩
   ·have:r.toList.length<=1:=by cases r<;>simp
    rw[Ma];omega
   ·by_cases e:B2 box t<k
    ·exact(JV _).2 (.inr (p4 t ht e))
    ·rw[aW ht gp O']
     exact LP.mem gp h1 h2 _
  refine DT (λj _=>4097-j) (λ(j:Nat)(a:Int)=>MC (c7 n x) box seen s j/\a=NY box (AQ (c7 n x) j s)) (λ_ a=>[(19,.int .i64 a)]) (λj _=>[(88,88,.rw 1 ((JJ box (E3 (c7 n x) seen s (k+1) j)).map AZ))]) 0 (k:Int) ⟨⟨List.nodup_nil,by simp[A4],by simp[A4]⟩,zu⟩ ?_;intro j a ⟨hj,ha⟩ jh;have hj4:j<=4096:=by
   have:=pV hj.nd hj.bx
   rw[FL]at this;omega
  have hwj:=hW j;have hlj:(AQ (c7 n x) j s).length=box.length:=by have:=hwj.len;omega
  cases sw:JX box (AQ (c7 n x) j s)with
  |false=>
   rw[NY,sw,if_neg Y']at ha;subst ha;have jj:=ih (k+1) _ _ O' (Dq hj (.out λh=>by rw[(UV hlj).2 h]at sw;cases sw));rw[Cd,yc]at jj;repeat' (first|apply AG<;>intro hc<;>try omega|apply AR;omega|apply AE)<;>conv=>whnf
   exact A9 [] E' jj
  |true=>
   have nv:=(UV hlj).1 sw;rw[NY,sw,if_pos rfl]at ha;subst ha;have Dn:=AlL (seen:=E3 (c7 n x) seen s (k+1) j) nv;have hnx:=Sp (f:=c7 n x) nv;rw[<-Q2 (f:=c7 n x)]at hnx;have hlt:=JI nv;have hm9:(JJ box (E3 (c7 n x) seen s (k+1) j)).length=BU box:=Ng _;have hz:0+((B2 box (AQ (c7 n x) j s):Nat):Int).toNat=B2 box (AQ (c7 n x) j s):=by rw[ic,tb]
   rw[<-hz]at Dn hnx;have bj:=λw=>AlN (seen:=E3 (c7 n x) seen s (k+1) j) my nv w
   have sj:=Vv (c7 n x) seen s ((k:Int)+1) j;cases mg:HW (E3 (c7 n x) seen s (k+1) j) (AQ (c7 n x) j s)with
   |none=>
    have o4:=hj.step (w:=(k:Int)+1) nv (gU.1 mg);rw[mg,Option.getD_none]at Dn;have Ak:=jh (j+1) _ O' ⟨o4,rfl⟩;rw[sj,<-bj]at Ak;generalize JJ box (E3 (c7 n x) seen s (k+1) j)=mk at*;repeat' (first|apply AG<;>intro hc<;>try omega|apply A2;omega|apply AE)<;>conv=>whnf
    refine FQ (enc:=AZ) Dn rfl ?_;conv=>whnf
    repeat' (first|apply AG<;>intro hc<;>try omega|apply A2;omega|apply AR;omega)<;>conv=>whnf
    refine HS (enc:=AZ) ((k:Int)+1) rfl (λ_=>rfl) O' ?_;conv=>whnf
    repeat' (first|apply A2;omega|fail)<;>conv=>whnf
    refine FQ (enc:=AZ) hnx rfl ?_;conv=>whnf
    skip
    exact A9 [] E' Ak
   |some v=>
    have Co:1<=v:=Vu p5 O' _ (bB mg);obtain⟨w1,w2⟩:=Aoa p1.num mg;rw[mg,Db]at Dn;clear jh;generalize uz:JJ box (E3 (c7 n x) seen s (k+1) j)=mk at*;repeat' (first|apply AG<;>intro hc<;>try omega|apply A2;omega|apply AE)<;>conv=>whnf
    refine FQ (enc:=AZ) Dn rfl ?_;conv=>whnf
    repeat' (first|apply AG<;>intro hc<;>try omega|apply A2;omega)<;>conv=>whnf
    refine FQ (enc:=AZ) Dn rfl ?_;conv=>whnf
    repeat' (first|apply AG<;>intro hc<;>try omega|apply A2;omega|apply AR;omega)<;>conv=>whnf
    ·have jj:=ih (k+1) _ _ O' (Dq hj (.old (w1 O')))
     rw[Cd,yc,uz]at jj;exact A9 [] E' jj
    refine FQ (enc:=AZ) hnx rfl ?_;conv=>whnf
    skip
    obtain⟨i0,lj,Cz⟩:=EY.1 (w2 O');obtain⟨r1,r2,r3⟩:=hj.ring lj Cz;have s8:=λj0 h1 h2=>LP.close (g:=ax n x) hj lj Cz (j:=j0) h1 h2
    rw[Q2 (f:=c7 n x) j s,show c7 n x (AQ (c7 n x) j s)=AQ (c7 n x) 1 (AQ (c7 n x) j s)from rfl,Sl (r2 1)];have hwU:=λm=>DW.it y5 qf m hwj
    generalize hu:AQ (c7 n x) j s=u at*;refine DT (λm _=>j-i0-m) (λ(m j0:Nat)=>1<=m/\m<=j-i0/\j0<m/\∀q,q<m->B2 box (AQ (c7 n x) j0 u)<=B2 box (AQ (c7 n x) q u)) (λm j0=>[(21,.int .i64 (B2 box (AQ (c7 n x) m u):Nat)),(20,.int .i64 (B2 box (AQ (c7 n x) j0 u):Nat))]) (λ_ _=>[]) 1 0 ⟨O',O',O',λq hq=>by rw[show q=0 by omega];exact Jb _⟩ ?_;intro m j0 ⟨m1,m2,m3,m4⟩ mh;have Bw:=JI (r2 m);have Dk:=JI (r2 j0);by_cases hmp:m<j-i0
    ·have o7:B2 box (AQ (c7 n x) m u)≠B2 box u:=λe=>r3 m O' hmp (aW (r2 m) nv e)
     have Nk:=Sp (f:=c7 n x) (r2 m);rw[<-Q2 (f:=c7 n x),Sl (r2 (m+1)),show B2 box (AQ (c7 n x) m u)=0+((B2 box (AQ (c7 n x) m u):Nat):Int).toNat by rw[ic,tb]]at Nk;repeat' (first|apply AG<;>intro hc<;>try omega|apply A2;omega|apply AE)<;>conv=>whnf
     ·refine FQ (enc:=AZ) Nk rfl ?_
      (conv=>whnf)
      skip
      exact BC [] (mh (m+1) m O' ⟨O',O',O',λq hq=>by
       by_cases e:q=m
       ·rw[e];exact Jb _
       ·have:=m4 q O';omega⟩)
     ·refine FQ (enc:=AZ) Nk rfl ?_
      (conv=>whnf)
      skip
      exact BC [] (mh (m+1) j0 O' ⟨O',O',O',λq hq=>by
       by_cases e:q=m
       ·rw[e];omega
       ·exact m4 q O'⟩)
    have emp:m=j-i0:=O'
    subst emp;rw[r1];obtain⟨c1,c2,c3,c4⟩:=s8 j0 m3 m4;have kn:=λq=>mX N (B2 box (AQ (c7 n x) j0 u)) box q O' mu O'
    rw[iK (r2 j0)]at kn;have pz:=zV I J N y5 qf (hwU j0) (show 0<j-i0 by omega) O' c1 c2;have jj:=ih (k+1) _ _ O' (Dq hj c4);rw[Eb,uz]at jj;repeat' (first|apply AG<;>intro hc<;>try omega|apply CI|apply AE|refine AD (kn _) ?_|refine AD (pz) ?_)<;>conv=>whnf
    refine C1 (enc:=DR) (A4 (c7 n x) (j-i0) (AQ (c7 n x) j0 u),(A4 (c7 n x) (j-i0) (AQ (c7 n x) j0 u)).map (ax n x)) rfl rfl rfl O' O' ?_;conv=>whnf
    repeat' (first|apply AR;omega|fail)<;>conv=>whnf
    exact A9 [(16,147)] E' jj
 have ek:k=BU box:=O'
 have tn:=p1.tn;have hhd:∀c∈l,c.1[0]?=some (FB c)/\(FB c).length=box.length:=λc hc=>by
  obtain⟨⟨s,m,h1⟩,_⟩:=p1.oo c hc;rw[aU h1.head];exact⟨h1.head,Q1 (h1.box s (EY.2 ⟨0,h1.pos,rfl⟩))⟩
 have ju:=λl' hp ho=>p1.full (l':=l') (λt ht=>p4 t ht (by rw[ek];exact JI ht)) hp ho
 clear ih iq p5 p4 p1;repeat' (first|apply AG<;>intro hc<;>try omega|apply AE)<;>conv=>whnf
 refine DT (λi _=>l.length-i) (λ(i:Nat)(l1:List Cy)=>i<=l.length/\XL l l1 i) (λi _=>[(22,.int .i64 i)]) (λ_ l1=>[(16,16,.rw 2 (l1.map DR))]) 0 l ⟨O',List.Perm.refl _,λa b x y _ h2=>absurd h2 O'⟩ ?_;intro i l1 ⟨i1,i2⟩ ih;have gq:=i2.perm.length_eq;by_cases hil:i<l.length
 ·repeat' (first|apply AG<;>intro hc<;>try omega|apply AE)<;>conv=>whnf
  refine DT (λj _=>j) (λ(j:Nat)(l2:List Cy)=>U4 l l2 i j) (λj _=>[(23,.int .i64 j)]) (λ_ l2=>[(16,16,.rw 2 (l2.map DR))]) i l1 i2.ins ?_;intro j l2 hj jh;have iu:=hj.perm.length_eq;have Dm:=hj.at_;have bh:∀c∈l2,c.1[0]?=some (FB c)/\(FB c).length=box.length:=λc hc=>hhd c (hj.perm.mem_iff.1 hc)
  rcases j with _|j
  ·have jj:=ih (i+1) l2 O' ⟨O',hj.stop O' tn λx y h=>absurd h O'⟩
   repeat' (first|apply AG<;>intro hc<;>try omega|apply AR;omega|apply AE)<;>conv=>whnf
   exact A9 [] E' jj
  ·obtain⟨X,zs⟩:=N' l2 (j+1)
   obtain⟨Y,zt⟩:=N' l2 j;obtain⟨x1,x2⟩:=bh X (zM zs);obtain⟨y1,y2⟩:=bh Y (zM zt);have ti:=λq1 q2=>yG N.toq6 (FB X) (FB Y) q1 q2 O' O'
   have e1:(0:Nat)+(((j+1:Nat):Int)).toNat=j+1:=O'
   have e2:(0:Nat)+(((j+1:Nat):Int)-1).toNat=j:=O'
   rw[<-e1]at zs;rw[<-e2]at zt;have jj:=λhn=>ih (i+1) l2 O' ⟨O',hj.stop O' tn hn⟩
   have Ak:=λhc=>jh j _ O' (hj.swap (x:=X) (y:=Y) O' (by rw[<-zs,e1]) (by rw[<-zt,e2]) hc)
   clear ih jh hC hw hF hV;by_cases dz:B0 (FB X) (FB Y)<0
   ·have jh2:=Ak dz
    rw[decide_eq_true dz]at ti;clear Ak jj;repeat' (first|apply AG<;>intro hc<;>try omega|apply A2;omega|apply AE)<;>conv=>whnf
    refine FQ (enc:=DR) zs rfl ?_;conv=>whnf
    repeat' (first|apply A2;omega|apply BP;omega|refine A3 V' ?_ rfl ?_;omega)<;>conv=>whnf
    refine FQ (enc:=DR) zt rfl ?_;conv=>whnf
    repeat' (first|apply A2;omega|apply BP;omega|refine A3 V' ?_ rfl ?_;omega|refine AD (ti _ _) ?_)<;>conv=>whnf
    refine FQ (enc:=DR) zt rfl ?_;conv=>whnf
    repeat' (first|apply A2;omega|fail)<;>conv=>whnf
    refine FQ (enc:=DR) zs rfl ?_;conv=>whnf
    repeat' (first|apply A2;omega|fail)<;>conv=>whnf
    refine VG (enc:=DR) (j+1) Y e1 rfl (λ_=>rfl) O' ?_;conv=>whnf
    repeat' (first|apply A2;omega|fail)<;>conv=>whnf
    refine VG (enc:=DR) j X e2 rfl (λ_=>rfl) (by rw[xd];omega) ?_;conv=>whnf
    repeat' (first|apply BP;omega|fail)<;>conv=>whnf
    rw[show((j+1:Nat):Int)-1=(j:Int)by omega];exact A9 [] E' jh2
   ·rw[decide_eq_false dz]at ti
    have gi:=jj λx y _ hx hy=>by
     rw[e1]at zs;rw[e2]at zt;obtain rfl:=fh (zs.symm.trans hx);obtain rfl:=fh (zt.symm.trans hy);exact dz
    clear Ak jj;repeat' (first|apply AG<;>intro hc<;>try omega|apply A2;omega|apply AE)<;>conv=>whnf
    refine FQ (enc:=DR) zs rfl ?_;conv=>whnf
    repeat' (first|apply A2;omega|apply BP;omega|refine A3 V' ?_ rfl ?_;omega)<;>conv=>whnf
    refine FQ (enc:=DR) zt rfl ?_;conv=>whnf
    repeat' (first|apply AR;omega|refine A3 V' ?_ rfl ?_;omega|refine AD (ti _ _) ?_)<;>conv=>whnf
    exact A9 [] E' gi
 have hi5:i=l.length:=O'
 subst hi5;rw[<-gq]at i2;have ae:=ju l1 i2.perm i2.ho;clear ih ju hC hw hF hV;repeat' (first|apply AG<;>intro hc<;>try omega|apply AE)<;>conv=>whnf
 refine⟨_,?_,l1,ae,rfl⟩;conv=>whnf
 refine CR (λ_=>rfl) rfl gq.symm ?_;conv=>whnf
 refine AU rfl ?_;simp only[AY,BI,true_and,and_true];exact LS (λc=>VN c) l1
end Go.Eng
namespace Go.Eng
theorem tW{R:List (p_)}{i e z:Nat}{es:v_}{K:p_->Prop}(he:e=i)(hi:i<R.length)(h:K (some (z,es))):HF (R.set i (some (z,es))) e K:=by
 subst he;exact⟨_,by rw[Gf,if_pos rfl,if_pos hi],h⟩
theorem tU{R:List (p_)}{i e z:Nat}{es:v_}{K:Nat->v_->Prop}(he:e=i)(hi:i<R.length)(h:K z es):E5 (R.set i (some (z,es))) e K:=by
 subst he;exact⟨z,es,by rw[Gf,if_pos rfl,if_pos hi],h⟩
theorem ZV{R:List (p_)}{i e z:Nat}{es:v_}{K:List (p_)->Prop}(he:e=i)(hi:i<R.length)(h:K (R.set i (some (z,es)))):MB R e z es K:=by
 subst he;exact⟨hi,h⟩
def hQ(S:HI):Nat->Rat
 |0=>S.d
 |j+1=>BQ S.c (wQ S j)
def BW(x:Rat):Rat:=if x.num<0 then -x else x
end Go.Eng

namespace Go.Eng
def IL(n:Nt)(k:Int):HI where
 a:=(FC n).a
 b:=n.next.map λe=>(GS n (-1) k).getD e.toNat 0
 c:=(FC n).c
 d:=(GS n (-1) k).getD n.out.toNat 0
theorem AgB(e:Int):AY (.j4 [.agg [.sl false [],.sl false [],.sl false [],.bool false,.sl false [],.sl false []],.int .i64 e]):=by
 simp[AY,BI,DB]
def gM(n:Nt)(k:Int):AV:=if 0<=k/\k<n.nodes.length then .j4 [.agg (eS (IL n k)),.int .i64 0]else .j4 [.agg [.sl false [],.sl false [],.sl false [],.bool false,.sl false [],.sl false []],.int .i64 1]
theorem AlI{a b:o_}{i:Nat}{x:Rat}(h:a[i]?=some x)(hb:i<b.length):(a.take i++b.drop i).set i x=a.take (i+1)++b.drop (i+1):=by
 have hl:=(zS h).1;have ht:(a.take i).length=i:=by rw[za];omega
 rw[yf _ _ O',ht,cd,Gc hb,jf,db,h,ue];rfl
end Go.Eng

namespace Go.Eng
def ni(ε f:Nat->Rat):Nat->Rat
 |0=>0
 |N+1=>ni ε f N+ε N*f N
variable {n:Nt}
def fA(n:Nt)(e:Int):o_:=(Ga n.s.toNat).map λ(j:Nat)=>(GS n ((j:Int)+1) (-1)).getD e.toNat 0
def gX(n:Nt)(e:Int):Rat:=(GS n 0 (-1)).getD e.toNat 0
def gK(n:Nt)(k:Nat)(e:Int):Rat:=(GS n (-1) (k:Int)).getD e.toNat 0
def As(n:Nt)(K:Nat):o_->o_->List (Nat->Rat)->o_
 |st,x::xs,ε::es=>((BQ (fA n n.out) st+gX n n.out*x)+ni ε (λk=>gK n k n.out) K)::As n K (n.next.map λe=>(BQ (fA n e) st+gX n e*x)+ni ε (λk=>gK n k e) K) xs es
 |_,_,_=>[]
end Go.Eng

namespace Go.Eng
open F
attribute [local irreducible] AA AF AW AB AH pw HF AC AX BD BG BS BR E5 JY HO QD D7 A5 GE
variable {L:Lib}
set_option maxRecDepth 8000
def mz(Q:P')(n i:Nat):List (p_):=fz none (EN 3 eQ (Q.take i)) n
theorem pP{Q:P'}{n i:Nat}(hi:i<=n):(mz Q n i).length=n:=by
 refine Rx ?_;simp only[EN,na,za];omega
theorem pR(Q:P')(n:Nat):mz Q n 0=Na n none:=by simp[mz,fz]
theorem pQ{Q:P'}{n i:Nat}{row:o_}(h:Q[i]?=some row)(hi:i<n):(mz Q n i).set i (some (3,row.map eQ))=mz Q n (i+1):=by
 have h1:=(zS h).1;have hl:(EN 3 eQ (Q.take i)).length=i:=by simp only[EN,na,za];omega
 have:=Ry (z:=none) (l:=EN 3 eQ (Q.take i)) (m:=n) (x:=some (3,row.map eQ)) O'
 rw[hl]at this;rw[mz,this,mz,sQ h];simp[EN]
theorem pO{Q:P'}{n:Nat}(h:Q.length=n):mz Q n n=EN 3 eQ Q:=by
 rw[mz,zT O'];exact Rv (by simp[EN,h])
theorem KG{α:Type}{l:List α}{i:Nat}{x:α}(h:l[i]?=some x):l.take (i+1)=l.take i++[x]:=by
 rw[db,h];rfl
theorem vY{a:P'}{i j:Nat}{r:o_}{x:Rat}(hr:a[j]?=some r)(hx:r[i]?=some x):(DE a i)[j]?=some x:=by
 simp only[DE,sa,hr,zb,nT hx]
theorem dC{R:List (p_)}{e:Nat}{r:p_}{K:p_->Prop}(h:R[e]?=some r)(hk:K r):HF R e K:=by
 unfold HF;exact⟨r,h,hk⟩
def Y6(n:Nt)(inj:Int)(j:Nat):Int:=if j<n.s.toNat then(j:Int)+1 else if inj<0 then 0 else -1
def MK(n:Nt)(inj:Int)(j:Nat):Int:=if j<n.s.toNat then -1 else if inj<0 then -1 else inj
def FI(n:Nt)(inj:Int)(k j:Nat):o_:=G0 ((pw n.c.f:Int):Rat) (MK n inj j) 0 (CZ (1+n.s).toNat (Y6 n inj j)) ((CY n).take k)
def EE(n:Nt)(inj:Int)(k m:Nat):o_:=(Ga (n.s.toNat+1)).map λj=>(FI n inj k j).getD m 0
def HN(n:Nt)(inj:Int)(k:Nat):P':=(Ga ((1+n.s).toNat+k)).map (EE n inj k)
def FF(n:Nt)(inj:Int)(k:Nat)(ts:List (Int×Int))(t:Nat):o_:=(Ga (n.s.toNat+1)).map λj=>EF (FI n inj k j) (ts.take t)/((pw n.c.f:Int):Rat)
theorem lM(n:Nt)(inj:Int)(k j:Nat)(hk:k<=n.nodes.length):(FI n inj k j).length=(1+n.s).toNat+k:=by
 simp only[FI,Re,cQ,za,CY,na];omega
theorem WQ(n:Nt)(inj:Int)(k m:Nat):(EE n inj k m).length=n.s.toNat+1:=by simp[EE]
theorem jF(n:Nt)(inj:Int)(k:Nat):(HN n inj k).length=(1+n.s).toNat+k:=by simp[HN]
theorem vW(n:Nt)(inj:Int)(k j:Nat)(h2:WV n.c)(gd:VD (CY n))(hk:k<=n.nodes.length)(ep:n.nodes.length<=5):Bs 117150 (FI n inj k j):=by
 have hlt:(CY n).length=n.nodes.length:=by simp[CY]
 have Cn:=GQ n.c.f;have uc:(pw n.c.f).natAbs<=2^24:=by
  have hf:n.c.f<24:=by unfold WV at h2;omega
  have h9:(2:Nat)^n.c.f.toNat<=2^24:=ob O' O';rw[pw];exact_mod_cast h9
 have h:=Rc (ex:=MK n inj j) Cn uc ((CY n).take k) 0 (CZ (1+n.s).toNat (Y6 n inj j)) ⟨λts h=>gd.len ts (yb h),λts h=>gd.cf ts (yb h)⟩ (Bs.unit _ _ _);rw[za,hlt,Be hk,ic]at h;intro x hx;refine(h x hx).le ?_;rcases k with _|_|_|_|_|_|k
 ·decide
 ·decide
 ·decide
 ·decide
 ·decide
 ·decide
 ·omega
theorem vX(n:Nt)(inj:Int)(k j:Nat){ts:List (Int×Int)}(h:(CY n)[k]?=some ts):FI n inj (k+1) j=FI n inj k j++[EF (FI n inj k j) ts/((pw n.c.f:Int):Rat)+(if(k:Int)=MK n inj j then 1 else 0)]:=AjU _ _ _ _ k ts h
theorem AmM(n:Nt)(inj:Int)(hs:0<=n.s):EE n inj 0 0=CZ (n.s.toNat+1) (if inj<0 then n.s else -1):=by
 simp only[EE,FI,Pb,G0,CZ];refine Oa λj hj=>?_
 have hj:=Nc.1 hj;rw[da,sa,Ha O'];simp only[zb,Db,Y6];congr 1;rw[eq_iff_iff];split<;>split<;>omega
theorem AmL(n:Nt)(inj:Int)(i:Nat)(hs:0<=n.s)(hi:i<n.s.toNat):EE n inj 0 (i+1)=CZ (n.s.toNat+1) (i:Int):=by
 simp only[EE,FI,Pb,G0,CZ];refine Oa λj hj=>?_
 have hj:=Nc.1 hj;rw[da,sa,Ha O'];simp only[zb,Db,Y6];congr 1;rw[eq_iff_iff];split
 ·omega
 ·split<;>omega
theorem AmP(n:Nt)(inj:Int)(k:Nat){ts:List (Int×Int)}(h:(CY n)[k]?=some ts)(hk:k<n.nodes.length):HN n inj (k+1)=HN n inj k++[EE n inj (k+1) ((1+n.s).toNat+k)]:=by
 unfold HN;rw[show(1+n.s).toNat+(k+1)=((1+n.s).toNat+k)+1 by omega,Hd,Ce,vh];congr 1;refine Oa λm hm=>?_
 have hm:=Nc.1 hm;unfold EE;refine Oa λj _=>?_
 rw[vX n inj k j h,Aka (by rw[lM n inj k j O'];omega)]
theorem Vh(n:Nt)(inj:Int)(k:Nat){ts:List (Int×Int)}(h:(CY n)[k]?=some ts)(hk:k<n.nodes.length) :
  EE n inj (k+1) ((1+n.s).toNat+k)=(Ga (n.s.toNat+1)).map λj=>EF (FI n inj k j) ts/((pw n.c.f:Int):Rat)+(if(k:Int)=MK n inj j then 1 else 0):=by
 unfold EE;refine Oa λj _=>?_
 rw[vX n inj k j h,Aj9 (by rw[lM n inj k j O'])]
theorem AmO(n:Nt)(inj:Int)(k:Nat){ts:List (Int×Int)}(h:(CY n)[k]?=some ts)(hk:k<n.nodes.length)(o7:(k:Int)≠inj):FF n inj k ts ts.length=EE n inj (k+1) ((1+n.s).toNat+k):=by
 rw[Vh n inj k h hk];unfold FF;refine Oa λj _=>?_
 have:¬(k:Int)=MK n inj j:=by unfold MK;split<;>(try split)<;>omega
 rw[if_neg this,Dc,vb]
theorem AmN(n:Nt)(inj:Int)(k:Nat){ts:List (Int×Int)}(h:(CY n)[k]?=some ts)(hk:k<n.nodes.length)(he:(k:Int)=inj){x:Rat}(hx:(FF n inj k ts ts.length)[n.s.toNat]?=some x):(FF n inj k ts ts.length).set n.s.toNat (x+1)=EE n inj (k+1) ((1+n.s).toNat+k):=by
 rw[Vh n inj k h hk];refine Lh λj=>?_
 rw[Gf];have hl:(FF n inj k ts ts.length).length=n.s.toNat+1:=by simp[FF]
 by_cases hj:n.s.toNat=j
 ·subst hj
  rw[if_pos rfl,if_pos O',sa,Ha O'];simp only[FF,sa,Ha (show n.s.toNat<n.s.toNat+1 by omega),zb,lf,vb]at hx⊢;have:(k:Int)=MK n inj n.s.toNat:=by unfold MK;rw[if_neg O',if_neg O'];exact he
  rw[if_pos this,hx]
 ·rw[if_neg hj]
  by_cases h2:j<n.s.toNat+1
  ·simp only[FF,sa,Ha h2,zb,vb]
   have:¬(k:Int)=MK n inj j:=by unfold MK;rw[if_pos O'];omega
   rw[if_neg this,Dc]
  ·rw[Od O',Od K']
theorem Ahk(c f:Int):Ob c (pw f)=((c:Int):Rat)/((pw f:Int):Rat):=by
 obtain⟨d,hd⟩:=Ie (show 0<=pw f by have:=GQ f;omega);rw[hd,Bf,Jh];rfl
theorem sO(n:Nt)(inj:Int)(k:Nat)(ts:List (Int×Int))(t j:Nat)(hj:j<n.s.toNat+1):(FF n inj k ts t)[j]?=some (EF (FI n inj k j) (ts.take t)/((pw n.c.f:Int):Rat)):=by
 simp only[FF,sa,Ha hj,zb]
theorem AnR(n:Nt)(inj:Int)(k:Nat){ts:List (Int×Int)}{t j:Nat}{e:Int×Int}(he:ts[t]?=some e)(hj:j<n.s.toNat+1) :
  (FF n inj k ts (t+1))[j]?=some (EF (FI n inj k j) (ts.take t)/((pw n.c.f:Int):Rat)+((e.2:Int):Rat)/((pw n.c.f:Int):Rat)*(FI n inj k j).getD e.1.toNat 0):=by
 rw[sO n inj k ts (t+1) j hj,Xp he];congr 1;simp only[ub];grind
theorem AnS(n:Nt)(inj:Int)(k:Nat)(ts:List (Int×Int)){m:Nat}(hm:n.s.toNat=m):CZ (m+1) (-1)=FF n inj k ts 0:=by
 rw[FF,hm,CZ];refine Oa λj _=>?_
 rw[if_neg O',Pb,EF,ub,pd]
theorem AjT(N:ag L)(n:Nat)(j:Int)(hn:n<=65536):NJ L 135 [.int .i64 (n:Int),.int .i64 j] 3 ((CZ n j).map eQ):=by
 have hO:=NQ N.tob7 0 O';have hI:=NQ N.tob7 1 O';refine NJ.x N.PU rfl rfl ?_;(repeat' (apply AE<;>conv=>whnf))
 refine C0 (λi=>n-i) (λ(i:Nat)=>i<=n) (λi=>[(6,.int .i64 i),(5,.row 5 0 3 0 i)]) (λi=>[(5,5,.rw 3 ((CZ i j).map eQ))]) 0 O' ?_;intro i p1 ih;have hlen:=cQ i j;by_cases hi:i<n
 ·have rj:=An3 i j
  by_cases hj:(i:Int)=j
  ·rw[if_pos hj]at rj
   repeat' (first|apply AG<;>intro hc<;>try omega|apply CI|apply AE|refine AD (hI) ?_)<;>conv=>whnf
   refine C1 (enc:=eQ) ((1:Int):Rat) rfl hlen.symm rfl O' O' ?_;conv=>whnf
   repeat' (first|apply AR;omega|fail)<;>conv=>whnf
   rw[show(CZ i j++[((1:Int):Rat)]).length=i+1 by simp[hlen],show CZ i j++[((1:Int):Rat)]=CZ (i+1) j from rj.symm];exact BC [(5,18)] (ih (i+1) O' O')
  ·rw[if_neg hj]at rj
   repeat' (first|apply AG<;>intro hc<;>try omega|apply CI|apply AE|refine AD (hO) ?_)<;>conv=>whnf
   refine C1 (enc:=eQ) ((0:Int):Rat) rfl hlen.symm rfl O' O' ?_;conv=>whnf
   repeat' (first|apply AR;omega|fail)<;>conv=>whnf
   rw[show(CZ i j++[((0:Int):Rat)]).length=i+1 by simp[hlen],show CZ i j++[((0:Int):Rat)]=CZ (i+1) j from rj.symm];exact BC [(5,22)] (ih (i+1) O' O')
 ·obtain rfl:i=n:=O'
  clear ih;repeat' (first|apply AG<;>intro hc<;>try omega|apply AE)<;>conv=>whnf
  exact⟨rfl,rfl,by simp[hlen],rfl,ME _⟩
theorem zX(N:af L)(n:Nt)(inj:Int)(hv:C6 n=true)(gd:VD (CY n))(ep:n.nodes.length<=5)(nv:C3 inj) :
  Ev L 163 [.agg (BX n),.int .i64 inj] (.sl false ((HN n inj n.nodes.length).map λr=>[AV.sl false (r.map eQ)])):=by
 rw[CP]at hv;obtain⟨h1,h2,h3,h4,h5,h6⟩:=hv;unfold C3 at nv;have hwf:0<=n.c.f/\n.c.f<=62:=by unfold WV at h2;omega
 have Cn:=GQ n.c.f;have uc:(pw n.c.f).natAbs<=2^24:=by
  have hf:n.c.f<24:=by unfold WV at h2;omega
  have h9:(2:Nat)^n.c.f.toNat<=2^24:=ob O' O';rw[pw];exact_mod_cast h9
 have e24:(2:Nat)^24=16777216:=rfl;obtain⟨m,hm⟩:∃m:Nat,n.s=m:=⟨n.s.toNat,(qh O').symm⟩;have qg:n.s.toNat=m:=O'
 have ig:(1+n.s).toNat=m+1:=O'
 have hZ:∀j:Int,NJ L 135 [.int .i64 ((m:Int)+1),.int .i64 j] 3 ((CZ (m+1) j).map eQ):=λj=>AjT N.toag (m+1) j O'
 have hz0:EE n inj 0 0=CZ (m+1) (if inj<0 then n.s else -1):=by rw[AmM n inj O',qg]
 have Pc:∀i:Nat,i<m->EE n inj 0 (i+1)=CZ (m+1) (i:Int):=λi hi=>by rw[AmL n inj i O' O',qg]
 rw[hm]at hz0;refine Ev.x N.JQ rfl rfl ?_;refine Ael 6 ?_;conv=>whnf
 refine Aek 5 5 rfl ?_;repeat' (first|apply AG<;>intro hc<;>try omega|apply AR;omega|apply AE)<;>conv=>whnf
 all_goals rw[hm]
 rw[if_neg O']at hz0;rotate_left
 rw[if_pos O']at hz0;rotate_left
 all_goals
  refine cW (enc:=eQ) (m+1) (hZ _) (by simp[CZ]) ?_;rw[<-hz0];conv=>whnf
  refine A2 (by rw[na,WQ,qg]) ?_;refine ZJ (ll:=[]) (r:=EE n inj 0 0) (en:=eQ) rfl Z' Z' ?_;conv=>whnf
  skip
  try refine A9 (bp:=[(6,.int .i64 0),(5,.row 20 0 1 0 1),(2,.ptr 2 0 0 0),(0+1,.int .i64 inj)]) (M':=[(20,5,.mx (EN 3 eQ ([]++[EE n inj 0 0]))),(2,2,.bx [.int .i64 n.d.b,.int .i64 n.d.f,.int .i64 n.d.r,.int .i64 n.d.o,.int .i64 n.c.b,.int .i64 n.c.f,.int .i64 n.c.r,.int .i64 n.c.o,.int .i64 m,.sl n.qn (n.nodes.map QT),.sl n.qx (n.next.map AZ),.int .i64 n.out])]) [(20,29)] E' ?_
  refine C0 (λi=>m-i) (λ(i:Nat)=>i<=m) (λi=>[(6,.int .i64 i),(5,.row 20 0 1 0 (1+i))]) (λi=>[(20,5,.mx (EN 3 eQ ((Ga (1+i)).map (EE n inj 0))))]) 0 O' ?_;intro i p1 ih;have hlr:((Ga (1+i)).map (EE n inj 0)).length=1+i:=Z'
  by_cases hi:i<m
  ·have Pc:=Pc i hi
   have hsc:(Ga (1+i)).map (EE n inj 0)++[EE n inj 0 (i+1)]=(Ga (1+(i+1))).map (EE n inj 0):=by
    rw[show 1+(i+1)=(1+i)+1 by omega,Hd,Ce,vh,ze i 1]
   repeat' (first|apply AG<;>intro hc<;>try omega|apply AR;omega|apply AE)<;>conv=>whnf
   refine cW (enc:=eQ) (m+1) (hZ _) (by simp[CZ]) ?_;rw[<-Pc];conv=>whnf
   refine A2 (by rw[na,WQ,qg]) ?_;refine ZJ (r:=EE n inj 0 (i+1)) (en:=eQ) hlr.symm O' O' ?_;rw[hsc,show((Ga (1+(i+1))).map (EE n inj 0)).length=1+(i+1)by simp];conv=>whnf
   repeat' (first|apply AR;omega|fail)<;>conv=>whnf
   exact BC [(20,43)] (ih (i+1) O' O')
  obtain rfl:i=m:=O'
  clear ih;rw[show(Ga (1+i)).map (EE n inj 0)=HN n inj 0 by rw[HN,ig,ze]];have hlt:(CY n).length=n.nodes.length:=by simp[CY]
  repeat' (first|apply AG<;>intro hc<;>try omega|apply AE)<;>conv=>whnf
  refine DP (λk=>n.nodes.length-k) (λ(k:Nat)=>k<=n.nodes.length) (λk=>[(7,.int .i64 k),(5,.row 20 0 1 0 (i+1+k))]) (λk=>[(20,5,.mx (EN 3 eQ (HN n inj k)))]) [] [] 0 (by first|exact E'|(rw[ze 1 i];exact E')) O' ?_;intro k p2 ih;have gu:=jF n inj k;by_cases hk:k<n.nodes.length
  ·obtain⟨nd,hnd⟩:=N' n.nodes k hk
   have si:n.nodes[(k:Int).toNat]?=some nd:=hnd;have lu:(CY n)[k]?=some nd.ts:=by simp[CY,hnd]
   have Dt:=iJ h4 hnd;have hL:nd.ts.length<=5:=gd.len _ (zM lu);have hC:=gd.cf _ (zM lu);repeat' (first|apply AG<;>intro hc<;>try omega|apply AR;omega|apply AP|apply AE)<;>conv=>whnf
   refine cW (enc:=eQ) (i+1) (hZ _) (by simp[CZ]) ?_;rw[show CZ (i+1) (-1)=FF n inj k nd.ts 0 from AnS n inj k nd.ts qg];conv=>whnf
   refine C0 (λt=>nd.ts.length-t) (λ(t:Nat)=>t<=nd.ts.length) (λt=>[(9,.int .i64 t)]) (λt=>[(54,54,.rw 3 ((FF n inj k nd.ts t).map eQ))]) 0 O' ?_;intro t p3 th;by_cases ht:t<nd.ts.length
   ·obtain⟨e,he⟩:=N' nd.ts t ht
    have im:nd.ts[(t:Int).toNat]?=some e:=he;have Gj:=zM he;have k6:=mb.1 Dt e Gj;simp only[H0,decide_eq_true_eq]at k6;have Fs:=hC e Gj;have hF:=nE N.tob7 e.2 (pw n.c.f) O' O';rw[Ahk]at hF;have Dd:Bt 48 (((e.2:Int):Rat)/((pw n.c.f:Int):Rat)):=(Bt.ofInt Fs).xe Cn uc;repeat' (first|apply AG<;>intro hc<;>try omega|apply AP|refine A3 V' ?_ rfl ?_;omega|apply AE)<;>conv=>whnf
    refine DP (λj=>i+1-j) (λ(j:Nat)=>j<=i+1) (λj=>[(11,.int .i64 j)]) (λj=>[(54,54,.rw 3 (((FF n inj k nd.ts (t+1)).take j++(FF n inj k nd.ts t).drop j).map eQ))]) [] [] 0 (by first|exact E'|(rw[Pb,Gd,Ah];exact E')) O' ?_;intro j p4 jh;have Ad:(FF n inj k nd.ts (t+1)).length=i+1:=by simp[FF,qg]
    have eu:(FF n inj k nd.ts t).length=i+1:=by simp[FF,qg]
    have tu:((FF n inj k nd.ts (t+1)).take j++(FF n inj k nd.ts t).drop j).length=i+1:=by rw[Ma,za,Df];omega
    by_cases hj:j<i+1
    ·have Iz:=vW n inj k j h2 gd O' ep
     have s8:=lM n inj k j O';have o4:=AnR n inj k he (show j<n.s.toNat+1 by omega);have fw:=sO n inj k nd.ts t j O';obtain⟨x,hx⟩:=N' (EE n inj k e.1.toNat) j (by rw[WQ];omega);have Jv:(FI n inj k j).getD e.1.toNat 0=x:=by
      rw[EE,sa,Ha O',zb,lf]at hx;exact hx
     have ke:Bt 117150 x:=by rw[<-Jv];exact Iz.getD _
     rw[Jv]at o4;have Bl:Bt 586000 (EF (FI n inj k j) (nd.ts.take t)/((pw n.c.f:Int):Rat)):=by
      have a1:=Iz.sum (nd.ts.take t) (j:=24) (λe he=>Bt.ofInt (hC e (yb he)));have a2:Bt 585900 (EF (FI n inj k j) (nd.ts.take t)):=a1.le (by
       have:(nd.ts.take t).length<=5:=by rw[za];omega
       omega)
      exact(a2.xe Cn uc).le O'
     have Jp:(HN n inj k)[e.1.toNat]?=some (EE n inj k e.1.toNat):=by
      rw[HN,sa,Ha O'];rfl
     have km:((FF n inj k nd.ts (t+1)).take j++(FF n inj k nd.ts t).drop j)[j]?=some (EF (FI n inj k j) (nd.ts.take t)/((pw n.c.f:Int):Rat)):=by
      rw[Mc J',za,Be O',cd,Nf,Ef];exact fw
     have bj:=AlI (b:=FF n inj k nd.ts t) o4 O';have Hc:=WQ n inj k e.1.toNat;generalize EF (FI n inj k j) (nd.ts.take t)/((pw n.c.f:Int):Rat)=sm at*;have hM:=V1 N.tob7 Dd ke O' O';have hA:=QV N.tob7 Bl (Dd.mul ke) O' O';repeat' (first|apply AG<;>intro hc<;>try omega|apply A2;omega|refine H3 ?_ (λ_ _=>?_);omega|apply B1;omega|refine U7 ?_ (λ_=>rfl) (λv hv=>?_);omega|apply AE|refine AD (hF) ?_)<;>conv=>whnf
     cases km.symm.trans hv;skip
     refine Ae2 O' (λr hr=>?_);cases Jp.symm.trans hr;conv=>whnf
     skip
     refine A2 H' ?_;conv=>whnf
     refine Ae0 Jp ?_;conv=>whnf
     repeat' (first|refine U7 ?_ (λ_=>rfl) (λv hv=>?_);omega|fail)<;>conv=>whnf
     cases hx.symm.trans hv;repeat' (first|apply A2;omega|refine AD (hM) ?_|refine AD (hA) ?_)<;>conv=>whnf
     refine HS (enc:=eQ) (sm+((e.2:Int):Rat)/((pw n.c.f:Int):Rat)*x) rfl (λ_=>rfl) O' ?_;conv=>whnf
     rw[bj];repeat' (first|apply AR;omega|fail)<;>conv=>whnf
     exact BC [] (jh (j+1) O' O')
    ·obtain rfl:j=i+1:=O'
     clear jh;rw[zT O',dd O',yc];repeat' (first|apply AG<;>intro hc<;>try omega|apply AR;omega|apply AE)<;>conv=>whnf
     exact BC [] (th (t+1) O' O')
   ·obtain rfl:t=nd.ts.length:=O'
    clear th;have hI:=NQ N.tob7 1 O';have eu:(FF n inj k nd.ts nd.ts.length).length=i+1:=by simp[FF,qg]
    have He:=AmP n inj k lu hk;have Hb:=jF n inj (k+1);have fw:=sO n inj k nd.ts nd.ts.length i O';have Iz:=vW n inj k i h2 gd O' ep;have Bl:Bt 586000 (EF (FI n inj k i) (nd.ts.take nd.ts.length)/((pw n.c.f:Int):Rat)):=by
     have a1:=Iz.sum (nd.ts.take nd.ts.length) (j:=24) (λe he=>Bt.ofInt (hC e (yb he)));have a2:Bt 585900 (EF (FI n inj k i) (nd.ts.take nd.ts.length)):=a1.le (by
      have:(nd.ts.take nd.ts.length).length<=5:=by rw[za];omega
      omega)
     exact(a2.xe Cn uc).le O'
    have Hc:=WQ n inj (k+1) ((1+n.s).toNat+k);by_cases rz:(k:Int)=inj
    ·all_goals try omega
     all_goals
      have hri:=AmN n inj k lu hk rz (x:=EF (FI n inj k i) (nd.ts.take nd.ts.length)/((pw n.c.f:Int):Rat)) (by rw[qg];exact fw);rw[qg]at hri;generalize EF (FI n inj k i) (nd.ts.take nd.ts.length)/((pw n.c.f:Int):Rat)=sm at*;have hA:=QV N.tob7 Bl (Bt.ofInt (k:=0) (z:=1) Y') O' O';repeat' (first|apply AG<;>intro hc<;>try omega|apply A2;omega|apply AP|refine A3 V' ?_ rfl ?_;omega|refine U7 ?_ (λ_=>rfl) (λv hv=>?_);omega|apply AE|refine AD (hI) ?_)<;>conv=>whnf
      cases fw.symm.trans hv;repeat' (first|apply A2;omega|refine AD (hA) ?_)<;>conv=>whnf
      refine HS (enc:=eQ) (sm+1) rfl (λ_=>rfl) O' ?_;conv=>whnf
      rw[hri];refine A2 H' ?_;refine ZJ (r:=EE n inj (k+1) ((1+n.s).toNat+k)) (en:=eQ) O' O' O' ?_;rw[<-He,Hb,ig];conv=>whnf
      repeat' (first|apply AR;omega|fail)<;>conv=>whnf
      exact BC [(20,123)] (ih (k+1) O' O')
    ·rw[AmO n inj k lu hk rz]
     repeat' (first|apply AG<;>intro hc<;>try omega|apply AP|refine A3 V' ?_ rfl ?_;omega|apply AE)<;>conv=>whnf
     refine A2 H' ?_;refine ZJ (r:=EE n inj (k+1) ((1+n.s).toNat+k)) (en:=eQ) O' O' O' ?_;rw[<-He,Hb,ig];conv=>whnf
     repeat' (first|apply AR;omega|fail)<;>conv=>whnf
     exact BC [(20,123)] (ih (k+1) O' O')
  ·obtain rfl:k=n.nodes.length:=O'
   clear ih;repeat' (first|apply AG<;>intro hc<;>try omega|apply AP|apply AE)<;>conv=>whnf
   refine VE (λ_=>rfl) rfl O' ?_;conv=>whnf
   refine AU rfl ?_;simp only[AY,true_and];exact LS (λr=>by simp only[BI,AY,and_true,true_and];exact ME r) _
abbrev eV(r:o_):w_:=[.sl false (r.map eQ)]
def EG(n:Nt)(R:P'):HI where
 a:=n.next.map λe=>(R.getD e.toNat []).take n.s.toNat
 b:=n.next.map λe=>(R.getD e.toNat []).getD n.s.toNat 0
 c:=(R.getD n.out.toNat []).take n.s.toNat
 d:=(R.getD n.out.toNat []).getD n.s.toNat 0
theorem zY(N:af L)(n:Nt)(R:P')(hv:C6 n=true)(hR:(R.length:Int)=1+n.s+n.nodes.length)(hr:∀r∈R,r.length=n.s.toNat+1) :
  Ev L 164 [.agg (BX n),.sl false (R.map eV)] (.agg (eS (EG n R))):=by
 rw[CP]at hv;obtain⟨h1,h2,h3,h4,h5,h6⟩:=hv;have hnx:∀e∈n.next,0<=e/\e<=n.s+n.nodes.length:=λe he=>by simpa using mb.1 h5 e he
 obtain⟨m,hm⟩:∃m:Nat,n.s=m:=⟨n.s.toNat,(qh O').symm⟩;have qg:n.s.toNat=m:=O'
 obtain⟨ro,yk⟩:=N' R n.out.toNat;have ABH:=hr ro (zM yk);obtain⟨x,hx⟩:=N' ro m;have ud:ro[(m:Int).toNat]?=some x:=hx;have dz:(EG n R).c=ro.take m:=by simp only[EG,da,yk,qg,Db]
 have qa:(EG n R).d=x:=by simp only[EG,da,yk,qg,Db,hx]
 have me:(EG n R).a.length=m:=by simp[EG];omega
 have kb:(EG n R).b.length=m:=by simp[EG];omega
 refine Ev.x N.PS rfl rfl ?_;repeat' (first|refine A3 V' ?_ rfl ?_;omega|apply AE)<;>conv=>whnf
 rw[hm];refine QM (λ_=>rfl) O' ?_;conv=>whnf
 repeat' (first|refine A3 V' ?_ rfl ?_;omega|fail)<;>conv=>whnf
 refine DT (λi _=>m-i) (λ(i:Nat)(f3:Bool)=>i<=m/\f3=decide (i=0)) (λi f3=>[(6,.int .i64 i)]) (λi f3=>bif f3 then[]else[(5,5,.bx ([.row 45 0 1 0 i,.row 62 0 3 0 i,.sl false ((ro.take m).map eQ)]++eQ x)),(45,45,.rw 1 (((EG n R).a.take i).map eV)),(62,62,.rw 3 (((EG n R).b.take i).map eQ))]) 0 true ⟨O',rfl⟩ ?_;intro i f3 ⟨p1,p2⟩ ih;by_cases hi:i<m
 ·obtain⟨e,he⟩:=N' n.next i
  have hx2:n.next[(i:Int).toNat]?=some e:=he
  have hen:=hnx e (zM he);obtain⟨re,Nw⟩:=N' R e.toNat;have hrel:=hr re (zM Nw);obtain⟨y,hy⟩:=N' re m;have Ai:re[(m:Int).toNat]?=some y:=hy;have ha:(EG n R).a[i]?=some (re.take m):=by simp only[EG,sa,he,zb,da,Nw,qg,Db]
  have hb:(EG n R).b[i]?=some y:=by simp only[EG,sa,he,zb,da,Nw,qg,Db,hy]
  have hta:((EG n R).a.take i).length=i:=by rw[za];omega
  have Hg:((EG n R).b.take i).length=i:=by rw[za];omega
  have Oj:((EG n R).a.take (i+1)).length=i+1:=by rw[za];omega
  have Ol:((EG n R).b.take (i+1)).length=i+1:=by rw[za];omega
  have hsa:=sQ ha;have hsb:=sQ hb;cases f3
  ·repeat' (first|apply AG<;>intro hc<;>try omega|refine A3 V' ?_ rfl ?_;omega|apply AE)<;>conv=>whnf
   refine QM (λ_=>rfl) O' ?_;conv=>whnf
   (repeat' (apply CI<;>conv=>whnf))
   refine C1 (enc:=eV) (re.take m) rfl hta.symm rfl O' O' ?_;rw[<-hsa,Oj];conv=>whnf
   repeat' (first|refine A3 V' ?_ rfl ?_;omega|apply CI)<;>conv=>whnf
   refine C1 (enc:=eQ) y rfl Hg.symm rfl O' O' ?_;rw[<-hsb,Ol];conv=>whnf
   repeat' (first|apply AR;omega|fail)<;>conv=>whnf
   exact BC [(45,1000045),(62,1000062)] (ih (i+1) false O' ⟨O',Z'⟩)
  ·obtain rfl:i=0:=by simpa using p2.symm
   repeat' (first|apply AG<;>intro hc<;>try omega|refine A3 V' ?_ rfl ?_;omega|apply AE)<;>conv=>whnf
   refine QM (λ_=>rfl) O' ?_;conv=>whnf
   (repeat' (apply CI<;>conv=>whnf))
   refine L8 (enc:=eV) (re.take m) rfl rfl O' ?_;rw[show[re.take m]=(EG n R).a.take (0+1)by rw[hsa];rfl];conv=>whnf
   repeat' (first|refine A3 V' ?_ rfl ?_;omega|apply CI)<;>conv=>whnf
   refine L8 (enc:=eQ) y rfl rfl O' ?_;rw[show[y]=(EG n R).b.take (0+1)by rw[hsb];rfl];conv=>whnf
   repeat' (first|apply AR;omega|fail)<;>conv=>whnf
   exact BC [] (ih (0+1) false O' ⟨O',Z'⟩)
 ·obtain rfl:i=m:=O'
  clear ih;rw[zT (show(EG n R).a.length<=i by omega),zT (show(EG n R).b.length<=i by omega)];cases f3
  ·repeat' (first|apply AG<;>intro hc<;>try omega|apply AE)<;>conv=>whnf
   refine CR (enc:=eV) (λ_=>rfl) rfl me.symm ?_;conv=>whnf
   refine CR (enc:=eQ) (λ_=>rfl) rfl kb.symm ?_;conv=>whnf
   exact AU (by rw[<-qa,<-dz];rfl) (eE _)
  ·obtain rfl:i=0:=by simpa using p2.symm
   have zu:(EG n R).a=[]:=zg me;have jd:(EG n R).b=[]:=zg kb;repeat' (first|apply AG<;>intro hc<;>try omega|apply AE)<;>conv=>whnf
   exact AU (by rw[<-qa,<-dz,eS,zu,jd];rfl) (eE _)
theorem AgP(n:Nt)(inj:Int)(j:Nat)(hj:j<n.s.toNat):FI n inj n.nodes.length j=GS n ((j:Int)+1) (-1):=by
 have hlt:(CY n).length=n.nodes.length:=by simp[CY]
 rw[FI,<-hlt,vb,MK,Y6,if_pos hj,if_pos hj];rfl
theorem AgO(n:Nt)(inj:Int):FI n inj n.nodes.length n.s.toNat=if inj<0 then GS n 0 (-1)else GS n (-1) inj:=by
 have hlt:(CY n).length=n.nodes.length:=by simp[CY]
 rw[FI,<-hlt,vb];unfold MK Y6;rw[if_neg (oi _),if_neg (oi _)];by_cases h:inj<0
 ·simp only[if_pos h];rfl
 ·simp only[if_neg h];rfl
theorem jG(n:Nt)(inj:Int){m:Nat}(hm:m<(1+n.s).toNat+n.nodes.length):(HN n inj n.nodes.length).getD m []=EE n inj n.nodes.length m:=by
 rw[da,HN,sa,Ha hm];rfl
theorem Vk(n:Nt)(inj:Int)(m:Nat):(EE n inj n.nodes.length m).take n.s.toNat=(Ga n.s.toNat).map λ(j:Nat)=>(GS n ((j:Int)+1) (-1)).getD m 0:=by
 rw[EE,<-List.map_take,Hd,List.take_append_of_le_length Z',zT Z'];refine Oa λj hj=>?_
 rw[AgP n inj j (Nc.1 hj)]
theorem Vj(n:Nt)(inj:Int)(m:Nat):(EE n inj n.nodes.length m).getD n.s.toNat 0=(if inj<0 then GS n 0 (-1)else GS n (-1) inj).getD m 0:=by
 rw[EE,da,sa,Ha O',zb,Db,AgO]
theorem Xt(n:Nt)(inj:Int)(hv:C6 n=true):EG n (HN n inj n.nodes.length)=if inj<0 then FC n else IL n inj:=by
 rw[CP]at hv;obtain⟨h1,h2,h3,h4,h5,h6⟩:=hv;have hnx:∀e∈n.next,0<=e/\e<=n.s+n.nodes.length:=λe he=>by simpa using mb.1 h5 e he
 have ea:(EG n (HN n inj n.nodes.length)).a=(FC n).a:=by
  simp only[EG,FC];refine Oa λe he=>?_
  have:=hnx e he
  rw[jG n inj O',Vk]
 have ec:(EG n (HN n inj n.nodes.length)).c=(FC n).c:=by
  simp only[EG,FC];rw[jG n inj O',Vk]
 have eb:(EG n (HN n inj n.nodes.length)).b=n.next.map λe=>(if inj<0 then GS n 0 (-1)else GS n (-1) inj).getD e.toNat 0:=by
  simp only[EG];refine Oa λe he=>?_
  have:=hnx e he
  rw[jG n inj O',Vj]
 have ed:(EG n (HN n inj n.nodes.length)).d=(if inj<0 then GS n 0 (-1)else GS n (-1) inj).getD n.out.toNat 0:=by
  simp only[EG];rw[jG n inj O',Vj]
 generalize EG n (HN n inj n.nodes.length)=S at*;obtain⟨a,b,c,d⟩:=S;simp only at ea eb ec ed;subst ea eb ec ed;split<;>rfl
theorem yH(I:a8 L)(N:af L)(n:Nt)(hv:C6 n=true)(gd:VD (CY n))(ep:n.nodes.length<=5):Ev L 165 [.agg (BX n)] (.j4 [.agg (eS (FC n)),.int .i64 0]):=by
 have hV:=V6 n I N.tok7;rw[hv]at hV;have hR:=zX N n (-1) hv gd ep (by unfold C3;omega);have h3:=(CP n).1 hv;have hS:=zY N n (HN n (-1) n.nodes.length) hv (by rw[jF];omega) (λr hr=>by
  obtain⟨m,_,rfl⟩:=Pa.1 hr;exact WQ _ _ _ _)
 rw[Xt n (-1) hv,if_pos O']at hS;refine Ev.x N.UN rfl rfl ?_;repeat' (first|apply AE|refine AD (hV) ?_|refine AD (hR) ?_|refine AD (hS) ?_)<;>conv=>whnf
 refine AU rfl ?_;simp only[AY,BI,and_true];exact eE (FC n)
theorem Aiy(I:a8 L)(N:af L)(n:Nt)(node:Int)(hv:C6 n=true)(gd:VD (CY n))(ep:n.nodes.length<=5)(hnI:C3 node):Ev L 166 [.agg (BX n),.int .i64 node] (gM n node):=by
 have hV:=V6 n I N.tok7;rw[hv]at hV;have h3:=(CP n).1 hv;have hIn:=MJ I node 0 ((n.nodes.length:Int)-1);refine Ev.x N.UM rfl rfl ?_;by_cases gp:0<=node/\node<n.nodes.length
 ·have hR:=zX N n node hv gd ep hnI
  have hS:=zY N n (HN n node n.nodes.length) hv (by rw[jF];omega) (λr hr=>by
   obtain⟨m,_,rfl⟩:=Pa.1 hr;exact WQ _ _ _ _)
  rw[Xt n node hv,if_neg O']at hS;rw[decide_eq_true O']at hIn;repeat' (first|apply BP;omega|apply AP|apply AE|refine AD (hV) ?_|refine AD (hIn) ?_|refine AD (hR) ?_|refine AD (hS) ?_)<;>conv=>whnf
  rw[gM,if_pos gp];refine AU rfl ?_;simp only[AY,BI,and_true];exact eE (IL n node)
 ·rw[decide_eq_false O']at hIn
  repeat' (first|apply BP;omega|apply AP|apply AE|refine AD (hV) ?_|refine AD (hIn) ?_)<;>conv=>whnf
  rw[gM,if_neg gp];exact AU rfl (AgB 1)
end Go.Eng

namespace Go.Eng
open Go.ChangeShapes Go.WideShapes Go.ChangeAt Go.RowKit
inductive Ty where
 |int (k:IntKind)
 |bool
 |sl (e:Ty)
 |nil
 |cons (a r:Ty)
def Ty.cells:Ty->Nat
 |.int _=>1 |.bool=>1 |.sl _=>1
 |.nil=>0
 |.cons a r=>a.cells+r.cells
def LM(l:Bool):Ty->w_->Prop
 |.int k,cs=>∃n,cs=[.int k n]/\(Lit.int k n).wf=true
 |.bool,cs=>∃b,cs=[.bool b]
 |.sl e,cs=>∃es,cs=[.sl l es]/\es.length<=maxLen/\∀x∈es,LM l e x
 |.nil,cs=>cs=[]
 |.cons a r,cs=>∃x y,cs=x++y/\LM l a x/\LM l r y
abbrev RO:=LM true
theorem LM.len{l:Bool}:∀{ty:Ty}{cs:w_},LM l ty cs->cs.length=ty.cells
 |.int _,cs,h=>by obtain⟨n,rfl,_⟩:=h;rfl
 |.bool,cs,h=>by obtain⟨n,rfl⟩:=h;rfl
 |.sl _,cs,h=>by obtain⟨n,rfl,_⟩:=h;rfl
 |.nil,cs,h=>by rw[show cs=[]from h];rfl
 |.cons a r,cs,h=>by obtain⟨x,y,rfl,h1,h2⟩:=h;simp[Ty.cells,LM.len h1,LM.len h2]
def M5(P:Program):Nat->TypeId->Ty->Bool
 |0,_,_=>false
 |n+1,t,ty=>match P.underlying t,ty with
  |some (.int k),.int k'=>decide (k=k')
  |some .bool,.bool=>true
  |some (.slice e),.sl mo=>M5 P n e mo&&(P.cellsOf e == mo.cells&&decide (0<mo.cells))
  |some (.struct fs),ty=>go (M5 P n) fs.toList 0 ty&&P.cellsOf t == ty.cells
  |_,_=>false
where
 go (ok:TypeId->Ty->Bool):List Field->Nat->Ty->Bool
  |[],_,.nil=>true
  |f::fs,off,.cons a r=>(f.offset == off&&(ok f.type a&&P.cellsOf f.type == a.cells))&&go ok fs (off+a.cells) r
  |_,_,_=>false
section
variable {H:Type} {enc:TypeId × Value->H} {P:Program} {w:World} {base:Nat} {spare:Nat->Bool} {held:Bool} {R:Bool->Nat->Prop}
def JE(w:World)(R:Bool->Nat->Prop)(as:w_)(cs:List Value):Prop:=as.length=cs.length/\∀(j:Nat)(a:AV)(c:Value),as[j]?=some a->cs[j]?=some c->Rd w R a c
theorem JE.one{a:AV}{c:Value}(h:Rd w R a c):JE w R [a] [c]:=by
 refine⟨rfl,λj a' c' h1 h2=>?_⟩;cases j with
 |zero=>simp at h1 h2;subst h1 h2;exact h
 |succ j=>simp at h1
theorem JE.append{as bs:w_}{cs ds:List Value}(h1:JE w R as cs)(h2:JE w R bs ds):JE w R (as++bs) (cs++ds):=by
 refine⟨by simp[h1.1,h2.1],λj a c ha hc=>?_⟩;by_cases hj:j<as.length
 ·rw[ve hj]at ha
  rw[ve (by rw[<-h1.1];exact hj)]at hc;exact h1.2 j a c ha hc
 ·rw[Mc O']at ha
  rw[Mc (by rw[<-h1.1];omega),<-h1.1]at hc;exact h2.2 _ a c ha hc
theorem uO(a:Addr)(i:Nat)(h:a.spot=none):a.add i=⟨a.block,a.off+i,none⟩:=by
 obtain⟨b,o,s⟩:=a;simp only at h;subst h;exact I0 b o i
theorem Wo{l:Bool}(hR:∀b,b<w.heap.size->R l b)(m:Nat)(ih:∀(ty:Ty)(t:TypeId)(cs:List Value)(fuel:Nat)(x:DataW H×List MemPlace),M5 P m t ty=true->DataW.trod enc P w base spare held fuel t cs=some x->∃as,LM l ty as/\JE w R as cs)
  (n:Nat) (cs:List Value):∀(fs:List Field)(off:Nat)(ty:Ty),M5.go P (M5 P m) fs off ty=true->(∀f∈fs,∃y,DataW.trod enc P w base spare held n f.type ((cs.drop f.offset).take (P.cellsOf f.type))=some y)->off+ty.cells=cs.length->∃as,LM l ty as/\JE w R as (cs.drop off)
 |[],off,ty,k6,_,hl=>by
  cases ty<;>simp only[M5.go,ph]at k6;simp only[Ty.cells]at hl;exact⟨[],rfl,by rw[dd O'];exact⟨rfl,λj a c h=>by simp at h⟩⟩
 |f::fs,off,ty,k6,hf,hl=>by
  cases ty<;>simp only[M5.go,ph,Je,beq_iff_eq]at k6;rename_i a r;obtain⟨⟨h1,h2,h3⟩,h4⟩:=k6;simp only[Ty.cells]at hl;obtain⟨y,hy⟩:=hf f Ca;rw[h1,h3]at hy;obtain⟨Zw,g1,g2⟩:=ih a f.type _ n y h2 hy;obtain⟨Zx,g3,g4⟩:=Wo hR m ih n cs fs (off+a.cells) r h4 (λf' h'=>hf f' (Da _ h')) O';refine⟨Zw++Zx,⟨Zw,Zx,rfl,g1,g3⟩,?_⟩;have:=g2.append g4
  rwa [show(cs.drop off).take a.cells++cs.drop (off+a.cells)=cs.drop off by rw[<-List.drop_drop,Ae]]at this
theorem qH{l:Bool}(hR:∀b,b<w.heap.size->R l b):∀(m:Nat)(ty:Ty)(t:TypeId)(cs:List Value)(fuel:Nat)(x:DataW H×List MemPlace),M5 P m t ty=true->DataW.trod enc P w base spare held fuel t cs=some x->∃as,LM l ty as/\JE w R as cs
 |0,_,_,_,_,_,h,_=>by simp[M5]at h
 |m+1,ty,t,cs,fuel,x,k6,h=>by
  have ih:=qH hR m;simp only[M5]at k6;split at k6
  ·rename_i k k' hu
   obtain rfl:k=k':=by simpa using k6
   obtain⟨n,rfl,_,hw⟩:=DataW.trod_int hu h;exact⟨[.int k n],⟨n,rfl,hw⟩,JE.one (.int k n)⟩
  ·rename_i hu
   cases fuel with
   |zero=>simp[DataW.trod]at h
   |succ fuel=>
    unfold DataW.trod at h;rw[hu]at h;split at h<;>simp_all
    exact⟨_,⟨_,rfl⟩,JE.one (.bool _)⟩
  ·rename_i e mo hu
   simp only[Je,beq_iff_eq,decide_eq_true_eq]at k6;obtain⟨h1,h2,h3⟩:=k6;rcases DataW.trod_slice hu h with⟨rfl,_⟩|⟨a,len,cap,elems,rest,n,_,rfl,_,hb,hl,hm,hlen,ef,_,_⟩
   ·exact⟨[.sl l []],⟨[],rfl,Z',Z'⟩,JE.one (.jb l none 0)⟩
   ·have each:∀i,i<len->∃as fu,LM l mo as/\JE w R as fu/\fu.length=mo.cells/\∀j,j<mo.cells->w.cell? ((a.add (i*mo.cells)).add j)=fu[j]? := by
     intro i hi;have:=ef i hi
     rw[h2,zE O',Option.bind_eq_some_iff]at this;obtain⟨fu,hc,ht⟩:=this;obtain⟨as,g1,g2⟩:=ih mo e fu n _ h1 ht;obtain⟨_,q1,q2⟩:=World.cells?_some hc;exact⟨as,fu,g1,g2,q1,q2⟩
    by_cases h0:len=0
    ·subst h0
     exact⟨[.sl l []],⟨[],rfl,Z',Z'⟩,JE.one (.jb l (some a) cap)⟩
    ·have Af:a.spot=none:=by
      obtain⟨as,fu,_,_,q1,q2⟩:=each 0 O';have:=q2 0 h3
      rw[zE O']at this;simpa [Addr.add]using World.cell?_spot this
     have hblk:a.block<w.heap.size:=by
      obtain⟨as,fu,_,_,q1,q2⟩:=each 0 O';have:=q2 0 h3
      rw[zE O']at this;simpa [Addr.add]using RS this
     have pick:∃f:Nat->List AV×List Value,∀i,i<len->LM l mo (f i).1/\JE w R (f i).1 (f i).2/\(f i).2.length=mo.cells/\∀j,j<mo.cells->w.cell? ((a.add (i*mo.cells)).add j)=(f i).2[j]? := by
      refine⟨λi=>if hi:i<len then(Classical.choose (each i hi),Classical.choose (Classical.choose_spec (each i hi)))else([],[]),λi hi=>?_⟩;simp only[hi,dif_pos];exact Classical.choose_spec (Classical.choose_spec (each i hi))
     obtain⟨f,hf⟩:=pick;have l9:∀i e',((Ga len).map λi=>(f i).1)[i]?=some e'->i<len/\e'=(f i).1:=by
      intro i e' he;rw[sa]at he;by_cases hi:i<len
      ·rw[Ha hi]at he
       simp at he;exact⟨hi,he.symm⟩
      ·rw[Od (by simpa using hi)]at he
       cases he
     refine⟨[.sl l ((Ga len).map λi=>(f i).1)],⟨_,rfl,by simp;omega,λx hx=>?_⟩,JE.one ?_⟩
     ·obtain⟨i,hi,rfl⟩:=Pa.1 hx
      exact(hf i (Nc.1 hi)).1
     ·obtain⟨ab,ao,as⟩:=a
      simp only at Af;subst Af;have Aa:((Ga len).map λi=>(f i).1).length=len:=Z'
      have:=Rd.sl (w:=w) (R:=R) l ((Ga len).map λi=>(f i).1) ab ao mo.cells cap (λi j=>((f i).2[j]?).getD default) (by intro e;have:=congrArg ai e;simp at this;omega) h3 (hR ab hblk) (by rw[Aa];exact hl)
       (λe' he=>by
        obtain⟨i,hi,rfl⟩:=Pa.1 he;exact(hf i (Nc.1 hi)).1.len)
       (λi e' he j c hc=>by
        obtain⟨hi,rfl⟩:=l9 i e' he;obtain⟨g1,g2,g3,g4⟩:=hf i hi;have hj:j<mo.cells:=by
         have:=(zS hc).1
         rwa [g1.len]at this
        have h5:=g4 j hj;rw[uO ⟨ab,ao,none⟩ (i*mo.cells) rfl,uO _ _ rfl]at h5;simp only at h5;rw[show ao+(i*mo.cells+j)=ao+i*mo.cells+j by omega,h5,zE O'];rfl)
       (λi e' he j c hc=>by
        obtain⟨hi,rfl⟩:=l9 i e' he;obtain⟨g1,g2,g3,g4⟩:=hf i hi;have hj:j<mo.cells:=by
         have:=(zS hc).1
         rwa [g1.len]at this
        have h6:(f i).2[j]?=some ((f i).2[j]' O'):=zE _;rw[h6];exact g2.2 j c _ hc h6)
      rwa [Aa]at this
  ·rename_i fs hu
   simp only[Je,beq_iff_eq]at k6;obtain⟨h1,h2⟩:=k6;obtain⟨xs,n,_,_,hl,hlen,hf⟩:=DataW.trod_struct hu h;have:=Wo hR m ih n cs fs.toList 0 _ h1 (λf nq=>by
    obtain⟨i,hi,rfl⟩:=List.getElem_of_mem nq;have h5:=hf i fs.toList[i] Z';rw[h5,zE (by simpa [hlen]using hi)];exact⟨_,rfl⟩) (by rw[hl,h2];omega)
   simpa using this
  ·exact absurd k6 Z'
theorem qI{S:Nat->Prop}{ty:Ty}{t:TypeId}{v:Value}{d:DataW H}{ps:List MemPlace}{m:Nat}(k6:M5 P m t ty=true)(hv:v.cells.toList=[v])(h:DataW.Trod enc P w base spare held t v d ps) :
  ∃a,RO ty [a]/\CA w.heap.size S ⟨λ_ _=>none,Own.emp,w⟩ a v:=by
 obtain⟨fuel,hf⟩:=h;rw[hv]at hf;obtain⟨as,h1,h2⟩:=qH (R:=safe w.heap.size S ⟨λ_ _=>none,Own.emp,w⟩) (λb hb=>Or.inr (Or.inr ⟨rfl,hb⟩)) m ty t [v] fuel _ k6 hf;obtain⟨a,rfl⟩:∃a,as=[a]:=by
  have:=h2.1
  match as,this with
  |[a],_=>exact⟨a,rfl⟩
 exact⟨a,h1,.one (.rd (h2.2 0 a v rfl rfl))⟩
theorem Amd{S:Nat->Prop}{ty:Ty}{t:TypeId}{cs:Array Value}{d:DataW H}{ps:List MemPlace}{m:Nat}(k6:M5 P m t ty=true)(h:DataW.Trod enc P w base spare held t (.agg cs) d ps) :
  ∃as,RO ty as/\CA w.heap.size S ⟨λ_ _=>none,Own.emp,w⟩ (.agg as) (.agg cs):=by
 obtain⟨fuel,hf⟩:=h;obtain⟨as,h1,h2⟩:=qH (R:=safe w.heap.size S ⟨λ_ _=>none,Own.emp,w⟩) (λb hb=>Or.inr (Or.inr ⟨rfl,hb⟩)) m ty t cs.toList fuel _ k6 hf;refine⟨as,h1,?_⟩;have:=CA.agg (B:=w.heap.size) (S:=S) (m:=⟨λ_ _=>none,Own.emp,w⟩) as cs.toList ⟨h2.1,λj c v hc hv=>.rd (h2.2 j c v hc hv)⟩
 simpa using this
end
theorem Af7{B:Nat}{S:Nat->Prop}{m:M}:∀(j:Nat)(c:AV)(v:Value),([]:w_)[j]?=some c->([]:List Value)[j]?=some v->CA B S m c v:=λj c v h=>by simp at h
theorem dS{B:Nat}{S:Nat->Prop}{m:M}{a:AV}{u:Value}{as:w_}{us:List Value}(h:CA B S m a u)(hr:∀(j:Nat)(c:AV)(v:Value),as[j]?=some c->us[j]?=some v->CA B S m c v) :
  ∀(j:Nat)(c:AV)(v:Value),(a::as)[j]?=some c->(u::us)[j]?=some v->CA B S m c v
 |0,c,v,h1,h2=>by simp at h1 h2;subst h1 h2;exact h
 |j+1,c,v,h1,h2=>hr j c v (by simpa using h1) (by simpa using h2)
theorem Alh{I:EL}{P:Program}{num:Nat->Nat}{L:Lib}(hP:XJ I P num L){f:Nat}{vs:w_}(h:Ev L f vs (.bool true)){S:Nat->Prop}{w:World}{us:List Value}(hw:I.ok w)(hl:vs.length=us.length)
  (ha:∀(j:Nat)(c:AV)(v:Value),vs[j]?=some c->us[j]?=some v->CA w.heap.size S ⟨λ_ _=>none,Own.emp,w⟩ c v) :
  Calls P (num f) us.toArray w λe w'=>e = .returned (.bool true)/\Below w.heap.size w w':=by
 obtain⟨n,hn⟩:=h;refine((vC hP n).pure f vs _ hn S w us hw hl ha).mono ?_;rintro e w' ⟨u,rfl,hb,hcv,_⟩
 refine⟨?_,hb.toBelow⟩;cases hcv with
 |ca qw=>cases qw with
  |one bu=>cases bu with
   |rd jx=>cases jx;rfl
end Go.Eng

namespace Go.Eng
abbrev tI:Ty := .int .i64
theorem pY(x:Rat):x.num<0↔x<0:=by rw[<-ij,yi,xj]
theorem ZZ(x:Rat):BW x=if x<0 then -x else x:=by
 unfold BW;by_cases h:x<0
 ·rw[if_pos h,if_pos ((pY x).2 h)]
 ·rw[if_neg h,if_neg (λe=>h ((pY x).1 e))]
theorem kU(x:Rat):0<=BW x:=by
 rw[ZZ];split
 ·grind
 ·grind
theorem kT(x y:Rat):BW (x*y)=BW x*BW y:=by
 have pp:∀a b:Rat,0<=a->0<=b->0<=a*b:=λa b=>cg
 rw[ZZ,ZZ,ZZ];by_cases hx:x<0
 ·by_cases hy:y<0
  ·have h:=pp (-x) (-y) A' A'
   rw[if_pos hx,if_pos hy,if_neg (by rw[Rat.not_lt];grind)];grind
  ·have h:=pp (-x) y A' A'
   rw[if_pos hx,if_neg hy];by_cases h0:x*y<0
   ·rw[if_pos h0];grind
   ·rw[if_neg h0];grind
 ·by_cases hy:y<0
  ·have h:=pp x (-y) A' A'
   rw[if_neg hx,if_pos hy];by_cases h0:x*y<0
   ·rw[if_pos h0];grind
   ·rw[if_neg h0];grind
  ·have h:=pp x y A' A'
   rw[if_neg hx,if_neg hy,if_neg A']
theorem kV{x:Rat}(h:0<=x):BW x=x:=by
 rw[ZZ,if_neg A']
def BJ:o_->Rat
 |[]=>0
 |x::l=>BW x+BJ l
theorem Wf(x:Rat):∀l,BJ (l++[x])=BJ l+BW x
 |[]=>by simp only[Gd,BJ];grind
 |y::l=>by
  simp only[Cf,BJ,Wf x l];grind
theorem We:∀l,0<=BJ l
 |[]=>by simp[BJ]
 |x::l=>by
  have h1:=kU x;have h2:=We l;simp only[BJ];grind
theorem jJ{c:Rat}(hc:0<=c):∀l,BJ (l.map (· * c))=BJ l*c
 |[]=>by simp only[List.map_nil,BJ];grind
 |x::l=>by
  simp only[te,BJ,jJ hc l,kT,kV hc];grind
def I8(m x:Rat):Rat:=if m<BW x then BW x else m
def CO(l:o_):Rat:=l.foldl I8 0
theorem Akh(l:o_)(x:Rat):CO (l++[x])=I8 (CO l) x:=by rw[CO,Nh];rfl
theorem Akd(m x:Rat):m<=I8 m x/\BW x<=I8 m x:=by
 unfold I8;split<;>exact⟨A',A'⟩
theorem Ake{c:Rat}(hc:0<c)(m x:Rat):I8 (m*c) (x*c)=I8 m x*c:=by
 unfold I8;rw[kT,kV (show 0<=c by grind)];by_cases h:m<BW x
 ·rw[if_pos h,if_pos ((Cg hc).2 h)]
 ·rw[if_neg h,if_neg (λh1=>h ((Cg hc).1 h1))]
theorem Rt{c:Rat}(hc:0<c):∀(l:o_)(m:Rat),(l.map (· * c)).foldl I8 (m*c)=l.foldl I8 m*c
 |[],_=>rfl
 |x::l,m=>by rw[te,Ed,Ed,Ake hc,Rt hc l]
theorem Akg{c:Rat}(hc:0<c)(l:o_):CO (l.map (· * c))=CO l*c:=by
 have:=Rt hc l 0
 rwa [pd]at this
theorem Rs:∀(l:o_)(m:Rat),m<=l.foldl I8 m/\∀x∈l,BW x<=l.foldl I8 m
 |[],m=>⟨Ni,λx h=>by cases h⟩
 |y::l,m=>by
  obtain⟨h1,h2⟩:=Rs l (I8 m y);obtain⟨h3,h4⟩:=Akd m y;refine⟨fi h3 h1,λx hx=>?_⟩;rcases Og.1 hx with rfl|hx
  ·exact fi h4 h1
  ·exact h2 x hx
theorem Akf(l:o_):0<=CO l:=(Rs l 0).1
def ED(a:P'):Bool:=a.all λr=>decide (BJ r<=1/2)
def B8(n:Nat)(a:P'):Nat->P'
 |0=>a
 |k+1=>H8 (B8 n a k) (B8 n a k) n
theorem W2{n:Nat}{a:P'}(h:Sq n a):∀k,Sq n (B8 n a k)
 |0=>h
 |k+1=>Sq.mul (W2 h k).l _
def B7(c:Rat)(a:P'):P':=a.map λr=>r.map (· * c)
theorem Ux(c:Rat)(a:P'):(B7 c a).length=a.length:=by simp[B7]
theorem jK{n:Nat}(c:Rat){a:P'}(h:∀r∈a,r.length=n):∀r∈B7 c a,r.length=n:=λr hr=>by
 obtain⟨s,hs,rfl⟩:=Pa.1 hr;rw[na];exact h s hs
theorem Uy{n:Nat}(c:Rat){a:P'}(h:Sq n a):Sq n (B7 c a):=⟨by rw[Ux,h.l],jK c h.r⟩
theorem Anh{c:Rat}{a:P'}{i:Nat}{r:o_}(h:a[i]?=some r):(B7 c a)[i]?=some (r.map (· * c)):=by rw[B7,sa,h];rfl
theorem Aj8(r:o_)(c:Rat)(j:Nat):(r.map (· * c)).getD j 0=r.getD j 0*c:=by
 rw[da,da,sa];cases r[j]? with
 |none=>simp[pd]
 |some x=>rfl
theorem AgR(c:Rat)(a:P')(j:Nat):DE (B7 c a) j=(DE a j).map (· * c):=by
 rw[DE,DE,B7,tc,tc];exact Oa λr _=>Aj8 r c j
theorem mI(c d:Rat)(u v:o_):BQ (u.map (· * c)) (v.map (· * d))=BQ u v*(c*d):=by
 rw[mH,mG,mH,mG];grind
theorem AlT(c d:Rat)(a b:P')(n:Nat):H8 (B7 c a) (B7 d b) n=B7 (c*d) (H8 a b n):=by
 show(a.map λr=>r.map (· * c)).map (λr=>F9 r (B7 d b) n)=(a.map λr=>F9 r b n).map (λr=>r.map (· * (c*d)));rw[tc,tc];refine Oa λr _=>?_
 show F9 (r.map (· * c)) (B7 d b) n=(F9 r b n).map (· * (c*d));rw[F9,F9,tc];refine Oa λj _=>?_
 show BQ (r.map (· * c)) (DE (B7 d b) j)=BQ r (DE b j)*(c*d);rw[AgR,mI]
theorem AlW(c d:Rat)(a:P')(v:o_):GA (B7 c a) (v.map (· * d))=(GA a v).map (· * (c*d)):=by
 show(a.map λr=>r.map (· * c)).map (λr=>BQ r (v.map (· * d)))=(a.map λr=>BQ r v).map (· * (c*d));rw[tc,tc];exact Oa λr _=>mI c d r v
def DN(D:Rat):Nat->Rat
 |0=>D
 |i+1=>DN D i*DN D i
theorem mC{D:Rat}(h:0<D):∀i,0<DN D i
 |0=>h
 |i+1=>Fc (mC h i) (mC h i)
theorem Yw(n:Nat)(a:P')(D:Rat)(i:Nat):H8 (B7 (DN D i) (B8 n a i)) (B7 (DN D i) (B8 n a i)) n=B7 (DN D (i+1)) (B8 n a (i+1)):=AlT _ _ _ _ _
theorem Qk{s D:Rat}(hD:0<D):s*D+s*D<=D↔s<=1/2:=by
 have e:s*D+s*D=(s+s)*D:=A'
 have h1:(s+s)*D<=1*D↔s+s<=1:=⟨λh=>Rat.le_of_mul_le_mul_right h hD,λh=>Rat.mul_le_mul_of_nonneg_right h A'⟩;rw[yg]at h1;rw[e,h1];constructor<;>intro h<;>grind
theorem Xg{k:Nat}{x:Rat}(hx:Bt k x){S:Nat}{z:Int}(hz:x*(S:Rat)=(z:Rat)){M:Nat}(hS:S<=2^M):Wh (k+M) (x*(S:Rat)):=by
 refine⟨z,hz,?_⟩;have h1:=WE x;have h2:((z*(x.den:Int):Int):Rat)=((x.num*(S:Int):Int):Rat):=by
  rw[vd,vd,<-h1,<-hz,fb,fb];grind
 have h3:=congrArg Int.natAbs (Ch.1 h2);rw[bg,bg,zc,zc]at h3;have h4:z.natAbs<=z.natAbs*x.den:=Nat.le_mul_of_pos_right _ x.den_pos;rw[ng];exact Mb h4 (by rw[h3];exact Nb hx.1 hS)
theorem Am4(S:Nat)(x:Rat):((S:Rat)*x).den ∣ x.den:=by
 refine lV (z:=S*x.num) ?_;have h:=WE x;rw[vd,<-h,fb];grind
theorem Vt{k:Nat}:∀(l:o_)(S:Nat),0<S->Bs k l->∃S':Nat,l.foldl cC (S:Rat)=(S':Rat)/\0<S'/\S'<=S*2^(l.length*k)/\S ∣ S'/\∀x∈l,∃z:Int,x*(S':Rat)=(z:Rat)
 |[],S,h,_=>⟨S,rfl,h,Z',Nat.dvd_refl S,λx hx=>by cases hx⟩
 |x::l,S,h,hb=>by
  have h1:=Am4 S x;have hx:=hb x Ca;have h2:((S:Rat)*x)*((((S:Rat)*x).den:Nat):Rat)=(((S:Rat)*x).num:Rat):=WE _;have h3:=Nat.le_of_dvd x.den_pos h1;have h4:=((S:Rat)*x).den_pos;generalize ((S:Rat)*x).num=u at h2;obtain⟨S',e,p1,p2,p3,p4⟩:=Vt l (S*((S:Rat)*x).den) (Ci h h4) λy hy=>hb y (Da _ hy)
  refine⟨S',by rw[Ed,<-e,cC,xc],p1,?_,Nat.dvd_trans (Nat.dvd_mul_right _ _) p3,λy hy=>?_⟩
  ·have h5:S*((S:Rat)*x).den<=S*2^k:=Nat.mul_le_mul_left S (Mb h3 hx.2)
   have h6:=zR (2^(l.length*k)) h5;rw[dc,fc,ng,Gg (2^(l.length*k)),<-Nat.mul_assoc];exact Mb p2 h6
  ·rcases Og.1 hy with rfl|hy
   ·obtain⟨t,rfl⟩:=p3
    refine⟨u*(t:Int),?_⟩;rw[xc,xc,vd,<-h2,fb];grind
   ·exact p4 y hy
theorem rL{k:Nat}{l:o_}(hb:Bs k l):∃S:Nat,G8 l=(S:Rat)/\0<S/\S<=2^(l.length*k)/\∀x∈l,∃z:Int,x*(S:Rat)=(z:Rat):=by
 obtain⟨S,e,h1,h2,_,h3⟩:=Vt l 1 O' hb;exact⟨S,e,h1,by rwa [Ei]at h2,h3⟩
theorem Ahe(S:Nat)(x:Rat):((S:Rat)/(x.den:Rat)).den=((S:Rat)*x).den:=by
 have qa:(x.den:Rat)≠0:=λe=>by
  have:((x.den:Nat):Rat)=((0:Nat):Rat):=e
  have:=jg.1 this
  have:=x.den_pos
  omega
 have hx:=WE x;refine Nat.dvd_antisymm ?_ ?_
 ·-- e=(S x).den: e S num/d whole,so d ∣ e S
  have h1:=WE ((S:Rat)*x);generalize hE:((S:Rat)*x).den=E at*;generalize ((S:Rat)*x).num=u at h1;have h2:(((E*S:Nat):Int)*x.num:Int)=u*(x.den:Int):=by
   refine Ch.1 ?_;rw[vd,vd,<-hx,<-h1,fb,fb,xc];grind
  have h3:x.den ∣ E*S*x.num.natAbs:=by
   have h4:(x.den:Int) ∣ ((E*S:Nat):Int)*x.num:=⟨u,by rw[h2,Vi]⟩;have:=Int.natAbs_dvd_natAbs.2 h4
   rw[bg,zc,zc]at this;exact this
  obtain⟨t,ht⟩:=Nat.Coprime.dvd_of_dvd_mul_right (Nat.Coprime.symm x.reduced) h3;refine lV (z:=t) ?_;have h5:((E*S:Nat):Rat)=((x.den*t:Nat):Rat):=congrArg _ ht;rw[xc,xc]at h5;rw[ub,<-pe,h5,fb];have:=ye _ qa
  grind
 ·have h1:=WE ((S:Rat)/(x.den:Rat))
  generalize ((S:Rat)/(x.den:Rat)).num=u at h1;generalize ((S:Rat)/(x.den:Rat)).den=E at*;refine lV (z:=u*x.num) ?_;rw[vd,<-h1,<-hx,ub];have:=ye _ qa
  grind
def GT(a:P')(b:o_):Nat->o_
 |0=>b
 |k+1=>GA a (GT a b k)
theorem sZ{a:P'}{b:o_}{n:Nat}(ha:a.length=n)(hb:b.length=n):∀k,(GT a b k).length=n
 |0=>hb
 |k+1=>by rw[GT,pN,ha]
theorem Ag0{a:P'}:ED a=true ↔ ∀r∈a,BJ r<=1/2:=by
 rw[ED,mb];exact⟨λh r hr=>by simpa using h r hr,λh r hr=>by simpa using h r hr⟩
theorem sK{f:Nat->Rat}(h:∀j,0<=f j):∀n,0<=HY f n
 |0=>Ni
 |n+1=>by
  have h1:=sK h n;have h2:=h n;simp only[HY];grind
def NT(a:P')(b:o_)(k:Nat):Rat:=CO (GT a b k)
def KV(a:P')(b c:o_)(k:Nat):Rat:=BW (BQ c (GT a b k))
def G9(S:HI)(p:Nat):Rat:=BW S.d+(HY (KV S.a S.b S.c) (p+p)+BJ S.c*HY (λj=>NT S.a S.b (p+j)) p)
theorem uZ{k:Nat}{x:Rat}{S:Nat}(hS:0<S)(Fa:S<=2^k)(h:Wh k (x*(S:Rat))):Bt k x:=by
 obtain⟨z,hz,hk⟩:=h;have h0:(S:Rat)≠0:=λe=>by
  have:((S:Nat):Rat)=((0:Nat):Rat):=e
  have:=jg.1 this
  omega
 have e:x=mkRat z S:=by
  rw[Jh,<-hz,ub,pe,ye _ h0,vg]
 rw[e];exact Bt.mk hk Fa
theorem Xf{k l n:Nat}{a:P'}{v:o_}(ha:∀r∈a,∀x∈r,Wh k x)(hl:∀r∈a,r.length=n)(hv:∀x∈v,Wh l x):∀x∈GA a v,Wh (k+l+n) x:=λx hx=>by
 obtain⟨r,hr,rfl⟩:=Pa.1 hx;have:=Wh.dot (ha r hr) hv
 rwa [hl r hr]at this
theorem jL{n k:Nat}{a:P'}(hs:Sq n a)(hb:Ms k a):∃S:Nat,G8 a.flatten=(S:Rat)/\0<S/\S<=2^(n*n*k)/\∀r∈B7 (S:Rat) a,∀x∈r,Wh (k+n*n*k) x:=by
 have hl:a.flatten.length=n*n:=by
  have:∀(a:P'),(∀r∈a,r.length=n)->a.flatten.length=a.length*n:=by
   intro a;induction a with
   |nil=>intro _;simp
   |cons r a ih=>
    intro h;rw[od,Ma,ih λx hx=>h x (Da _ hx),h r Ca,dc,fc,ze]
  rw[this a hs.r,hs.l]
 have Bk:Bs k a.flatten:=λx hx=>by
  obtain⟨r,hr,hx⟩:=Jd.1 hx;exact hb r hr x hx
 obtain⟨S,e,h1,h2,h3⟩:=rL Bk;rw[hl]at h2;refine⟨S,e,h1,h2,λr hr x hx=>?_⟩;obtain⟨s,hs,rfl⟩:=Pa.1 hr;obtain⟨y,hy,rfl⟩:=Pa.1 hx;obtain⟨z,hz⟩:=h3 y (Jd.2 ⟨s,hs,hy⟩);exact Xg (hb s hs y hy) hz h2
theorem oT{n k:Nat}{b:o_}(hl:b.length=n)(hb:Bs k b):∃S:Nat,G8 b=(S:Rat)/\0<S/\S<=2^(n*k)/\∀x∈b.map (· * (S:Rat)),Wh (k+n*k) x:=by
 obtain⟨S,e,h1,h2,h3⟩:=rL hb;rw[hl]at h2;refine⟨S,e,h1,h2,λx hx=>?_⟩;obtain⟨y,hy,rfl⟩:=Pa.1 hx;obtain⟨z,hz⟩:=h3 y hy;exact Xg (hb y hy) hz h2
def FO(a:P')(b:o_)(D E:Rat)(j:Nat):o_:=(GT a b j).map (· * (E*D^j))
theorem tD(a:P')(b:o_)(D E:Rat):FO a b D E 0=b.map (· * E):=by
 rw[FO,Cc,vg];rfl
theorem tC(a:P')(b:o_)(D E:Rat)(j:Nat):FO a b D E (j+1)=GA (B7 D a) (FO a b D E j):=by
 rw[FO,FO,AlW,GT];refine Oa λx _=>?_
 rw[pc];grind
def XC(n k j:Nat):Nat:=(k+n*k)+j*((k+n*n*k)+n)
theorem Zq{n k:Nat}{a:P'}{b:o_}{D E:Nat}(hs:Sq n a)(hA:∀r∈B7 (D:Rat) a,∀x∈r,Wh (k+n*n*k) x)(hB:∀x∈b.map (· * (E:Rat)),Wh (k+n*k) x):∀j,∀x∈FO a b D E j,Wh (XC n k j) x
 |0=>by
  rw[tD];intro x hx;exact(hB x hx).le (by rw[XC];omega)
 |j+1=>by
  rw[tC];intro x hx;refine(Xf hA (jK _ hs.r) (Zq hs hA hB j) x hx).le ?_;simp only[XC,fc];omega
theorem Amm(D j:Nat):(D:Rat)^j=((D^j:Nat):Rat):=by
 induction j with
 |zero=>rfl
 |succ j ih=>rw[pc,ih,Ee,xc]
theorem Yo{n k:Nat}{a:P'}{b:o_}(hs:Sq n a)(hb:b.length=n)(ha:Ms k a)(mu:Bs k b)(j:Nat):Bs (XC n k j) (GT a b j):=by
 obtain⟨D,_,d1,d2,d3⟩:=jL hs ha;obtain⟨E,_,e1,e2,e3⟩:=oT hb mu;have hw:=Zq hs d3 e3 j;intro x hx;refine uZ (S:=E*D^j) (Ci e1 (Ji d1)) ?_ ?_
 ·have h1:D^j<=2^(n*n*k*j):=by rw[Gi];exact yh d2 j
  refine Mb (Nb e2 h1) ?_;rw[<-ng];refine ob O' ?_;rw[XC,Bi,Bi,Gg (n*n*k) j];omega
 ·refine hw _ (Pa.2 ⟨x,hx,?_⟩)
  rw[Amm,xc]
def GC(n:Nat)(a:P')(i:Nat):Prop:=ED (B8 n a i)=true/\∀j,j<i->ED (B8 n a j)=false
theorem GC.uniq{n i j:Nat}{a:P'}(hi:GC n a i)(hj:GC n a j):i=j:=by
 rcases Nat.lt_trichotomy i j with h|h|h
 ·have:=hj.2 i h
  rw[hi.1]at this;cases this
 ·exact h
 ·have:=hi.2 j h
  rw[hj.1]at this;cases this
def FG(k:Nat):Nat->Nat
 |0=>17*k
 |i+1=>FG k i+FG k i+4
theorem Xn{k:Nat}:∀i,i<=7->FG k i<=2176*k+508:=by
 intro i hi;have h1:FG k 0=17*k:=rfl;have e1:FG k 1=FG k 0+FG k 0+4:=rfl;have e2:FG k 2=FG k 1+FG k 1+4:=rfl;have e3:FG k 3=FG k 2+FG k 2+4:=rfl;have e4:FG k 4=FG k 3+FG k 3+4:=rfl;have e5:FG k 5=FG k 4+FG k 4+4:=rfl;have e6:FG k 6=FG k 5+FG k 5+4:=rfl;have e7:FG k 7=FG k 6+FG k 6+4:=rfl;obtain rfl|rfl|rfl|rfl|rfl|rfl|rfl|rfl:i=0\/i=1\/i=2\/i=3\/i=4\/i=5\/i=6\/i=7:=O'
 all_goals omega
theorem Aoe{k l n:Nat}{a b:P'}(ha:∀r∈a,∀x∈r,Wh k x)(hl:∀r∈a,r.length=n)(hb:∀r∈b,∀x∈r,Wh l x):∀r∈H8 a b n,∀x∈r,Wh (k+l+n) x:=λr hr x hx=>by
 obtain⟨s,hs,rfl⟩:=Pa.1 hr;obtain⟨j,_,rfl⟩:=Pa.1 hx;have hc:∀x∈DE b j,Wh l x:=λx hx=>by
  obtain⟨t,ht,rfl⟩:=Pa.1 hx;rw[da];cases e:t[j]? with
  |none=>exact Wh.zero l
  |some y=>exact hb t ht y (zM e)
 have:=Wh.dot (ha s hs) hc
 rwa [hl s hs]at this
theorem jR{n k:Nat}{a:P'}{D:Nat}(hs:Sq n a)(hn:n<=4)(hA:∀r∈B7 (D:Rat) a,∀x∈r,Wh (k+n*n*k) x):∀i,∀r∈B7 (DN (D:Rat) i) (B8 n a i),∀x∈r,Wh (FG k i) x
 |0=>λr hr x hx=>(hA r hr x hx).le (by
   show k+n*n*k<=17*k;have:n*n<=4*4:=Nb hn hn
   have:=zR k this
   omega)
 |i+1=>λr hr x hx=>by
  rw[<-Yw]at hr;exact(Aoe (jR hs hn hA i) (jK _ (W2 hs i).r) (jR hs hn hA i) r hr x hx).le (by simp only[FG];omega)
theorem mD{D M:Nat}(hD:D<=2^M):∀i,Wh (2^i*M) (DN (D:Rat) i)
 |0=>⟨(D:Int),by rw[DN,fb],by rw[Nat.pow_zero,Ei];simpa using hD⟩
 |i+1=>((mD hD i).mul (mD hD i)).le (by rw[Ee,Di,Nat.add_mul];exact Jb _)
theorem wW(D:Nat):∀i,DN (D:Rat) i=((D^2^i:Nat):Rat)
 |0=>by simp[DN]
 |i+1=>by
  rw[DN,wW D i,<-xc,<-ng,Ee,Di]
theorem Ag1{n i:Nat}{a:P'}{D:Rat}(hD:0<D):(∀r∈B7 (DN D i) (B8 n a i),BJ r+BJ r<=DN D i)↔ED (B8 n a i)=true:=by
 have hp:=mC hD i;rw[Ag0];constructor
 ·intro h r hr
  have:=h _ (Pa.2 ⟨r,hr,rfl⟩)
  rw[jJ A']at this;exact(Qk hp).1 this
 ·intro h r hr
  obtain⟨s,hs,rfl⟩:=Pa.1 hr;rw[jJ A'];exact(Qk hp).2 (h s hs)
theorem RF{k:Nat}:∀{l:o_},Bs k l->Bt (l.length*(k+1)) (BJ l)
 |[],_=>Bt.zero _
 |x::l,h=>by
  have h1:=RF (l:=l) λy hy=>h y (Da _ hy)
  have h2:Bt k (BW x):=by
   unfold BW;split
   ·exact(h x Ca).Hx
   ·exact h x Ca
  refine(h2.add h1).le ?_;rw[dc,fc];omega
theorem JG{k:Nat}{x:Rat}(h:Bt k x):Bt k (BW x):=by
 unfold BW;split
 ·exact h.Hx
 ·exact h
theorem Akc{k:Nat}{m x:Rat}(hm:Bt k m)(hx:Bt k x):Bt k (I8 m x):=by
 unfold I8;split
 ·exact JG hx
 ·exact hm
theorem QZ{k:Nat}{l:o_}(h:Bs k l):Bt k (CO l):=by
 have:∀(l:o_)(m:Rat),Bt k m->Bs k l->Bt k (l.foldl I8 m):=by
  intro l;induction l with
  |nil=>intro m hm _;exact hm
  |cons x l ih=>
   intro m hm h;exact ih _ (Akc hm (h x Ca)) λy hy=>h y (Da _ hy)
 exact this l 0 (Bt.zero k) h
theorem qK(D:Rat)(a:Nat):∀b:Nat,D^(a+b)=D^a*D^b
 |0=>by rw[Ef,Cc,vg]
 |b+1=>by rw[<-Nat.add_assoc,pc,qK D a b,pc,pe]
def F8(D:Rat)(f:Nat->Rat):Nat->Rat
 |0=>0
 |m+1=>F8 D f m*D+f m
theorem nX{D c:Rat}{f F:Nat->Rat}(h:∀j,f j=F j*(c*D^j)):∀m,F8 D f m*D=c*D^m*HY F m
 |0=>by simp only[F8,HY];grind
 |m+1=>by
  have:=nX h m
  rw[F8,Li,this,h m,pc,HY];grind
theorem aV{D:Rat}{f:Nat->Rat}{d k:Nat}(hD:Bt d D):∀m,(∀j,j<m->Bt k (f j))->Bt (m*(d+k+1)) (F8 D f m)
 |0,_=>Bt.zero _
 |m+1,h=>by
  have h1:=aV hD m λj hj=>h j O'
  refine((h1.mul hD).add (h m O')).le ?_;rw[fc];omega
theorem Aon{a:P'}{b:o_}{D E:Rat}(hD:0<D)(hE:0<E)(j:Nat):CO (FO a b D E j)=NT a b j*(E*D^j):=Akg (Fc hE (by
 induction j with
 |zero=>rw[Cc];decide
 |succ j ih=>rw[pc];exact Fc ih hD)) _
theorem AnQ{S:HI}{D E O:Rat}{p:Nat}(hp:1<=p)(hD:0<D)(hE:0<E)(hO:0<O) :
  (F8 D (λj=>BW (BQ (S.c.map (· * O)) (FO S.a S.b D E j))) (p+p)+BJ (S.c.map (· * O))*F8 D (λj=>CO (FO S.a S.b D E (p+j))) p)/(D^(p+p-1)*(E*O))=HY (KV S.a S.b S.c) (p+p)+BJ S.c*HY (λj=>NT S.a S.b (p+j)) p:=by
 have Gv:∀j:Nat,0<D^j:=λj=>by
  induction j with
  |zero=>rw[Cc];decide
  |succ j ih=>rw[pc];exact Fc ih hD
 have h1:=nX (D:=D) (c:=O*E) (f:=λj=>BW (BQ (S.c.map (· * O)) (FO S.a S.b D E j))) (F:=KV S.a S.b S.c) (λj=>by
  show BW (BQ (S.c.map (· * O)) (FO S.a S.b D E j))=_;rw[FO,mI,kT,KV,kV (show 0<=O*(E*D^j)from by have:=Fc hO (Fc hE (Gv j));grind)];grind) (p+p)
 have h2:=nX (D:=D) (c:=E*D^p) (f:=λj=>CO (FO S.a S.b D E (p+j))) (F:=λj=>NT S.a S.b (p+j)) (λj=>by
  show CO (FO S.a S.b D E (p+j))=_;rw[Aon hD hE,qK];grind) p
 have h3:BJ (S.c.map (· * O))=BJ S.c*O:=jJ A' _;generalize F8 D (λj=>BW (BQ (S.c.map (· * O)) (FO S.a S.b D E j))) (p+p)=u at*;generalize F8 D (λj=>CO (FO S.a S.b D E (p+j))) p=t at*;generalize HY (KV S.a S.b S.c) (p+p)=F at*;generalize HY (λj=>NT S.a S.b (p+j)) p=G at*;rw[h3];have h4:D^(p+p)=D^(p+p-1)*D:=by rw[<-pc];congr 1;omega
 have h5:D^(p+p)=D^p*D^p:=qK _ _ _;have hq:=Gv (p+p-1);have hz:=Gv p;generalize D^(p+p-1)=L at*;generalize D^(p+p)=M at*;generalize D^p=P at*;have o7:L*(E*O)≠0:=by
  have:=Fc hq (Fc hE hO)
  grind
 have key:(u+BJ S.c*O*t)*D=(F+BJ S.c*G)*(L*(E*O))*D:=by
  have e1:u*D=O*E*(L*D)*F:=by rw[h1,h4]
  have e2:t*D=E*(L*D)*G:=by rw[h2,<-h4,h5];grind
  have:(u+BJ S.c*O*t)*D=u*D+BJ S.c*O*(t*D):=A'
  rw[this,e1,e2];grind
 have Er:D≠0:=A'
 have:=AlV Er key
 rw[this,ub,pe,ye _ o7,vg]
theorem Ur{α:Type}{enc:α->w_}{p:α->Prop}:∀{es:v_},(∀x∈es,∃y,x=enc y/\p y)->∃l:List α,es=l.map enc/\∀y∈l,p y
 |[],_=>⟨[],rfl,Z'⟩
 |e::es,h=>by
  obtain⟨y,rfl,hy⟩:=h e Ca;obtain⟨l,rfl,hl⟩:=Ur (enc:=enc) (p:=p) λx hx=>h x (Da _ hx)
  exact⟨y::l,rfl,by simpa using⟨hy,hl⟩⟩
theorem Ql{α:Type}{enc:α->w_}{p:α->Prop}{e:Ty}{cs:w_}(he:∀x,RO e x->∃y,x=enc y/\p y)(h:RO (.sl e) cs):∃l:List α,cs=[.sl true (l.map enc)]/\l.length<9223372036854775808/\∀y∈l,p y:=by
 obtain⟨es,rfl,hl,hx⟩:=h;obtain⟨l,rfl,hp⟩:=Ur (enc:=enc) (p:=p) λx hm=>he x (hx x hm)
 refine⟨l,rfl,?_,hp⟩;have:maxLen=9223372036854775807:=rfl
 simp at hl;omega
theorem Aoc{n:Int}(h:(Lit.int .i64 n).wf=true):C3 n:=by
 simp only[Lit.wf,Je,decide_eq_true_eq]at h;have h1:IntKind.i64.min = -9223372036854775808:=rfl;have h2:IntKind.i64.max=9223372036854775807:=rfl;rw[h1,h2]at h;unfold C3;constructor<;>omega
theorem YG{cs:w_}(h:RO tI cs):∃n,cs=AZ n/\C3 n:=by obtain⟨n,rfl,hw⟩:=h;exact⟨n,rfl,Aoc hw⟩
theorem aT{cs:w_}(h:RO (.sl tI) cs):∃l:List Int,cs=[.sl true (l.map AZ)]/\l.length<9223372036854775808/\LQ l:=Ql (λ_=>YG) h
abbrev tWr:Ty := .cons (.sl tI) (.cons (.sl tI) .nil)
theorem Akx{cs:w_}(h:RO tWr cs):∃w,cs=fI w/\(LQ w.1.2/\LQ w.2.2):=by
 obtain⟨_,_,rfl,h1,_,_,rfl,h2,rfl⟩:=h;obtain⟨l1,rfl,_,a1⟩:=aT h1;obtain⟨l2,rfl,_,a2⟩:=aT h2;exact⟨((true,l1),(true,l2)),rfl,a1,a2⟩
abbrev tR:Ty := .cons tI (.cons tI (.cons tI (.cons (.sl tWr) (.cons (.sl tI) (.cons tI (.cons .bool .nil))))))
theorem Akw{cs:w_}(h:RO tR cs):∃r:Rw,cs=fH r/\C3 r.data/\C3 r.x8/\C3 r.k8/\C3 r.out/\LQ r.next/\(∀w∈r.nodes,LQ w.1.2/\LQ w.2.2)/\r.nodes.length<9223372036854775808:=by
 obtain⟨_,_,rfl,h1,_,_,rfl,h2,_,_,rfl,h3,_,_,rfl,h4,_,_,rfl,h5,_,_,rfl,h6,_,_,rfl,⟨b,rfl⟩,rfl⟩:=h;obtain⟨a,rfl,i1⟩:=YG h1;obtain⟨c,rfl,i2⟩:=YG h2;obtain⟨s,rfl,i3⟩:=YG h3;obtain⟨nodes,rfl,l4,i4⟩:=Ql (enc:=fI) (λ_=>Akx) h4;obtain⟨next,rfl,l5,i5⟩:=aT h5;obtain⟨o,rfl,i6⟩:=YG h6;exact⟨⟨a,c,s,true,nodes,true,next,o,b⟩,rfl,i1,i2,i3,i6,i5,i4,l4⟩
end Go.Eng

namespace Go.Eng
open F
attribute [local irreducible] AA AF AW AB AH pw
variable {L:Lib}
abbrev eM(m:P'):v_:=m.map λr=>[AV.sl false (r.map eQ)]
theorem lI(m:P'):DB (eM m):=LS (λr=>by simp only[BI,AY,and_true,true_and];exact ME r) m
theorem vK(m:P'):AY (.sl false (eM m)):=by
 simp only[AY,true_and];exact lI m
theorem AgN{n:Nt}(hb:C6 n=true){nd:Nd}(h:nd∈n.nodes){t:Int×Int}(ht:t∈nd.ts):-16777216<=t.2/\t.2<=16777216:=by
 obtain⟨h1,h2,h3,h4,h5,h6⟩:=(CP n).1 hb;obtain⟨i,hi⟩:=List.getElem?_of_mem h;have:=mb.1 (iJ h4 hi) t ht
 simp only[H0,decide_eq_true_eq]at this;have xf:=h2;unfold WV at xf;have e:=RC (n:=n.c.f) (m:=23) O';have e2:pw 23=8388608:=by unfold pw;rfl
 have e3:=GQ n.c.f;rcases this with⟨_,_,h|h⟩
 ·omega
 ·have:=AeW h;omega
theorem AlZ(r:Rw):(D5 r).nodes.length<=4:=by simp[D5,M3];omega
theorem Ts(r:Rw){nd:Nd}(h:nd∈(D5 r).nodes):nd.ts.length<=4:=by
 simp only[D5,M3,tc,Pa]at h;obtain⟨k,_,rfl⟩:=h;simp only[fj,bH];split
 ·simp[RH];omega
 ·simp
theorem Al0(r:Rw):VD (CY (D5 r)):=by
 constructor
 ·intro ts h
  obtain⟨nd,h1,rfl⟩:=Pa.1 h;exact Nat.le_succ_of_le (Ts r h1)
 ·intro ts h t ht
  obtain⟨nd,h1,rfl⟩:=Pa.1 h;have:=AgN (Tr r) h1 ht
  have e:(2:Nat)^24=16777216:=rfl;omega
end Go.Eng

namespace Go.Eng
open F
attribute [local irreducible] AA AF AW AB AH pw AC AX BG CM A5 BS BR A8 CG
variable {L:Lib}
set_option maxRecDepth 8000
abbrev IK(q:Bool)(m:P'):v_:=m.map λr=>[AV.sl q (r.map eQ)]
def cw(n:Nat)(v:o_):List (Option Rat):=Na (n-v.length) none++v.map some
theorem Ahh:dg 1=[1]:=by rw[KR Y'];simp[FJ]
theorem Ams(x:Rat):qv false (dg x.num.natAbs) (dg x.den)=BW x:=by
 unfold BW;split
 ·rename_i h
  have:=FX (-x)
  rw[Dg,qi,Oi,show decide (-x.num<0)=false from decide_eq_false O']at this;exact this
 ·rename_i h
  have:=FX x
  rw[show decide (x.num<0)=false from decide_eq_false h]at this;exact this
theorem fK(N:bf L){x:Rat}{k:Nat}(hx:Bt k x)(hk:k<2199023255552):Ev L 256 [.agg (eQ x)] (.agg (eQ (BW x))):=by
 have hs:=hx.sm hk;have hT:=zQ N.toa6 false false false (dg x.num.natAbs) (dg x.den) (hs.1.le O') (hs.2.le O');rw[Ams]at hT;refine Ev.x N.TD rfl rfl ?_;repeat' (first|apply AE|refine AD (hT) ?_)<;>conv=>whnf
 exact AU rfl (DG _)
theorem Aid(z:Int):eQ (z:Rat)=[.bool (decide (z<0)),.sl false ((dg z.natAbs).map AJ),.sl false [[.int .u32 1]]]:=by
 simp only[eQ,rQ,Rat.num_intCast,Rat.den_intCast,Ahh];rfl
theorem AlY{T:P'}{n i:Nat}(hl:T.length=n)(hi:i<n):(mz T n i)[i]?=some none:=by
 have iu:(EN 3 eQ (T.take i)).length=i:=by simp only[EN,na,za];omega
 have:=Ru (z:=(none:p_)) (l:=EN 3 eQ (T.take i)) (m:=n) O'
 rw[iu]at this;exact this
theorem lU{k:Nat}{x:Rat}(h:Bt k x):Bt k ((x.den:Nat):Rat):=by
 refine⟨?_,?_⟩
 ·rw[kg,zc];exact h.2
 ·rw[gg];exact Mf
theorem Ahd(x:Rat):((x.den:Nat):Rat)≠0:=λe=>by
 have:((x.den:Nat):Rat)=((0:Nat):Rat):=e
 have:=jg.1 this
 have:=x.den_pos
 omega
theorem yX(N:u5 L){x:Rat}{k:Nat}(hx:Bt k x)(hk:k<2199023255552):Ev L 294 [.agg (eQ x)] (.agg (eQ ((x.den:Nat):Rat))):=by
 have hT:=AjM N.toa6 hx hk;have s8:=DG ((x.den:Nat):Rat);have e:eQ ((x.den:Nat):Rat)=[.bool false,.sl false ((dg x.den).map AJ),.sl false [[.int .u32 1]]]:=by
  rw[<-fb,Aid,zc,show decide (((x.den:Nat):Int)<0)=false by simp]
 rw[e]at s8⊢;refine Ev.x N.TB rfl rfl ?_;repeat' (first|refine JF rfl ?_|apply AE|refine AD (hT) ?_)<;>conv=>whnf
 exact AU rfl s8
theorem mY(N:u5 L)(q q':Bool)(ls:P')(k:Nat)(hb:Ms k ls)(hl:ls.flatten.length<=64)(sf:ls.length<=1000)(hk:k<=1000000):Ev L 295 [.sl q (IK q' ls)] (.agg (eQ (G8 ls.flatten))):=by
 have hO:=I6 N.toa6 1 O';rw[show((1:Int):Rat)=1 from rfl]at hO;have key:∀(i j:Nat)(r:o_)(x:Rat),ls[i]?=some r->r[j]?=some x->∃S:Nat,G8 ((ls.take i).flatten++r.take j)=(S:Rat)/\Bt (64*k) (S:Rat)/\G8 ((ls.take i).flatten++r.take (j+1))=(S:Rat)*(((S:Rat)/((x.den:Nat):Rat)).den:Nat):=by
  intro i j r x hr hx;have eh:=(zS hx).1;have hlen:((ls.take i).flatten++r.take j).length<=64:=by
   have e:ls.flatten=(ls.take i).flatten++(r++(ls.drop (i+1)).flatten):=by
    have h1:=(zS hr);obtain⟨h1,h2⟩:=h1;conv=>lhs;rw[<-Ae i ls,pf,Gc h1,h2,od]
   rw[e,Ma,Ma]at hl;rw[Ma,za];omega
  have Bl:Bs k ((ls.take i).flatten++r.take j):=λy hy=>by
   rcases lg.1 hy with hy|hy
   ·obtain⟨s,hs,hy⟩:=Jd.1 hy
    exact hb s (yb hs) y hy
   ·exact hb r (zM hr) y (yb hy)
  obtain⟨S,e,h1,h2,_⟩:=rL Bl;refine⟨S,e,⟨?_,?_⟩,?_⟩
  ·rw[kg,zc]
   exact Mb h2 (ob O' (zR k hlen))
  ·rw[gg];exact Mf
  ·rw[db,hx,Eb,<-ue,Am5,e,cC,Ahe]
 refine Ev.x N.M7 rfl rfl ?_;repeat' (first|apply AP|apply AE|refine AD (hO) ?_)<;>conv=>whnf
 refine DP (λi=>ls.length-i) (λ(i:Nat)=>i<=ls.length) (λi=>[(13,.int .i64 i)]) (λi=>[(3,3,.bx (eQ (G8 (ls.take i).flatten)))]) [] [] 0 (by rw[show G8 (ls.take 0).flatten=1 from rfl];exact E') O' ?_;intro i p1 ih;by_cases hi:i<ls.length
 ·obtain⟨r,hr⟩:=N' ls i hi
  have tz:ls[(i:Int).toNat]?=some r:=hr;have ri:=hb r (zM hr);have gu:r.length<=64:=by
   have e:ls.flatten=(ls.take i).flatten++(r++(ls.drop (i+1)).flatten):=by
    obtain⟨h1,h2⟩:=zS hr;conv=>lhs;rw[<-Ae i ls,pf,Gc h1,h2,od]
   rw[e,Ma,Ma]at hl;omega
  have iq:(ls.take (i+1)).flatten=(ls.take i).flatten++r:=by
   rw[db,hr,pf];simp
  repeat' (first|apply AG<;>intro hc<;>try omega|apply AP|refine A3 V' ?_ rfl ?_;omega|apply AE)<;>conv=>whnf
  refine DP (λj=>r.length-j) (λ(j:Nat)=>j<=r.length) (λj=>[(19,.int .i64 j)]) (λj=>[(3,3,.bx (eQ (G8 ((ls.take i).flatten++r.take j))))]) [] [] 0 (by rw[Pb,yc];exact E') O' ?_;intro j r1 jh;by_cases hj:j<r.length
  ·obtain⟨x,hx⟩:=N' r j hj
   have ud:r[(j:Int).toNat]?=some x:=hx;obtain⟨S,e,hS,e2⟩:=key i j r x hr hx;have hxb:=ri.at hx;have Az:=yX N hxb O';have hq:=hS.uh (lU hxb);have hDv:=mQ N.toa6 hS (lU hxb) O' O' (Ahd x);have Ba:=yX N hq O';have hM:=KU N.toa6 hS (lU hq) O' O';rw[<-e2]at hM;rw[e];generalize (S:Rat)/((x.den:Nat):Rat)=y at*;generalize ((x.den:Nat):Rat)=d at*;generalize (S:Rat)=s at*;generalize ((y.den:Nat):Rat)=d2 at*;repeat' (first|apply AG<;>intro hc<;>try omega|apply AR;omega|refine A3 V' ?_ rfl ?_;omega|apply AE|refine AD (Az) ?_|refine AD (hDv) ?_|refine AD (Ba) ?_|refine AD (hM) ?_)<;>conv=>whnf
   exact BC [] (jh (j+1) O' O')
  obtain rfl:j=r.length:=O'
  clear jh;rw[zT (Jb _),<-iq];repeat' (first|apply AG<;>intro hc<;>try omega|apply AR;omega|apply AE)<;>conv=>whnf
  exact BC [] (ih (i+1) O' O')
 obtain rfl:i=ls.length:=O'
 clear ih;rw[zT (Jb _)];repeat' (first|apply AG<;>intro hc<;>try omega|apply AE)<;>conv=>whnf
 exact AU rfl (DG _)
theorem mZ(N:u5 L)(q:Bool)(v:o_)(c:Rat)(k l:Nat)(hv:Bs k v)(hc:Bt l c)(hk:k<1099511627776)(hl:l<1099511627776)(hn:v.length<=1000000):Ev L 296 [.sl q (v.map eQ),.agg (eQ c)] (.sl false ((v.map (· * c)).map eQ)):=by
 refine Ev.x N.PA rfl rfl ?_;repeat' (first|apply AP|apply AE)<;>conv=>whnf
 refine E6 (enc:=eO) none v.length rfl rfl O' ?_;conv=>whnf
 (repeat' (apply AP<;>conv=>whnf))
 refine DP (λi=>v.length-i) (λ(i:Nat)=>i<=v.length) (λi=>[(12,.int .i64 i)]) (λi=>[(9,9,.rw 3 ((DS ((v.map (· * c)).take i) v.length).map eO))]) [] [] 0 (by first|exact E'|(rw[Pb,<-aP];exact E')) O' ?_;intro i p1 ih;have de:((v.map (· * c)).take i).length=i:=by rw[za,na];omega
 have Jm:=R6 (l:=(v.map (· * c)).take i) (m:=v.length) O';by_cases hi:i<v.length
 ·obtain⟨x,hx⟩:=N' v i hi
  have ud:v[(i:Int).toNat]?=some x:=hx;have hy:(v.map (· * c))[i]?=some (x*c):=by rw[sa,hx];rfl
  have hs:=YC (l:=(v.map (· * c)).take i) (m:=v.length) (x:=x*c) O';rw[de,<-KG hy]at hs;have hM:=KU N.toa6 (hv.at hx) hc O' O';generalize DS ((v.map (· * c)).take i) v.length=F0 at*;generalize x*c=y at*;repeat' (first|apply AG<;>intro hc<;>try omega|apply A2;omega|refine A3 V' ?_ rfl ?_;omega|apply AE|refine AD (hM) ?_)<;>conv=>whnf
  refine HS (enc:=eO) (some y) rfl (λe=>by cases e<;>rfl) O' ?_;conv=>whnf
  rw[hs];repeat' (first|apply AR;omega|fail)<;>conv=>whnf
  exact BC [] (ih (i+1) O' O')
 obtain rfl:i=v.length:=O'
 clear ih;have tu:(v.map (· * c)).length=v.length:=na _;rw[zT O',aO tu];repeat' (first|apply AG<;>intro hc<;>try omega|(refine CR (λ_=>rfl) rfl ?_ ?_;(first|rfl|simp))|apply AE)<;>conv=>whnf
 exact AU rfl (by simp only[AY,true_and];exact ME _)
abbrev J3(q:Bool)(x:Rat):w_:=rQ q q (decide (x.num<0)) (dg x.num.natAbs) (dg x.den)
theorem AjJ(N:a6 L)(q:Bool){x:Rat}{k:Nat}(hx:Bt k x)(hk:k<2199023255552):Ev L 97 [.agg (J3 q x)] (.int .i64 (v7 x.num)):=by
 have hs:=hx.sm hk;have:=zP N (decide (x.num<0)) q q (dg x.num.natAbs) (dg x.den) (hs.1.le O') (hs.2.le O')
 rwa [FX]at this
theorem yS(N:a6 L)(q:Bool){x y:Rat}{k l:Nat}(hx:Bt k x)(hy:Bt l y)(hk:k<2199023255552)(hl:l<2199023255552):Ev L 99 [.agg (eQ x),.agg (J3 q y)] (.agg (eQ (x*y))):=by
 have h1:=hx.sm hk;have h2:=hy.sm hl;have:=zO N 68719476736 O' (decide (x.num<0)) (decide (y.num<0)) false false q q (dg x.num.natAbs) (dg x.den) (dg y.num.natAbs) (dg y.den) h1.1 h1.2 h2.1 h2.2
 rwa [FX,FX]at this
theorem yZ(N:u5 L)(q1 q2 qb:Bool)(a b:o_)(k l:Nat)(hl:a.length=b.length)(ha:Bs k a)(hb:Bs l b)(hn:a.length<=64)(hk:k<=1000000000)(ny:l<=1000000000):Ev L 297 [.sl q1 (a.map eQ),.sl q2 (b.map (J3 qb))] (.agg (eQ (BQ a b))):=by
 have hO:=I6 N.toa6 0 O';rw[show((0:Int):Rat)=0 from rfl]at hO;refine Ev.x N.O4 rfl rfl ?_;repeat' (first|apply AP|apply AE|refine AD (hO) ?_)<;>conv=>whnf
 refine DP (λi=>a.length-i) (λ(i:Nat)=>i<=a.length) (λi=>[(10,.int .i64 i)]) (λi=>[(5,5,.bx (eQ (BQ (a.take i) (b.take i))))]) [] [] 0 (by rw[show BQ (a.take 0) (b.take 0)=0 from rfl];exact E') O' ?_;intro i p1 ih;by_cases hi:i<a.length
 ·obtain⟨x,hx⟩:=N' a i hi
  obtain⟨y,hy⟩:=N' b i;have ud:a[(i:Int).toNat]?=some x:=hx;have Ai:b[(i:Int).toNat]?=some y:=hy;have wj:=nJ N.toa6 (ha.at hx) O';have Fa:=AjJ N.toa6 qb (hb.at hy) O';have hM:=yS N.toa6 qb (ha.at hx) (hb.at hy) O' O';have hd:Bt (64*(k+l+1)) (BQ (a.take i) (b.take i)):=by
   refine((ha.take i).dot (hb.take i)).le (zR _ ?_);rw[za];omega
  have hA:=J4 N.toa6 hd ((ha.at hx).mul (hb.at hy)) O' O';rw[<-aE hx hy]at hA;have hz:x=0\/y=0->BQ (a.take i) (b.take i)=BQ (a.take (i+1)) (b.take (i+1)):=λh=>by
   rw[aE hx hy];rcases h with h|h<;>rw[h]<;>grind
  by_cases h1:x=0
  ·have s1:v7 x.num=0:=cD.2 h1
   rw[s1]at wj;rw[hz (Or.inl h1)];clear hA hz hd;repeat' (first|apply AG<;>intro hc<;>try omega|apply AR;omega|refine A3 V' ?_ rfl ?_;omega|apply AE|refine AD (wj) ?_)<;>conv=>whnf
   exact BC [] (ih (i+1) O' O')
  ·have s1:v7 x.num≠0:=λh=>h1 (cD.1 h)
   generalize v7 x.num=g1 at*;by_cases h2:y=0
   ·have s2:v7 y.num=0:=cD.2 h2
    rw[s2]at Fa;rw[hz (Or.inr h2)];clear hA hz hd;repeat' (first|apply AG<;>intro hc<;>try omega|apply AR;omega|refine A3 V' ?_ rfl ?_;omega|apply AE|refine AD (wj) ?_|refine AD (Fa) ?_)<;>conv=>whnf
    exact BC [] (ih (i+1) O' O')
   ·have s2:v7 y.num≠0:=λh=>h2 (cD.1 h)
    generalize v7 y.num=g2 at*;clear hz hd;generalize BQ (a.take i) (b.take i)=w at*;generalize x*y=p at*;repeat' (first|apply AG<;>intro hc<;>try omega|apply AR;omega|refine A3 V' ?_ rfl ?_;omega|apply AE|refine AD (wj) ?_|refine AD (Fa) ?_|refine AD (hM) ?_|refine AD (hA) ?_)<;>conv=>whnf
    exact BC [] (ih (i+1) O' O')
 obtain rfl:i=a.length:=O'
 clear ih;rw[fG rfl];repeat' (first|apply AG<;>intro hc<;>try omega|apply AE)<;>conv=>whnf
 exact AU rfl (DG _)
theorem yY(N:u5 L)(q1 q2:Bool)(a b:o_)(k l:Nat)(hl:a.length=b.length)(ha:Bs k a)(hb:Bs l b)(hn:a.length<=64)(hk:k<=1000000000)(ny:l<=1000000000):Ev L 297 [.sl q1 (a.map eQ),.sl q2 (b.map eQ)] (.agg (eQ (BQ a b))):=yZ N q1 q2 false a b k l hl ha hb hn hk ny
theorem Ai6(N:u5 L)(q1 q2 q3:Bool)(a:P')(v:o_)(n k l:Nat)(hs:Sq n a)(hv:v.length=n)(ha:Ms k a)(hb:Bs l v)(hn:n<=4)(hk:k<=1000000000)(hl:l<=1000000000):Ev L 298 [.sl q1 (IK q3 a),.sl q2 (v.map eQ)] (.sl false ((GA a v).map eQ)):=by
 have me:=hs.l;have tu:(GA a v).length=n:=by rw[pN];exact me
 refine Ev.x N.O2 rfl rfl ?_;repeat' (first|apply AP|apply AE)<;>conv=>whnf
 refine E6 (enc:=eO) none n rfl O' O' ?_;conv=>whnf
 (repeat' (apply AP<;>conv=>whnf))
 refine DP (λi=>n-i) (λ(i:Nat)=>i<=n) (λi=>[(12,.int .i64 i)]) (λi=>[(9,9,.rw 3 ((DS ((GA a v).take i) n).map eO))]) [] [] 0 (by first|exact E'|(rw[Pb,<-aP];exact E')) O' ?_;intro i p1 ih;have de:((GA a v).take i).length=i:=by rw[za];omega
 have Jm:=R6 (l:=(GA a v).take i) (m:=n) O';by_cases hi:i<n
 ·obtain⟨r,hr⟩:=N' a i
  have tz:a[(i:Int).toNat]?=some r:=hr;have gu:=hs.at hr;have hy:(GA a v)[i]?=some (BQ r v):=by rw[GA,sa,hr];rfl
  have o4:=YC (l:=(GA a v).take i) (m:=n) (x:=BQ r v) O';rw[de,<-KG hy]at o4;have hD:=λq q'=>yY N q q' r v k l O' (ha.at hr) hb O' hk hl
  generalize DS ((GA a v).take i) n=F0 at*;generalize BQ r v=y at*;repeat' (first|apply AG<;>intro hc<;>try omega|apply A2;omega|refine A3 V' ?_ rfl ?_;omega|apply AE|refine AD (hD _ _) ?_)<;>conv=>whnf
  refine HS (enc:=eO) (some y) rfl (λe=>by cases e<;>rfl) O' ?_;conv=>whnf
  rw[o4];repeat' (first|apply AR;omega|fail)<;>conv=>whnf
  exact BC [] (ih (i+1) O' O')
 obtain rfl:i=n:=O'
 clear ih;rw[zT O',aO tu];repeat' (first|apply AG<;>intro hc<;>try omega|apply AE)<;>conv=>whnf
 refine CR (enc:=eQ) (λ_=>rfl) rfl tu.symm ?_;conv=>whnf
 exact AU rfl (by simp only[AY,true_and];exact ME _)
theorem AiD(N:ag L)(m:P')(b:o_)(q1 q2 q3:Bool)(n k s:Nat)(hs:Sq n m)(hb:b.length=n)(hm:Ms k m)(mu:Bs s b)(hn:n<=4)(hK:4*(k+s+1)+k+s<2199023255552):Ev L 138 [.sl q1 (IK q3 m),.sl q2 (b.map eQ)] (.sl false ((GA m b).map eQ)):=by
 have tu:=hs.l;have kv:=pN m b;refine Ev.x N.PQ rfl rfl ?_;(repeat' (apply AE<;>conv=>whnf))
 refine C0 (λj=>m.length-j) (λ(j:Nat)=>j<=m.length) (λj=>[(6,.int .i64 j),(5,.row 138005 0 3 0 j)]) (λj=>[(138005,138005,.rw 3 (((GA m b).take j).map eQ))]) 0 O' ?_;intro j r1 jh;have hlen:((GA m b).take j).length=j:=by rw[za];omega
 by_cases hj:j<m.length
 ·obtain⟨r,hr⟩:=N' m j hj
  have tz:m[(j:Int).toNat]?=some r:=hr;have gu:=hs.at hr;have Im:=λq q'=>yE N r b q q' k s O' (hm.at hr) mu (by rw[gu];have:=zR (k+s+1) hn;omega) O'
  have hy:(GA m b)[j]?=some (BQ r b):=by rw[GA,sa,hr];rfl
  have Ge:((GA m b).take (j+1)).length=j+1:=by rw[za];omega
  repeat' (first|apply AG<;>intro hc<;>try omega|apply AP|refine A3 V' ?_ rfl ?_;omega|apply CI|apply AE|refine AD (Im _ _) ?_)<;>conv=>whnf
  refine C1 (enc:=eQ) (BQ r b) rfl hlen.symm rfl O' O' ?_;conv=>whnf
  repeat' (first|apply AR;omega|fail)<;>conv=>whnf
  rw[<-AnU hy,Ge];exact BC [(138005,138021)] (jh (j+1) O' O')
 obtain rfl:j=m.length:=O'
 clear jh;rw[zT O'];repeat' (first|apply AG<;>intro hc<;>try omega|apply AP|apply AE)<;>conv=>whnf
 refine CR (enc:=eQ) (λ_=>rfl) rfl kv.symm ?_;conv=>whnf
 exact AU rfl (by simp only[AY,true_and];exact ME _)
theorem AjZ{z:Int}{d:Nat}(h:d≠0):(mkRat z d).floor=z/(d:Int):=by
 rw[Rat.floor_def];have hx:=Rat.den_nz (mkRat z d);have e:mkRat (mkRat z d).num (mkRat z d).den=mkRat z d:=Rat.mkRat_self _;rw[Rat.mkRat_eq_iff hx h]at e;generalize (mkRat z d).num=p at*;generalize (mkRat z d).den=q at*;have h1:p/(q:Int)=(p*(d:Int))/((q:Int)*d):=(fg p (q:Int) O').symm;have h2:z/(d:Int)=(z*(q:Int))/((d:Int)*q):=(fg z (d:Int) O').symm;rw[h1,h2,e,Vi (q:Int) d]
theorem Aj0{a d:Nat}(h:d≠0):(-(a:Int))/(d:Int) = -((if 0<a%d then a/d+1 else a/d:Nat):Int):=by
 have h1:=Nat.div_add_mod a d;have h2:=qj a (Oh h);generalize a/d=q at*;generalize a%d=r at*;split
 ·refine((Ag (r:=(d:Int)-r) O').2 ⟨?_,O',O'⟩).1
  rw[<-h1,yj];push_cast
  rw[Int.mul_add];omega
 ·obtain rfl:r=0:=O'
  refine((Ag (r:=0) O').2 ⟨?_,O',O'⟩).1;rw[<-h1,yj];push_cast
  omega
theorem AiP(N:dw L)(n:Bool)(m d:u_)(hm:Sm 549755813880 m)(hd:Sm 549755813880 d)(h0:val d≠0) :
  ∃r:Int,∀q1 q2,Ev L 383 [.agg (rZ q1 n m),.agg (rZ q2 false d)] (.j4 [.agg (eZ (zv n m/(val d:Int))),.agg (eZ r),.int .i64 0]):=by
 have hD:=λq q'=>fQ N.toc6 m d q q' hm.1 hd.1 (by have:=hm.2;omega) (by have:=hd.2;omega) h0
 have z0:=IH (val m/val d);have z1:=IH (val m%val d);have sq:Sm 549755813880 (dg (val m/val d)):=hm.low (Nat.div_le_self _ _);have sr:Sm 549755813880 (dg (val m%val d)):=hm.low (Nat.mod_le _ _);have hlt:=qj (val m) (Oh h0);have s8:∀a b:Int,AY (.j4 [.agg (eZ a),.agg (eZ b),.int .i64 0]):=λa b=>by
  simp only[AY,BI,and_true,true_and];exact⟨CS _,CS _⟩
 have ae:∀(x a:Nat)(b c:Bool)(u v:Int),x=u.natAbs->a=v.natAbs->b=decide (u<0)->c=decide (v<0)->AH (.j4 [.agg [.bool b,.sl false ((dg x).map AJ)],.agg [.bool c,.sl false ((dg a).map AJ)],.int .i64 0]) (.j4 [.agg (eZ u),.agg (eZ v),.int .i64 0]):=λx a b c u v e1 e2 e3 e4=>by
  rw[e1,e2,e3,e4];exact AU rfl (s8 _ _)
 cases n with
 |false=>
  refine⟨((val m%val d:Nat):Int),λq1 q2=>?_⟩;rw[E4,<-Int.natCast_ediv];generalize val m/val d=Q at*;generalize val m%val d=R at*;refine Ev.x N.KW rfl rfl ?_;repeat' (first|apply AG<;>intro hc<;>try omega|apply AE|refine AD (hD _ _) ?_)<;>conv=>whnf
  refine EK 1000 N.CH rfl rfl ?_;(repeat' (apply AE<;>conv=>whnf))
  all_goals (refine⟨rfl,?_⟩;(conv=>whnf);skip)
  refine EK 1000 N.CH rfl rfl ?_;(repeat' (apply AE<;>conv=>whnf))
  all_goals (refine⟨rfl,?_⟩;(conv=>whnf);skip)
  exact ae _ _ _ _ _ _ O' O' (FZ O') (FZ O')
 |true=>
  have hA:=λq q'=>yT N.toc6 (dg (val m/val d)) [1] q q' sq.1 (II O') (by have:=sq.2;omega) Z'
  rw[BN,show val [1]=1 from rfl]at hA;have hS:=λq q'=>mV N.toc6 d (dg (val m%val d)) q q' hd.1 sr.1 (by have:=hd.2;omega) (by have:=sr.2;omega)
  rw[BN]at hS;have z2:=IH (val m/val d+1);rw[N8,Aj0 h0];by_cases hr:0<val m%val d
  ·refine⟨((val d-val m%val d:Nat):Int),λq1 q2=>?_⟩
   rw[if_pos hr];generalize val m/val d=Q at*;generalize val m%val d=R at*;refine Ev.x N.KW rfl rfl ?_;repeat' (first|apply AG<;>intro hc<;>try omega|apply AP|refine JF rfl ?_|apply AE|refine AD (hD _ _) ?_|refine AD (hA _ _) ?_|refine AD (hS _ _) ?_)<;>conv=>whnf
   refine EK 1000 N.CH rfl rfl ?_;repeat' (first|apply AG<;>intro hc<;>try omega|apply AP|apply AE)<;>conv=>whnf
   all_goals (refine⟨rfl,?_⟩;(conv=>whnf);skip)
   refine EK 1000 N.CH rfl rfl ?_;(repeat' (apply AE<;>conv=>whnf))
   all_goals (refine⟨rfl,?_⟩;(conv=>whnf);skip)
   exact ae _ _ _ _ _ _ O' O' (L3 O') (FZ O')
  ·refine⟨0,λq1 q2=>?_⟩
   rw[if_neg hr];generalize val m/val d=Q at*;generalize val m%val d=R at*;by_cases hq:Q=0
   ·refine Ev.x N.KW rfl rfl ?_
    repeat' (first|apply AG<;>intro hc<;>try omega|apply AP|apply AE|refine AD (hD _ _) ?_)<;>conv=>whnf
    refine EK 1000 N.CH rfl rfl ?_;repeat' (first|apply AG<;>intro hc<;>try omega|apply AP|apply AE)<;>conv=>whnf
    all_goals (refine⟨rfl,?_⟩;(conv=>whnf);skip)
    refine EK 1000 N.CH rfl rfl ?_;(repeat' (apply AE<;>conv=>whnf))
    all_goals (refine⟨rfl,?_⟩;(conv=>whnf);skip)
    exact ae _ _ _ _ _ _ O' O' (FZ O') (FZ O')
   ·refine Ev.x N.KW rfl rfl ?_
    repeat' (first|apply AG<;>intro hc<;>try omega|apply AP|apply AE|refine AD (hD _ _) ?_)<;>conv=>whnf
    refine EK 1000 N.CH rfl rfl ?_;repeat' (first|apply AG<;>intro hc<;>try omega|apply AP|apply AE)<;>conv=>whnf
    all_goals (refine⟨rfl,?_⟩;(conv=>whnf);skip)
    refine EK 1000 N.CH rfl rfl ?_;(repeat' (apply AE<;>conv=>whnf))
    all_goals (refine⟨rfl,?_⟩;(conv=>whnf);skip)
    exact ae _ _ _ _ _ _ O' O' (L3 O') (FZ O')
theorem AiL(N:dw L){x:Rat}{k:Nat}(hx:Bt k x)(hk:k<2199023255552):Ev L 384 [.agg (eQ x)] (.agg (eZ x.floor)):=by
 have hs:=hx.sm hk;obtain⟨n',m',d',w,hr,s1,s2,s3,s4,s5⟩:=NR N.toa6 (decide (x.num<0)) (dg x.num.natAbs) (dg x.den) 68719476736 O' hs.1 hs.2;rw[FX]at s5;have vf:=V2 N.toa6 d';obtain⟨r,hD⟩:=AiP N n' m' d' (s1.le O') (s2.le O') s3;rw[<-AjZ s3,<-s5]at hD;generalize x.floor=f at*;refine Ev.x N.TF rfl rfl ?_;repeat' (first|apply H2|apply RN|apply AE|refine AD (hr) ?_|refine AD (vf) ?_|refine AD (hD _ _) ?_)<;>conv=>whnf
 exact AU rfl (DM _)
theorem vL(v:Int)(b:Bool):AY (.j4 [.int .i64 v,.bool b]):=by simp[AY,BI]
theorem Sh{q:Rat}:q.num<0↔q<0:=by rw[<-ij,yi,xj]
theorem Si{q:Rat}:0<q.num↔0<q:=by
 have h:=Sh (q := -q);rw[Dg]at h;constructor
 ·intro h1
  have:=h.1 O'
  grind
 ·intro h1
  have:=h.2 A'
  omega
theorem Am8{m:Int}{x:Rat}:v7 ((m:Rat)-x).num<=0↔m<=x.floor:=by
 rw[Rat.le_floor_iff];have h1:v7 ((m:Rat)-x).num<=0↔((m:Rat)-x).num<=0:=by
  unfold v7;split
  ·omega
  ·split<;>omega
 rw[h1,<-kj,Si];constructor<;>intro h<;>grind
theorem Vz{m:Int}{x:Rat}:0<v7 (x-(m:Rat)).num↔(m:Rat)<x:=by
 have h1:0<v7 (x-(m:Rat)).num↔0<(x-(m:Rat)).num:=by
  unfold v7;split
  ·omega
  ·split<;>omega
 rw[h1,Si];constructor<;>intro h<;>grind
theorem Vy{m:Int}{x:Rat}:v7 (x-(m:Rat)).num<0↔x<(m:Rat):=by
 have h1:v7 (x-(m:Rat)).num<0↔(x-(m:Rat)).num<0:=by
  unfold v7;split
  ·omega
  ·split<;>omega
 rw[h1,Sh];constructor<;>intro h<;>grind
end Go.Eng

namespace Go.Eng
open F
attribute [local irreducible] AA AF AW AC AX AB AH pw BG CM A5 HF E5 MB kP U9 HO BS D7 BR
variable {L:Lib}
set_option maxRecDepth 8000
theorem Uu{l:o_}{i:Nat}{x:Rat}(h:l[i]?=some x):BJ (l.take (i+1))=BJ (l.take i)+BW x:=by rw[KG h,Wf]
theorem zB(N:u5 L)(q:Bool)(v:o_)(k:Nat)(hv:Bs k v)(hn:v.length<=1000)(hk:k<=1000000000):Ev L 300 [.sl q (v.map eQ)] (.agg (eQ (BJ v))):=by
 have hO:=I6 N.toa6 0 O';rw[show((0:Int):Rat)=0 from rfl]at hO;refine Ev.x N.PB rfl rfl ?_;repeat' (first|apply AP|apply AE|refine AD (hO) ?_)<;>conv=>whnf
 refine DP (λi=>v.length-i) (λ(i:Nat)=>i<=v.length) (λi=>[(9,.int .i64 i)]) (λi=>[(3,3,.bx (eQ (BJ (v.take i))))]) [] [] 0 (by rw[show BJ (v.take 0)=0 from rfl];exact E') O' ?_;intro i p1 ih;by_cases hi:i<v.length
 ·obtain⟨x,hx⟩:=N' v i hi
  have ud:v[(i:Int).toNat]?=some x:=hx;have hA:=fK N.tobf (hv.at hx) O';have hz:Bt (1000*(k+1)) (BJ (v.take i)):=(RF (hv.take i)).le (zR _ J');have hP:=J4 N.toa6 hz (JG (hv.at hx)) O' O';rw[<-Uu hx]at hP;generalize BJ (v.take i)=w at*;generalize BW x=y at*;repeat' (first|apply AG<;>intro hc<;>try omega|apply AR;omega|refine A3 V' ?_ rfl ?_;omega|apply AE|refine AD (hA) ?_|refine AD (hP) ?_)<;>conv=>whnf
  exact BC [] (ih (i+1) O' O')
 obtain rfl:i=v.length:=O'
 clear ih;rw[zT (Jb _)];repeat' (first|apply AG<;>intro hc<;>try omega|apply AE)<;>conv=>whnf
 exact AU rfl (DG _)
theorem Qi{l:o_}{i:Nat}{x:Rat}(h:l[i]?=some x):CO (l.take (i+1))=I8 (CO (l.take i)) x:=by rw[KG h,Akh]
theorem WR{x y:Rat}:0<v7 (x-y).num↔y<x:=by
 have h:=rN (x-y).num;have e1:(x-y).num<0↔x<y:=by rw[pY];constructor<;>intro h<;>grind
 have e2:(x-y).num=0↔x=y:=by rw[Rat.num_eq_zero];constructor<;>intro h<;>grind
 rcases h with⟨h1,h2⟩|⟨h1,h2⟩|⟨h1,h2⟩
 ·have:=e1.1 h2
  rw[h1];constructor
  ·intro h;omega
  ·intro h;grind
 ·have:=e2.1 h2
  rw[h1];constructor
  ·intro h;omega
  ·intro h;grind
 ·have h3:¬x<y:=λh=>by have:=e1.2 h;omega
  have h4:¬x=y:=λh=>by have:=e2.2 h;omega
  rw[h1];constructor
  ·intro _;grind
  ·intro _;omega
theorem Ai9(N:u5 L)(q:Bool)(v:o_)(k:Nat)(hv:Bs k v)(hn:v.length<=1000000)(hk:k<=1000000000000):Ev L 301 [.sl q (v.map eQ)] (.agg (eQ (CO v))):=by
 have hO:=I6 N.toa6 0 O';rw[show((0:Int):Rat)=0 from rfl]at hO;refine Ev.x N.O7 rfl rfl ?_;repeat' (first|apply AP|apply AE|refine AD (hO) ?_)<;>conv=>whnf
 refine DP (λi=>v.length-i) (λ(i:Nat)=>i<=v.length) (λi=>[(10,.int .i64 i)]) (λi=>[(3,3,.bx (eQ (CO (v.take i))))]) [] [] 0 (by rw[show CO (v.take 0)=0 from rfl];exact E') O' ?_;intro i p1 ih;by_cases hi:i<v.length
 ·obtain⟨x,hx⟩:=N' v i hi
  have ud:v[(i:Int).toNat]?=some x:=hx;have hA:=fK N.tobf (hv.at hx) O';have hC:=mP N.tocb (JG (hv.at hx)) (QZ (hv.take i)) O' O';have hg:=WR (x:=BW x) (y:=CO (v.take i));have hs:CO (v.take (i+1))=if CO (v.take i)<BW x then BW x else CO (v.take i):=Qi hx
  by_cases h:CO (v.take i)<BW x
  ·rw[if_pos h]at hs
   have h1:=hg.2 h;rw[<-hs]at hA hC h1;generalize v7 (CO (v.take (i+1))-CO (v.take i)).num=g at*;repeat' (first|apply AG<;>intro hc<;>try omega|apply AR;omega|refine A3 V' ?_ rfl ?_;omega|apply AE|refine AD (hA) ?_|refine AD (hC) ?_)<;>conv=>whnf
   exact BC [] (ih (i+1) O' O')
  ·rw[if_neg h]at hs
   have h1:¬0<v7 (BW x-CO (v.take i)).num:=λe=>h (hg.1 e)
   rw[<-hs]at hC h1⊢;clear hg h hs;generalize v7 (BW x-CO (v.take (i+1))).num=g at*;generalize BW x=y at*;repeat' (first|apply AG<;>intro hc<;>try omega|apply AR;omega|refine A3 V' ?_ rfl ?_;omega|apply AE|refine AD (hA) ?_|refine AD (hC) ?_)<;>conv=>whnf
   exact BC [] (ih (i+1) O' O')
 obtain rfl:i=v.length:=O'
 clear ih;rw[zT (Jb _)];repeat' (first|apply AG<;>intro hc<;>try omega|apply AE)<;>conv=>whnf
 exact AU rfl (DG _)
theorem Ai7(N:u5 L)(q q':Bool)(a:P')(D:Rat)(n k l:Nat)(hs:Sq n a)(ha:Ms k a)(hD:Bt l D)(hn:n<=16)(hk:k<=1000000000)(hl:l<=1000000000):Ev L 302 [.sl q (IK q' a),.agg (eQ D)] (.bool (decide (∀r∈a,BJ r+BJ r<=D))):=by
 have me:=hs.l;refine Ev.x N.O3 rfl rfl ?_;repeat' (first|apply AP|apply AE)<;>conv=>whnf
 refine C0 (λi=>n-i) (λ(i:Nat)=>i<=n/\∀r∈a.take i,BJ r+BJ r<=D) (λi=>[(10,.int .i64 i)]) (λ_=>[]) 0 ⟨O',λr hr=>by cases hr⟩ ?_;intro i ⟨p1,p2⟩ ih;by_cases hi:i<n
 ·obtain⟨r,hr⟩:=N' a i
  have tz:a[(i:Int).toNat]?=some r:=hr;have gu:=hs.at hr;have hT:=λq=>zB N q r k (ha.at hr) O' hk
  have hz:Bt (16*(k+1)) (BJ r):=(RF (ha.at hr)).le (zR _ O');have hP:=J4 N.toa6 hz hz O' O';have hC:=mP N.tocb (hz.add hz) hD O' O';have hg:=WR (x:=BJ r+BJ r) (y:=D);by_cases h:D<BJ r+BJ r
  ·have iz:¬∀r∈a,BJ r+BJ r<=D:=λe=>by
    have:=e r (zM hr)
    grind
   have:=hg.2 h
   rw[decide_eq_false iz];clear iz p2 ih hz h hg;generalize v7 (BJ r+BJ r-D).num=g at*;generalize BJ r+BJ r=w at*;generalize BJ r=z at*;repeat' (first|apply AG<;>intro hc<;>try omega|refine A3 V' ?_ rfl ?_;omega|apply AE|refine AD (hT _) ?_|refine AD (hP) ?_|refine AD (hC) ?_)<;>conv=>whnf
   exact EV rfl
  ·have Oy:∀r∈a.take (i+1),BJ r+BJ r<=D:=λs hs=>by
    rw[KG hr]at hs;rcases lg.1 hs with hs|hs
    ·exact p2 s hs
    ·obtain rfl:=gf.1 hs
     grind
   have:¬0<v7 (BJ r+BJ r-D).num:=λe=>h (hg.1 e)
   clear p2 hz h hg;generalize v7 (BJ r+BJ r-D).num=g at*;generalize BJ r+BJ r=w at*;generalize BJ r=z at*;repeat' (first|apply AG<;>intro hc<;>try omega|apply AR;omega|refine A3 V' ?_ rfl ?_;omega|apply AE|refine AD (hT _) ?_|refine AD (hP) ?_|refine AD (hC) ?_)<;>conv=>whnf
   exact BC [] (ih (i+1) O' ⟨O',Oy⟩)
 obtain rfl:i=n:=O'
 clear ih;rw[zT O']at p2;rw[decide_eq_true p2];repeat' (first|apply AG<;>intro hc<;>try omega|apply AE)<;>conv=>whnf
 exact EV rfl
theorem Te{α:Type}{a b:List α}{j:Nat}{y:α}(hl:a.length=b.length)(hy:a[j]?=some y):(a.take j++b.drop j).set j y=a.take (j+1)++b.drop (j+1):=by
 have h:=(zS hy).1;rw[yf _ _ J',za,Be O',cd,Gc O',jf,db,hy,Eb,ue];rfl
def I3(Q:P')(n j:Nat):List (p_):=Q.map λr=>some (3,(DS (r.take j) n).map eO)
def MG(Q:P')(n j m:Nat):List (p_):=(I3 Q n (j+1)).take m++(I3 Q n j).drop m
theorem QQ(Q:P')(n j:Nat):(I3 Q n j).length=Q.length:=by simp[I3]
theorem AgW(Q:P')(n j:Nat):MG Q n j 0=I3 Q n j:=by simp[MG]
theorem AgT(Q:P')(n j:Nat):MG Q n j Q.length=I3 Q n (j+1):=by
 rw[MG,zT (by rw[QQ];exact Jb _),dd (by rw[QQ];exact Jb _),yc]
theorem AgU{Q:P'}{n j m:Nat}(h:m<=Q.length):(MG Q n j m).length=Q.length:=by
 rw[MG,Ma,za,Df,QQ,QQ];omega
theorem AgS{Q:P'}{n j m:Nat}{r:o_}(hr:Q[m]?=some r):(MG Q n j m)[m]?=some (some (3,(DS (r.take j) n).map eO)):=by
 have h:=(zS hr).1;rw[MG,Mc (by rw[za,QQ];omega),za,QQ,Be O',cd,Nf,Ef,I3,sa,hr];rfl
theorem AgV{Q:P'}{n j m:Nat}{r:o_}(hr:Q[m]?=some r):(MG Q n j m).set m (some (3,(DS (r.take (j+1)) n).map eO))=MG Q n j (m+1):=by
 have h:=(zS hr).1;exact Te (by rw[QQ,QQ]) (by rw[I3,sa,hr];rfl)
theorem Ae1{R:List (p_)}{i z:Nat}{es:v_}{K:Nat->v_->Prop}(h:R[i]?=some (some (z,es)))(hk:K z es):E5 R i K:=by
 unfold E5;exact⟨z,es,h,hk⟩
theorem AgX{Q:P'}{n:Nat}(h:∀r∈Q,r.length=n):I3 Q n n=EN 3 eQ Q:=by
 refine Oa λr hr=>?_
 have:=h r hr
 rw[zT O',aO this]
theorem Aja(N:u5 L)(q q':Bool)(a:P')(n k:Nat)(hs:Sq n a)(ha:Ms k a)(hn:n<=4)(hk:k<=1000000000):Ev L 299 [.sl q (IK q' a)] (.sl false (eM (H8 a a n))):=by
 have me:=hs.l;have Ey:Sq n (H8 a a n):=Sq.mul hs.l a;have Lp:∀(i:Nat)(r:o_),a[i]?=some r->(H8 a a n)[i]?=some (F9 r a n):=λi r hr=>by rw[H8,sa,hr];rfl
 have Ip:∀(j:Nat)(r:o_),j<n->(F9 r a n)[j]?=some (BQ r (DE a j)):=λj r hj=>by rw[F9,sa,Ha hj];rfl
 have Lq:=Ey.l;have Io:=Ey.r;generalize H8 a a n=Q at*;refine Ev.x N.JL rfl rfl ?_;repeat' (first|apply AP|apply AE)<;>conv=>whnf
 unfold U9;refine⟨⟨O',O',by simp only[ET];omega,O'⟩,?_⟩;rw[tb,me];conv=>whnf
 skip
 have hl0:=QQ Q n 0;have Ig:∀i,i<n->(I3 Q n 0)[i]?=some (some (3,(Na n (none:Option Rat)).map eO)):=λi hi=>by
  rw[I3,sa,zE O',zb,Pb,aP]
 refine DP (λi=>n-i) (λ(i:Nat)=>i<=n) (λi=>[(15,.int .i64 i)]) (λi=>[(13,13,.mx (fz none ((I3 Q n 0).take i) n))]) [] [] 0 (by first|exact E'|(rw[Pb,show fz (none:p_) [] n=Na n none by simp[fz]];exact E')) O' ?_;intro i p1 ih;have de:((I3 Q n 0).take i).length=i:=by rw[za];omega
 have iq:=Rx (z:=(none:p_)) (l:=(I3 Q n 0).take i) (m:=n) O';by_cases hi:i<n
 ·have uw:=Ry (z:=(none:p_)) (x:=some (3,(Na n (none:Option Rat)).map eO)) (l:=(I3 Q n 0).take i) (m:=n) O'
  rw[de,<-KG (Ig i hi)]at uw;generalize fz (none:p_) ((I3 Q n 0).take i) n=J at*;repeat' (first|apply AG<;>intro hc<;>try omega|apply AE)<;>conv=>whnf
  refine E6 (enc:=eO) none n rfl rfl O' ?_;conv=>whnf
  repeat' (first|apply A2;omega|fail)<;>conv=>whnf
  unfold AW MB;refine⟨Z',O',?_⟩;conv=>whnf
  rw[show 0+((i:Int)).toNat=i by omega,uw];repeat' (first|apply AR;omega|fail)<;>conv=>whnf
  exact BC [] (ih (i+1) O' O')
 have ei:i=n:=O'
 clear ih iq;rw[ei,zT O',Rv O'];repeat' (first|apply AG<;>intro hc<;>try omega|apply AE)<;>conv=>whnf
 refine E6 (enc:=eO) none n rfl rfl O' ?_;conv=>whnf
 skip
 refine DT (λj _=>n-j) (λ(j:Nat)(C:List (Option Rat))=>j<=n/\C.length=n) (λj _=>[(27,.int .i64 j)]) (λj C=>[(25,25,.rw 3 (C.map eO)),(13,13,.mx (I3 Q n j))]) 0 (Na n none) ⟨O',Z'⟩ ?_;intro j C ⟨r1,r2⟩ jh;by_cases hj:j<n
 ·have s8:(DE a j).length=n:=by rw[AgQ];exact me
  have AAR:((DE a j).map some).length=n:=by rw[na];exact s8
  repeat' (first|apply AG<;>intro hc<;>try omega|apply AE)<;>conv=>whnf
  refine DP (λi=>n-i) (λ(i:Nat)=>i<=n) (λi=>[(31,.int .i64 i)]) (λi=>[(25,25,.rw 3 ((((DE a j).map some).take i++C.drop i).map eO))]) [] [] 0 (by rw[Pb,Ah,Gd];exact E') O' ?_;intro i2 s1 kh;have tu:(((DE a j).map some).take i2++C.drop i2).length=n:=by rw[Ma,za,Df];omega
  by_cases va:i2<n
  ·obtain⟨r,hr⟩:=N' a i2
   have gu:=hs.at hr;obtain⟨x,hx⟩:=N' r j;have tz:a[(i2:Int).toNat]?=some r:=hr;have ud:r[(j:Int).toNat]?=some x:=hx;have hcx:((DE a j).map some)[i2]?=some (some x):=by
    rw[sa,DE,sa,hr];simp only[zb,da,hx,Db]
   have o4:=Te (a:=(DE a j).map some) (b:=C) O' hcx;generalize ((DE a j).map some).take i2++C.drop i2=W at*;repeat' (first|apply AG<;>intro hc<;>try omega|apply A2;omega|refine A3 V' ?_ rfl ?_;omega|apply AE)<;>conv=>whnf
   refine HS (enc:=eO) (some x) rfl (λe=>by cases e<;>rfl) O' ?_;conv=>whnf
   rw[o4];repeat' (first|apply AR;omega|fail)<;>conv=>whnf
   exact BC [] (kh (i2+1) O' O')
  obtain rfl:i2=n:=O'
  clear kh tu;rw[zT O',dd O',yc,show((DE a j).map some).map eO=(DE a j).map eQ by rw[tc];rfl];repeat' (first|apply AG<;>intro hc<;>try omega|apply AE)<;>conv=>whnf
  refine DP (λi=>i2-i) (λ(i:Nat)=>i<=i2) (λi=>[(46,.int .i64 i)]) (λi=>[(13,13,.mx (MG Q i2 j i))]) [] [] 0 (by rw[AgW];exact E') O' ?_;intro i3 s2 lh;have tu:=AgU (Q:=Q) (n:=i2) (j:=j) (m:=i3) O';by_cases Dh:i3<i2
  ·obtain⟨r,hr⟩:=N' a i3
   have gu:=hs.at hr;have tz:a[(i3:Int).toNat]?=some r:=hr;have hq:=Lp i3 r hr;have fw:=AgS (n:=i2) (j:=j) hq;have bj:=AgV (n:=i2) (j:=j) hq;have Hp:=Ip j r hj;have Nr:(F9 r a i2).length=i2:=Io _ (zM hq);have htk:((F9 r a i2).take j).length=j:=by rw[za];omega
   have uw:=YC (l:=(F9 r a i2).take j) (m:=i2) (x:=BQ r (DE a j)) O';rw[htk,<-KG Hp]at uw;have iq:=R6 (l:=(F9 r a i2).take j) (m:=i2) O';rw[<-uw]at bj;have hD:=λq q'=>yY N q q' r (DE a j) k k O' (ha.at hr) (Ms.Km ha j) O' hk hk
   clear hq Hp uw htk Nr;generalize DS ((F9 r a i2).take j) i2=W at*;generalize BQ r (DE a j)=y at*;generalize MG Q i2 j i3=R0 at*;repeat' (first|apply AG<;>intro hc<;>try omega|apply A2;omega|apply AE)<;>conv=>whnf
   refine dC (r:=some (3,W.map eO)) (by rw[ic,tb];exact fw) ?_;conv=>whnf
   repeat' (first|refine A3 V' ?_ rfl ?_;omega|fail)<;>conv=>whnf
   refine CR (enc:=eQ) (λ_=>rfl) rfl s8.symm ?_;conv=>whnf
   (repeat' (refine AD (hD _ _) ?_<;>conv=>whnf))
   refine A2 H' ?_;conv=>whnf
   skip
   refine Ae1 (z:=3) (es:=W.map eO) (by rw[ic,tb];exact fw) ?_;conv=>whnf
   refine HS (enc:=eO) (some y) rfl (λe=>by cases e<;>rfl) O' ?_;conv=>whnf
   unfold kP;refine⟨by rw[na,na,xd],?_⟩;rw[show 0+((i3:Int)).toNat=i3 by omega,bj];conv=>whnf
   repeat' (first|apply AR;omega|fail)<;>conv=>whnf
   exact BC [] (lh (i3+1) O' O')
  obtain rfl:i3=i2:=O'
  clear lh tu;have ju:=AgT Q i3 j;rw[Lq]at ju;rw[ju];repeat' (first|apply AG<;>intro hc<;>try omega|apply AR;omega|apply AE)<;>conv=>whnf
  rw[show(DE a j).map eQ=((DE a j).map some).map eO by rw[tc];rfl];exact BC [] (jh (j+1) ((DE a j).map some) O' ⟨O',by rw[na];exact s8⟩)
 have ej:j=n:=O'
 clear jh;rw[ej,AgX Io];repeat' (first|apply AG<;>intro hc<;>try omega|apply AE)<;>conv=>whnf
 refine VE (λ_=>rfl) rfl O' ?_;conv=>whnf
 exact AU rfl (vK Q)
abbrev IJ(q:Bool)(R:P')(D:Rat)(p:Int)(T:Rat):w_:=[.sl false (IK q R)]++eQ D++[.int .i64 p]++eQ T
theorem lH(R:P')(D:Rat)(p:Int)(T:Rat)(e:Int):AY (.j4 [.agg (IJ false R D p T),.int .i64 e]):=by
 have h1:=lI R;have h2:=DG D;have h3:=DG T;simp only[AY,BI,true_and,and_true,IJ,Cf,Gd]at h1 h2 h3⊢;exact⟨h1,h2.1,h2.2,h3.1,h3.2⟩
theorem RB{i:Nat}(h:i<=6):2^i<=64/\(2^i=64->i=6)/\1<=2^i:=by
 obtain rfl|rfl|rfl|rfl|rfl|rfl|rfl:i=0\/i=1\/i=2\/i=3\/i=4\/i=5\/i=6:=O'
 all_goals decide
theorem qL{D:Rat}{d:Nat}(h:Bt d D):∀j:Nat,Bt (j*d) (D^j)
 |0=>by rw[Cc];exact Bt.one _
 |j+1=>by
  rw[pc];exact((qL h j).mul h).le (by rw[fc];omega)
theorem iE{S M:Nat}(h:S<=2^M):Bt M (S:Rat):=by
 refine⟨?_,?_⟩
 ·rw[kg,zc];exact h
 ·rw[gg];exact Mf
theorem WF{S:Nat}(h:0<S):(0:Rat)<(S:Rat):=by
 have:=Rat.natCast_lt_natCast.2 h
 exact this
theorem Ajb(N:u5 L)(q q':Bool)(a:P')(n k:Nat)(hs:Sq n a)(ha:Ms k a)(hn:n<=4)(hk:k<=100000) :
  ∃v,Ev L 303 [.sl q (IK q' a)] v/\((∃i,i<=6/\GC n a i/\v = .j4 [.agg (IJ false (B7 (G8 a.flatten) a) (G8 a.flatten) ((2^i:Nat):Int) (G8 a.flatten^(2^i+2^i-1))),.int .i64 0]) \/
   ((∀j,j<=6->ED (B8 n a j)=false)/\v = .j4 [.agg [.sl false [],.bool false,.sl false [],.sl false [],.int .i64 0,.bool false,.sl false [],.sl false []],.int .i64 14])):=by
 have me:=hs.l;have my:n*n<=4*4:=Nb hn hn;have kn:n*n*k<=16*k:=zR k my;have iq:a.flatten.length<=64:=by
  have:∀(a:P'),(∀r∈a,r.length=n)->a.flatten.length=a.length*n:=by
   intro a;induction a with
   |nil=>intro _;simp
   |cons r a ih=>
    intro h;rw[od,Ma,ih λx hx=>h x (Da _ hx),h r Ca,dc,fc,ze]
  rw[this a hs.r,me];omega
 have wi:=mY N q q' a k ha iq O' O';have hO:=I6 N.toa6 1 O';rw[show((1:Int):Rat)=1 from rfl]at hO;obtain⟨D0,eD,d1,d2,d3⟩:=jL hs ha;have uj:Bt (16*k) (D0:Rat):=iE (Mb d2 (ob O' kn));have hDp:(0:Rat)<(D0:Rat):=WF d1;have hDN:=mD (Mb d2 (ob O' kn));have hRW:=jR hs hn d3;rw[eD]at wi⊢;generalize (D0:Rat)=D at*;clear eD d1 d2 d3;have Bh:(B7 D a).length=n:=by rw[Ux];exact me
 have Lt:∀(i:Nat)(r:o_),a[i]?=some r->(B7 D a)[i]?=some (r.map (· * D)):=λi r hr=>Anh hr
 have vl:∀i,Sq n (B7 (DN D i) (B8 n a i)):=λi=>Uy _ (W2 hs i)
 have wv:∀i,i<=6->Ms 300000000 (B7 (DN D i) (B8 n a i)):=λi hi r hr x hx=>((hRW i r hr x hx).le (by have:=Xn (k:=k) i O';omega)).bt
 have az:∀i,i<=6->Bt 300000000 (DN D i):=λi hi=>((hDN i).le (by
  have:=(RB hi).1
  have:=zR (16*k) this
  omega)).bt
 have hCt:=λ(i:Nat)(q q':Bool)(hi:i<=6)=>Ai7 N q q' (B7 (DN D i) (B8 n a i)) (DN D i) n 300000000 300000000 (vl i) (wv i hi) (az i hi) O' O' O'
 have Fg:=λ(i:Nat)(q q':Bool)(hi:i<=6)=>Aja N q q' (B7 (DN D i) (B8 n a i)) n 300000000 (vl i) (wv i hi) hn O'
 have hMD:=λ(i:Nat)(hi:i<=6)=>KU N.toa6 (az i hi) (az i hi) O' O'
 have o4:∀i,H8 (B7 (DN D i) (B8 n a i)) (B7 (DN D i) (B8 n a i)) n=B7 (DN D (i+1)) (B8 n a (i+1)):=λi=>Yw n a D i
 have hci:∀i,(∀r∈B7 (DN D i) (B8 n a i),BJ r+BJ r<=DN D i)↔ED (B8 n a i)=true:=λi=>Ag1 hDp
 have ti:=λ(j:Nat)(hj:j<=128)=>KU N.toa6 (qL uj j) uj (show j*(16*k)<2199023255552 by
  have:=zR (16*k) hj
  omega) O'
 have Fv:∀(i:Nat)(q q':Bool),i<=6->Ev L 302 [.sl q (IK q' (B7 (DN D i) (B8 n a i))),.agg (eQ (DN D i))] (.bool (ED (B8 n a i))):=λi q q' hi=>by
  have:=hCt i q q' hi
  rwa [show decide (∀r∈B7 (DN D i) (B8 n a i),BJ r+BJ r<=DN D i)=ED (B8 n a i)by rw[Bool.eq_iff_iff,decide_eq_true_iff];exact hci i]at this
 have Ff:∀(i:Nat)(q q':Bool),i<=6->Ev L 299 [.sl q (IK q' (B7 (DN D i) (B8 n a i)))] (.sl false (eM (B7 (DN D (i+1)) (B8 n a (i+1))))):=λi q q' hi=>by
  have:=Fg i q q' hi
  rwa [o4]at this
 have mq:∀i,i<=6->Ev L 99 [.agg (eQ (DN D i)),.agg (eQ (DN D i))] (.agg (eQ (DN D (i+1)))):=hMD;have Lm:∀j:Nat,j<=128->Ev L 99 [.agg (eQ (D^j)),.agg (eQ D)] (.agg (eQ (D^(j+1)))):=λj hj=>by
  have:=ti j hj
  rwa [<-pc]at this
 have xi:∀q q':Bool,Ev L 302 [.sl q (IK q' (B7 D a)),.agg (eQ D)] (.bool (ED (B8 n a 0))):=λq q'=>Fv 0 q q' O'
 have Ez:∀q q':Bool,Ev L 299 [.sl q (IK q' (B7 D a))] (.sl false (eM (B7 (DN D 1) (B8 n a 1)))):=λq q'=>Ff 0 q q' O'
 have Eu:Ev L 99 [.agg (eQ D),.agg (eQ D)] (.agg (eQ (DN D 1))):=mq 0 O';clear hCt Fg hMD ti o4 hci wv az vl hRW hDN;refine Ev.xE N.K6 rfl rfl ?_;by_cases h0:n=0
 ·obtain rfl:a=[]:=je.1 O'
  have hb:ED (B8 n [] 0)=true:=rfl;have nk:=xi false false;rw[hb]at nk;have Kt:Ev L 302 [.sl false [],.agg (eQ D)] (.bool true):=nk;have hP0:=Lm 0 O';rw[Cc]at hP0;repeat' (first|apply AP|apply AE|refine AD (wi) ?_|refine AD (hO) ?_)<;>conv=>whnf
  refine IV ?_;repeat' (first|apply AG<;>intro hc<;>try omega|apply AE)<;>conv=>whnf
  refine IV ?_;repeat' (first|apply BP;omega|apply F3;omega|apply AE|refine AD (Kt) ?_)<;>conv=>whnf
  refine IV ?_;repeat' (first|apply AG<;>intro hc<;>try omega|apply AR;omega|apply AE|refine AD (hP0) ?_)<;>conv=>whnf
  refine IV ?_;repeat' (first|apply AG<;>intro hc<;>try omega|apply AE)<;>conv=>whnf
  refine⟨.j4 [.agg (IJ false [] D 1 (D^1)),.int .i64 0],?_,Or.inl ⟨0,O',⟨rfl,λj hj=>absurd hj O'⟩,rfl⟩⟩;exact AU rfl (lH [] D 1 (D^1) 0)
 repeat' (first|apply AP|apply AE|refine AD (wi) ?_|refine AD (hO) ?_)<;>conv=>whnf
 refine DT (λi _=>n-i) (λ(i:Nat)(fl:Bool)=>i<=n/\fl=decide (i=0)) (λi _=>[(15,.int .i64 i)]) (λi fl=>bif fl then[]else[(4,4,.bx ([.row 1000 0 1 0 i]++eQ D++[.int .i64 1]++eQ 1)),(1000,26,.rw 1 (((B7 D a).take i).map λr=>[AV.sl false (r.map eQ)]))]) 0 true ⟨O',rfl⟩ ?_;intro i fl ⟨p1,p2⟩ ih;have gu:((B7 D a).take i).length=i:=by rw[za];omega
 by_cases hi:i<n
 ·obtain⟨r,hr⟩:=N' a i
  have tz:a[(i:Int).toNat]?=some r:=hr;have fy:=hs.at hr;have Iu:=λq=>mZ N q r D k (16*k) (ha.at hr) uj O' O' O'
  have fw:=Lt i r hr;generalize r.map (· * D)=w at*;cases fl
  ·have lj:i≠0:=by simpa using p2.symm
   repeat' (first|apply AG<;>intro hc<;>try omega|refine A3 V' ?_ rfl ?_;omega|apply CI|apply AE|refine AD (Iu _) ?_)<;>conv=>whnf
   refine C1 (l:=(B7 D a).take i) (z:=1) (bytes:=24) (enc:=λr:o_=>[AV.sl false (r.map eQ)]) w rfl gu.symm rfl O' O' ?_;conv=>whnf
   repeat' (first|apply AR;omega|fail)<;>conv=>whnf
   rw[<-KG fw,show((B7 D a).take (i+1)).length=i+1 by rw[za];omega];exact BC [(1000,26)] (ih (i+1) false O' ⟨O',Z'⟩)
  ·have lj:i=0:=by simpa using p2.symm
   subst lj;repeat' (first|apply AG<;>intro hc<;>try omega|refine A3 V' ?_ rfl ?_;omega|apply CI|apply AE|refine AD (Iu _) ?_)<;>conv=>whnf
   refine L8 (enc:=λr:o_=>[AV.sl false (r.map eQ)]) w rfl rfl O' ?_;conv=>whnf
   repeat' (first|apply AR;omega|fail)<;>conv=>whnf
   rw[show[w]=(B7 D a).take (0+1)by rw[KG fw];rfl];exact BC [(1000,26)] (ih 1 false O' ⟨O',Z'⟩)
 have ei:i=n:=O'
 obtain rfl:fl=false:=by rw[p2];simp;omega
 clear ih p2 gu;rw[ei,zT O'];repeat' (first|apply AG<;>intro hc<;>try omega|apply AE)<;>conv=>whnf
 refine DT (λi _=>7-i) (λ(i:Nat)(fl:Bool)=>i<=6/\(fl=true->i=0)/\∀j,j<i->ED (B8 n a j)=false) (λi fl=>[(7,bif fl then .row 1000 0 1 0 n else .sl false (eM (B7 (DN D i) (B8 n a i))))]) (λi _=>[(8,8,.bx (eQ (DN D i))),(4,4,.bx ([.row 1000 0 1 0 n]++eQ D++[.int .i64 ((2^i:Nat):Int)]++eQ 1))]) 0 true ⟨O',λ_=>rfl,λj hj=>absurd hj O'⟩ ?_;intro i fl ⟨s1,s2,s3⟩ jh;obtain⟨g1,g2,g3⟩:=RB s1;have Ab:((2^(i+1):Nat):Int)=((2^i:Nat):Int)*2:=by rw[Ee];omega
 have Bp:=λq q'=>Fv i q q' s1
 have kp:=λq q'=>Ff i q q' s1
 have hmi:=mq i s1;cases hb:ED (B8 n a i)
 ·rw[hb]at Bp
  by_cases h6:i=6
  ·have e64:((2^i:Nat):Int)=64:=by rw[h6];rfl
   have jc:∀j,j<=6->ED (B8 n a j)=false:=λj hj=>by
    by_cases h:j=6
    ·rw[h,<-h6];exact hb
    ·exact s3 j O'
   cases fl
   ·rw[e64]
    repeat' (first|apply AG<;>intro hc<;>try omega|apply AE|refine AD (Bp _ _) ?_)<;>conv=>whnf
    exact⟨_,AU rfl (by simp[AY,BI,DB]),Or.inr ⟨jc,rfl⟩⟩
   ·exact absurd (s2 rfl) O'
  ·have ABr:((2^i:Nat):Int)≠64:=λe=>h6 (g2 O')
   have ja:∀j,j<i+1->ED (B8 n a j)=false:=λj hj=>by
    by_cases h:j=i
    ·rw[h];exact hb
    ·exact s3 j O'
   cases fl
   ·generalize 2^i=P at*
    repeat' (first|apply AG<;>intro hc<;>try omega|apply F3;omega|apply AE|refine AD (Bp _ _) ?_|refine AD (kp _ _) ?_|refine AD (hmi) ?_)<;>conv=>whnf
    rw[<-Ab];exact BC [] (jh (i+1) false O' ⟨O',(λh=>by cases h),ja⟩)
   ·obtain rfl:=s2 rfl
    have nk:=xi;rw[hb]at nk;generalize 2^0=P at*;(repeat' (apply AE<;>conv=>whnf))
    refine CR (enc:=λr:o_=>[AV.sl false (r.map eQ)]) (λ_=>rfl) rfl Bh.symm ?_;conv=>whnf
    repeat' (first|apply AG<;>intro hc<;>try omega|refine AD (nk _ _) ?_)<;>conv=>whnf
    refine CR (enc:=λr:o_=>[AV.sl false (r.map eQ)]) (λ_=>rfl) rfl Bh.symm ?_;conv=>whnf
    repeat' (first|apply F3;omega|refine AD (Ez _ _) ?_|refine AD (Eu) ?_)<;>conv=>whnf
    rw[<-Ab];exact BC [] (jh (0+1) false O' ⟨O',(λh=>by cases h),ja⟩)
 ·rw[hb]at Bp
  have ux:GC n a i:=⟨hb,s3⟩;have ae:∀r:AV,r = .j4 [.agg (IJ false (B7 D a) D ((2^i:Nat):Int) (D^(2^i+2^i-1))),.int .i64 0]->((∃i,i<=6/\GC n a i/\r = .j4 [.agg (IJ false (B7 D a) D ((2^i:Nat):Int) (D^(2^i+2^i-1))),.int .i64 0])\/((∀j,j<=6->ED (B8 n a j)=false)/\r = .j4 [.agg [.sl false [],.bool false,.sl false [],.sl false [],.int .i64 0,.bool false,.sl false [],.sl false []],.int .i64 14])):=λr hr=>Or.inl ⟨i,s1,ux,hr⟩
  clear Ab jh;generalize 2^i=P at*;cases fl
  ·repeat' (first|apply BP;omega|apply F3;omega|apply AE|refine AD (Bp _ _) ?_)<;>conv=>whnf
   refine DP (λj=>P+P-1-j) (λ(j:Nat)=>j<=P+P-1) (λj=>[(54,.int .i64 j)]) (λj=>[(4,4,.bx ([.row 1000 0 1 0 n]++eQ D++[.int .i64 (P:Int)]++eQ (D^j)))]) [] [] 0 (by rw[Cc];exact E') O' ?_;intro j t1 kh;by_cases hj:j<P+P-1
   ·have hl:=Lm j O'
    repeat' (first|apply AG<;>intro hc<;>try omega|apply AR;omega|apply AE|refine AD (hl) ?_)<;>conv=>whnf
    exact BC [] (kh (j+1) O' O')
   have ej:j=P+P-1:=O'
   clear kh;rw[ej];repeat' (first|apply AG<;>intro hc<;>try omega|apply AE)<;>conv=>whnf
   refine⟨.j4 [.agg (IJ false (B7 D a) D (P:Int) (D^(P+P-1))),.int .i64 0],?_,ae _ rfl⟩;conv=>whnf
   refine CR (enc:=λr:o_=>[AV.sl false (r.map eQ)]) (λ_=>rfl) rfl Bh.symm ?_;conv=>whnf
   exact AU rfl (lH _ _ _ _ 0)
  ·obtain rfl:=s2 rfl
   have nk:=xi;rw[hb]at nk;(repeat' (apply AE<;>conv=>whnf))
   refine CR (enc:=λr:o_=>[AV.sl false (r.map eQ)]) (λ_=>rfl) rfl Bh.symm ?_;conv=>whnf
   repeat' (first|apply BP;omega|apply F3;omega|refine AD (nk _ _) ?_)<;>conv=>whnf
   refine DP (λj=>P+P-1-j) (λ(j:Nat)=>j<=P+P-1) (λj=>[(54,.int .i64 j)]) (λj=>[(4,4,.bx ([.row 1000 0 1 0 n]++eQ D++[.int .i64 (P:Int)]++eQ (D^j)))]) [] [] 0 (by rw[Cc];exact E') O' ?_;intro j t1 kh;by_cases hj:j<P+P-1
   ·have hl:=Lm j O'
    repeat' (first|apply AG<;>intro hc<;>try omega|apply AR;omega|apply AE|refine AD (hl) ?_)<;>conv=>whnf
    exact BC [] (kh (j+1) O' O')
   have ej:j=P+P-1:=O'
   clear kh;rw[ej];repeat' (first|apply AG<;>intro hc<;>try omega|apply AE)<;>conv=>whnf
   refine⟨.j4 [.agg (IJ false (B7 D a) D (P:Int) (D^(P+P-1))),.int .i64 0],?_,ae _ rfl⟩;conv=>whnf
   refine CR (enc:=λr:o_=>[AV.sl false (r.map eQ)]) (λ_=>rfl) rfl Bh.symm ?_;conv=>whnf
   exact AU rfl (lH _ _ _ _ 0)
theorem AkA{D:Rat}{f:Nat->Rat}{p j:Nat}(h:p<=j):F8 D f (j+1-p)=F8 D f (j-p)*D+f (j-p):=by
 rw[show j+1-p=(j-p)+1 by omega];rfl
abbrev VX(Z:P')(T:Rat):w_:=[.sl false (eM Z)]++eQ T
theorem AgA(Z:P')(T:Rat):AY (.agg (VX Z T)):=by
 have h1:=lI Z;have h3:=DG T;simp only[AY,BI,true_and,and_true,VX,Cf,Gd]at h1 h3⊢;exact⟨h1,h3.1,h3.2⟩
theorem Ajc(N:u5 L)(qr:Bool)(R:P')(D T:Rat)(z:Nat->o_)(n p kr kd kz:Nat)(hR:Sq n R)(hRb:Ms kr R)(hD:Bt kd D)(ki:∀j,j<=128->Bs kz (z j))(Dx:∀j,(z j).length=n)(hz:∀j,z (j+1)=GA R (z j))
  (hn:n<=4) (hp:1<=p/\p<=64) (k1:kr<=1000000000) (k2:kd<=1000000000) (k3:kz<=1000000000) :
  Ev L 304 [.agg (IJ qr R D (p:Int) T),.sl false ((z 0).map eQ)] (.agg (VX ((Ga (p+p)).map z) (F8 D (λm=>CO (z (p+m))) p))):=by
 have hO:=I6 N.toa6 0 O';rw[show((0:Int):Rat)=0 from rfl]at hO;have ae:=AgA ((Ga (p+p)).map z) (F8 D (λm=>CO (z (p+m))) p);have Ac:∀j,(Ga (j+1)).map z=(Ga j).map z++[z j]:=λj=>by rw[Hd,Ce];rfl
 have gu:∀j,((Ga j).map z).length=j:=λj=>Z'
 have Cx:∀m,m<=64->Bt (64*(kd+kz+1)) (F8 D (λm=>CO (z (p+m))) m):=λm hm=>(aV hD m λj hj=>QZ (ki (p+j) O')).le (zR _ hm)
 refine Ev.x N.O6 rfl rfl ?_;repeat' (first|apply F3;omega|apply AE|refine AD (hO) ?_)<;>conv=>whnf
 refine DT (λj _=>p+p-j) (λ(j:Nat)(fl:Bool)=>j<=p+p/\fl=decide (j=0)) (λj _=>[(14,.int .i64 j),(6,.sl false ((z (j-1)).map eQ))]) (λj fl=>bif fl then[]else[(5,5,.bx ([.row 1000 0 1 0 j]++eQ (F8 D (λm=>CO (z (p+m))) (j-p)))),(1000,27,.rw 1 (((Ga j).map z).map λr=>[AV.sl false (r.map eQ)]))]) 0 true ⟨O',rfl⟩ ?_;intro j fl ⟨p1,p2⟩ ih;by_cases hj:j<p+p
 ·have hA:=λq1 q2=>Ai6 N q1 q2 qr R (z (j-1)) n kr kz hR (Dx _) hRb (ki _ O') hn k1 k3
  have hG:=λq=>Ai9 N q (z j) kz (ki j O') (by rw[Dx];omega) O'
  have hs:=Ac j;have hl:=gu j;have gq:=gu (j+1);cases fl
  ·have Dk:j≠0:=by simpa using p2.symm
   have Pf:GA R (z (j-1))=z j:=by rw[<-hz];congr 1;omega
   rw[Pf]at hA;by_cases My:p<=j
   ·have h1:=KU N.toa6 (Cx (j-p) O') hD O' O'
    have h2:=J4 N.toa6 ((Cx (j-p) O').mul hD) (QZ (ki j O')) O' O';have he:F8 D (λm=>CO (z (p+m))) (j-p)*D+CO (z j)=F8 D (λm=>CO (z (p+m))) (j+1-p):=by
     rw[AkA My,show p+(j-p)=j by omega]
    rw[he]at h2;have e1:z (j+1-1)=z j:=rfl;rw[<-e1]at hG hA hs h2 Pf;generalize (Ga j).map z=Z at*;repeat' (first|apply AG<;>intro hc<;>try omega|apply CI|apply AE|refine AD (hA _ _) ?_)<;>conv=>whnf
    refine C1 (l:=Z) (z:=1) (bytes:=24) (enc:=λr:o_=>[AV.sl false (r.map eQ)]) (z (j+1-1)) rfl hl.symm rfl O' O' ?_;rw[<-hs,gq];conv=>whnf
    repeat' (first|apply AG<;>intro hc<;>try omega|apply AR;omega|refine AD (h1) ?_|refine AD (hG _) ?_|refine AD (h2) ?_)<;>conv=>whnf
    exact BC [(1000,27)] (ih (j+1) false O' ⟨O',Z'⟩)
   ·have ez:j-p=j+1-p:=O'
    have e1:z (j+1-1)=z j:=rfl;rw[<-e1]at hA hs Pf;rw[ez];generalize (Ga j).map z=Z at*;repeat' (first|apply AG<;>intro hc<;>try omega|apply CI|apply AE|refine AD (hA _ _) ?_)<;>conv=>whnf
    refine C1 (l:=Z) (z:=1) (bytes:=24) (enc:=λr:o_=>[AV.sl false (r.map eQ)]) (z (j+1-1)) rfl hl.symm rfl O' O' ?_;rw[<-hs,gq];conv=>whnf
    repeat' (first|apply AG<;>intro hc<;>try omega|apply AR;omega)<;>conv=>whnf
    exact BC [(1000,27)] (ih (j+1) false O' ⟨O',Z'⟩)
  ·have Dk:j=0:=by simpa using p2.symm
   subst Dk;have ez:F8 D (λm=>CO (z (p+m))) (0+1-p)=0:=by rw[show 0+1-p=0 by omega];rfl
   repeat' (first|apply AG<;>intro hc<;>try omega|apply CI|apply AE)<;>conv=>whnf
   refine L8 (enc:=λr:o_=>[AV.sl false (r.map eQ)]) (z 0) rfl rfl O' ?_;conv=>whnf
   repeat' (first|apply AG<;>intro hc<;>try omega|apply AR;omega)<;>conv=>whnf
   rw[show[z 0]=(Ga (0+1)).map z from rfl];rw[<-ez];exact BC [(1000,27)] (ih (0+1) false O' ⟨O',Z'⟩)
 have ej:j=p+p:=O'
 obtain rfl:fl=false:=by rw[p2];simp;omega
 clear ih p2;have hl:=gu j;rw[show j-p=p by omega];rw[<-ej]at ae⊢;repeat' (first|apply AG<;>intro hc<;>try omega|(refine CR (λ_=>rfl) rfl ?_ ?_;(first|rfl|simp))|apply AE)<;>conv=>whnf
 exact AU rfl ae
abbrev QS(m:P'):v_:=m.map λr=>[AV.sl true (r.map (J3 true))]
theorem Alr(Z:P')(T:Rat):LV (.agg (VX Z T)) = .agg ([.sl true (QS Z)]++J3 true T):=by
 have hd:∀l:u_,IM (l.map AJ)=l.map AJ:=λl=>by
  induction l with
  |nil=>rfl
  |cons x l ih=>rw[te,IM,ih];rfl
 have hq:∀x:Rat,I9 (eQ x)=J3 true x:=λx=>by
  show I9 [.bool _,.sl false _,.sl false _]=_;simp only[I9,HM,hd]
 have hr:∀r:o_,IM (r.map eQ)=r.map (J3 true):=λr=>by
  induction r with
  |nil=>rfl
  |cons x r ih=>rw[te,IM,ih,hq];rfl
 have hz:∀Z:P',IM (eM Z)=QS Z:=λZ=>by
  induction Z with
  |nil=>rfl
  |cons r Z ih=>
   have Hu:IM (Z.map λr=>[AV.sl false (r.map eQ)])=Z.map λr=>[AV.sl true (r.map (J3 true))]:=ih
   show IM ([AV.sl false (r.map eQ)]::Z.map λr=>[AV.sl false (r.map eQ)])=_;rw[IM,Hu];simp only[I9,HM,hr];rfl
 show AV.agg (I9 (AV.sl false (eM Z)::eQ T))=_;rw[I9,hq];simp only[HM,hz];rfl
theorem Ai8(N:u5 L)(qr q:Bool)(R:P')(D T U:Rat)(P:Int)(c:o_)(z:Nat->o_)(n m kd kc kz kt:Nat)(hD:Bt kd D)(hc:Bs kc c)(s8:c.length=n)(ki:∀j,j<=128->Bs kz (z j))(Dx:∀j,(z j).length=n)(hT:Bt kt T)
  (hn:n<=4) (hm:m<=128) (k1:kc<=100000000) (k2:kd<=100000000) (k3:kz<=100000000) (k4:kt<=100000000000) :
  Ev L 305 [.agg (IJ qr R D P U),.sl q (c.map eQ),.agg ([.sl true (QS ((Ga m).map z))]++J3 true T)] (.agg (eQ (F8 D (λj=>BW (BQ c (z j))) m+BJ c*T))):=by
 have hO:=I6 N.toa6 0 O';rw[show((0:Int):Rat)=0 from rfl]at hO;have gu:((Ga m).map z).length=m:=Z'
 have hra:∀j,j<m->((Ga m).map z)[j]?=some (z j):=λj hj=>by rw[sa,Ha hj];rfl
 have az:∀j,j<=128->Bt (4*(kc+kz+1)) (BQ c (z j)):=λj hj=>(hc.dot (ki j hj)).le (zR _ O')
 have hH:∀t,t<=128->Bt (128*(kd+4*(kc+kz+1)+1)) (F8 D (λj=>BW (BQ c (z j))) t):=λt ht=>(aV hD t λj hj=>JG (az j O')).le (zR _ ht)
 have yy:Bt (4*(kc+1)) (BJ c):=(RF hc).le (zR _ O');generalize (Ga m).map z=Z at*;refine Ev.x N.O5 rfl rfl ?_;repeat' (first|apply AP|apply AE|refine AD (hO) ?_)<;>conv=>whnf
 refine C0 (λj=>m-j) (λ(j:Nat)=>j<=m) (λj=>[(14,.int .i64 j)]) (λj=>[(7,7,.bx (eQ (F8 D (λj=>BW (BQ c (z j))) j)))]) 0 O' ?_;intro j p1 ih;by_cases hj:j<m
 ·have hr:=hra j hj
  have tz:Z[(j:Int).toNat]?=some (z j):=hr;have h1:=KU N.toa6 (hH j O') hD O' O';have hd:=λq q'=>yZ N q q' true c (z j) kc kz (by rw[s8,Dx]) hc (ki j O') O' O' O'
  have ha:=fK N.tobf (az j O') O';have h2:=J4 N.toa6 ((hH j O').mul hD) (JG (az j O')) O' O';have xf:Ev L 98 [.agg (eQ (F8 D (λj=>BW (BQ c (z j))) j*D)),.agg (eQ (BW (BQ c (z j))))] (.agg (eQ (F8 D (λj=>BW (BQ c (z j))) (j+1)))):=h2;clear h2 az hH yy;repeat' (first|apply AG<;>intro hc<;>try omega|apply AR;omega|refine A3 V' ?_ rfl ?_;omega|apply AE|refine AD (h1) ?_|refine AD (hd _ _) ?_|refine AD (ha) ?_|refine AD (xf) ?_)<;>conv=>whnf
  exact BC [] (ih (j+1) O' O')
 have ej:j=m:=O'
 clear ih;rw[ej];have hS:=λq=>zB N q c kc hc O' O'
 have h1:=yS N.toa6 true yy hT O' O';have h2:=J4 N.toa6 (hH m hm) (yy.mul hT) O' O';repeat' (first|apply AG<;>intro hc<;>try omega|apply AE|refine AD (hS _) ?_|refine AD (h1) ?_|refine AD (h2) ?_)<;>conv=>whnf
 exact AU rfl (DG _)
theorem Ami{Z:P'}{T:Rat}(h:Z≠[]):¬KI (.agg (VX Z T)):=by
 intro hf;have h1:=hf (.sl false (eM Z)) Z';cases Z with
 |nil=>exact h rfl
 |cons r Z=>
  have h2:=h1 [.sl false (r.map eQ)] Z' (.sl false (r.map eQ)) Z';simp[Q9]at h2
theorem Zp{n k j:Nat}(hn:n<=4)(hj:j<=128):XC n k j<=5*k+128*(17*k+4):=by
 have h1:n*n<=4*4:=Nb hn hn;have h2:n*n*k<=16*k:=zR k h1;have h3:n*k<=4*k:=zR k hn;have h4:j*((k+n*n*k)+n)<=128*(17*k+4):=Nb hj O';rw[XC];omega
theorem Ro(b:o_):[b].flatten=b:=Z'
theorem Aic(x:Rat):eQ (BW x)=[.bool false,.sl false ((dg x.num.natAbs).map AJ),.sl false ((dg x.den).map AJ)]:=by
 unfold BW;by_cases h:x.num<0
 ·rw[if_pos h]
  show rQ false false (decide ((-x).num<0)) _ _=_;rw[Dg,qi,Oi,show decide (-x.num<0)=false from decide_eq_false O']
 ·rw[if_neg h]
  show rQ false false (decide (x.num<0)) _ _=_;rw[show decide (x.num<0)=false from decide_eq_false h]
theorem fS(N:ay L){x:Rat}{k:Nat}(hx:Bt k x)(hk:k<2199023255552):Ev L 309 [.agg (eQ x)] (.agg (eQ (BW x))):=by
 have hT:=AjL N.tob7 hx hk;have hs:=hx.qo hk;have hR:=λq=>HJ N.tob7 (dg x.num.natAbs) q (DX _) (by have:=hs.1.2;omega)
 rw[BN]at hR;have hA:∀b q,Ev L 308 [.agg [.bool b,.sl q ((dg x.num.natAbs).map AJ)]] (.agg [.bool false,.sl false ((dg x.num.natAbs).map AJ)]):=λb q=>by
  refine Ev.x N.TQ rfl rfl ?_;repeat' (first|apply AE|refine AD (hR _) ?_)<;>conv=>whnf
  exact AU rfl (vJ _ _)
 have s8:=DG (BW x);rw[Aic]at s8⊢;refine Ev.x N.T5 rfl rfl ?_;repeat' (first|apply AE|refine AD (hT) ?_|refine AD (hA _ _) ?_)<;>conv=>whnf
 exact AU rfl s8
theorem Ajy(N:ay L)(q q':Bool)(a:P')(n:Nat)(hs:Sq n a)(hn:n<=16):Ev L 310 [.sl q (IK q' a)] (.bool true):=by
 have me:=hs.l;refine Ev.x N.P0 rfl rfl ?_;(repeat' (apply AE<;>conv=>whnf))
 refine C0 (λi=>a.length-i) (λ(i:Nat)=>i<=a.length) (λi=>[(3,.int .i64 i)]) (λ_=>[]) 0 O' ?_;intro i p1 ih;by_cases hi:i<a.length
 ·obtain⟨r,hr⟩:=N' a i hi
  have tz:a[(i:Int).toNat]?=some r:=hr;have gu:=hs.at hr;repeat' (first|apply AG<;>intro hc<;>try omega|apply AR;omega|apply AP|refine A3 V' ?_ rfl ?_;omega|apply AE)<;>conv=>whnf
  exact BC [] (ih (i+1) O' O')
 obtain rfl:i=a.length:=O'
 clear ih;repeat' (first|apply AG<;>intro hc<;>try omega|apply AP|apply AE)<;>conv=>whnf
 exact EV rfl
theorem zK(N:ay L)(q:Bool)(v:o_)(k:Nat)(hv:Bs k v)(hn:v.length<=1000)(hk:k<=1000000000):Ev L 311 [.sl q (v.map eQ)] (.agg (eQ (BJ v))):=by
 have hO:=NQ N.tob7 0 O';rw[show((0:Int):Rat)=0 from rfl]at hO;refine Ev.x N.PY rfl rfl ?_;repeat' (first|apply AE|refine AD (hO) ?_)<;>conv=>whnf
 refine DP (λi=>v.length-i) (λ(i:Nat)=>i<=v.length) (λi=>[(4,.int .i64 i)]) (λi=>[(3,3,.bx (eQ (BJ (v.take i))))]) [] [] 0 (by rw[show BJ (v.take 0)=0 from rfl];exact E') O' ?_;intro i p1 ih;by_cases hi:i<v.length
 ·obtain⟨x,hx⟩:=N' v i hi
  have ud:v[(i:Int).toNat]?=some x:=hx;have hA:=fS N (hv.at hx) O';have hz:Bt (1000*(k+1)) (BJ (v.take i)):=(RF (hv.take i)).le (zR _ J');have hP:=QV N.tob7 hz (JG (hv.at hx)) O' O';rw[<-Uu hx]at hP;generalize BJ (v.take i)=w at*;generalize BW x=y at*;repeat' (first|apply AG<;>intro hc<;>try omega|apply AR;omega|apply AP|refine A3 V' ?_ rfl ?_;omega|apply AE|refine AD (hA) ?_|refine AD (hP) ?_)<;>conv=>whnf
  exact BC [] (ih (i+1) O' O')
 obtain rfl:i=v.length:=O'
 clear ih;rw[zT (Jb _)];repeat' (first|apply AG<;>intro hc<;>try omega|apply AP|apply AE)<;>conv=>whnf
 exact AU rfl (DG _)
theorem Ajs(N:ay L)(q:Bool)(v:o_)(k:Nat)(hv:Bs k v)(hn:v.length<=1000000)(hk:k<=1000000000000):Ev L 312 [.sl q (v.map eQ)] (.agg (eQ (CO v))):=by
 have hO:=NQ N.tob7 0 O';rw[show((0:Int):Rat)=0 from rfl]at hO;refine Ev.x N.PV rfl rfl ?_;repeat' (first|apply AE|refine AD (hO) ?_)<;>conv=>whnf
 refine DP (λi=>v.length-i) (λ(i:Nat)=>i<=v.length) (λi=>[(4,.int .i64 i)]) (λi=>[(3,3,.bx (eQ (CO (v.take i))))]) [] [] 0 (by rw[show CO (v.take 0)=0 from rfl];exact E') O' ?_;intro i p1 ih;by_cases hi:i<v.length
 ·obtain⟨x,hx⟩:=N' v i hi
  have ud:v[(i:Int).toNat]?=some x:=hx;have hA:=fS N (hv.at hx) O';have hC:=aH N.tob7 (JG (hv.at hx)) (QZ (hv.take i)) O' O';have hg:=WR (x:=BW x) (y:=CO (v.take i));have hs:CO (v.take (i+1))=if CO (v.take i)<BW x then BW x else CO (v.take i):=Qi hx
  by_cases h:CO (v.take i)<BW x
  ·rw[if_pos h]at hs
   have h1:=hg.2 h;rw[<-hs]at hA hC h1;generalize v7 (CO (v.take (i+1))-CO (v.take i)).num=g at*;repeat' (first|apply AG<;>intro hc<;>try omega|apply AR;omega|apply AP|refine A3 V' ?_ rfl ?_;omega|apply AE|refine AD (hA) ?_|refine AD (hC) ?_)<;>conv=>whnf
   exact BC [] (ih (i+1) O' O')
  ·rw[if_neg h]at hs
   have h1:¬0<v7 (BW x-CO (v.take i)).num:=λe=>h (hg.1 e)
   rw[<-hs]at hC h1⊢;clear hg h hs;generalize v7 (BW x-CO (v.take (i+1))).num=g at*;generalize BW x=y at*;repeat' (first|apply AG<;>intro hc<;>try omega|apply AR;omega|apply AP|refine A3 V' ?_ rfl ?_;omega|apply AE|refine AD (hA) ?_|refine AD (hC) ?_)<;>conv=>whnf
   exact BC [] (ih (i+1) O' O')
 obtain rfl:i=v.length:=O'
 clear ih;rw[zT (Jb _)];repeat' (first|apply AG<;>intro hc<;>try omega|apply AP|apply AE)<;>conv=>whnf
 exact AU rfl (DG _)
theorem Ajz(N:ay L)(q q':Bool)(a:P')(n kk:Nat)(hs:Sq n a)(ha:Ms kk a)(hn:n<=4)(hk:kk<=1000000000):Ev L 313 [.sl q (IK q' a)] (.sl false (eM (H8 a a n))):=by
 have me:=hs.l;have Ey:Sq n (H8 a a n):=Sq.mul hs.l a;have Lp:∀(i:Nat)(r:o_),a[i]?=some r->(H8 a a n)[i]?=some (F9 r a n):=λi r hr=>by rw[H8,sa,hr];rfl
 have Ip:∀(j:Nat)(r:o_),j<n->(F9 r a n)[j]?=some (BQ r (DE a j)):=λj r hj=>by rw[F9,sa,Ha hj];rfl
 have Lq:=Ey.l;have Io:=Ey.r;have hO:=NQ N.tob7 0 O';rw[show((0:Int):Rat)=0 from rfl]at hO;generalize H8 a a n=Q at*;refine Ev.x N.LA rfl rfl ?_;repeat' (first|apply AP|apply AE)<;>conv=>whnf
 unfold U9;refine⟨⟨O',O',by simp only[ET];omega,O'⟩,?_⟩;rw[tb,me];conv=>whnf
 skip
 refine DP (λi=>n-i) (λ(i:Nat)=>i<=n) (λi=>[(4,.int .i64 i)]) (λi=>[(10,10,.mx (mz Q n i))]) [] [] 0 (by first|exact E'|(rw[<-pR Q];exact E')) O' ?_;intro i p1 ih;have Dx:=pP (Q:=Q) p1;by_cases hi:i<n
 ·obtain⟨rr,hr⟩:=N' a i
  have tz:a[(i:Int).toNat]?=some rr:=hr;have gu:=hs.at hr;have ri:=ha.at hr;have hq:=Lp i rr hr;have o4:=pQ hq hi;have vj:(mz Q n i)[i]?=some none:=AlY Lq hi;have Nr:(F9 rr a n).length=n:=Io _ (zM hq);have vl:(F9 rr a n).take 1=[BQ rr (DE a 0)]:=by
   rw[KG (Ip 0 rr O')];rfl
  have hqj:∀j,j<n->(F9 rr a n).take (j+1)=(F9 rr a n).take j++[BQ rr (DE a j)]:=λj hj=>KG (Ip j rr hj)
  generalize mz Q n i=R0 at*;generalize F9 rr a n=qr at*;repeat' (first|apply AG<;>intro hc<;>try omega|apply AP|apply AE)<;>conv=>whnf
  refine IV ?_;repeat' (first|apply AG<;>intro hc<;>try omega|apply AP|apply AE|refine AD (hO) ?_)<;>conv=>whnf
  refine DP (λk=>n-k) (λ(k:Nat)=>k<=n) (λk=>[(7,.int .i64 k)]) (λk=>[(6,6,.bx (eQ (BQ (rr.take k) ((DE a 0).take k))))]) [] [] 0 (by rw[show BQ (rr.take 0) ((DE a 0).take 0)=0 from rfl];exact E') O' ?_;intro k t1 kh;by_cases ny:k<n
  ·obtain⟨x,hx⟩:=N' rr k
   obtain⟨s,eu⟩:=N' a k;have ku:=hs.at eu;obtain⟨y,hy⟩:=N' s 0;have ud:rr[(k:Int).toNat]?=some x:=hx;have ua:a[(k:Int).toNat]?=some s:=eu;have Ai:s[((0:Nat):Int).toNat]?=some y:=hy;have pz:=vY eu hy;have hM:=V1 N.tob7 (ri.at hx) ((ha.at eu).at hy) O' O';have hd:Bt (4*(kk+kk+1)) (BQ (rr.take k) ((DE a 0).take k)):=((ri.take k).dot ((Ms.Km ha 0).take k)).le (zR _ J');have hA:=QV N.tob7 hd ((ri.at hx).mul ((ha.at eu).at hy)) O' O';rw[<-aE hx pz]at hA;generalize BQ (rr.take k) ((DE a 0).take k)=w at*;generalize x*y=p at*;repeat' (first|apply AG<;>intro hc<;>try omega|apply AR;omega|apply AP|refine A3 V' ?_ rfl ?_;omega|apply AE|refine AD (hM) ?_|refine AD (hA) ?_)<;>conv=>whnf
   exact BC [] (kh (k+1) O' O')
  have ek:k=n:=O'
  clear kh;rw[ek,fG gu];generalize BQ rr (DE a 0)=y0 at*;repeat' (first|apply AG<;>intro hc<;>try omega|apply A2;omega|apply AP|apply AE)<;>conv=>whnf
  refine dC (r:=none) (by rw[ic,tb];exact vj) ?_;conv=>whnf
  (repeat' (apply CI<;>conv=>whnf))
  refine L8 (enc:=eQ) y0 rfl rfl O' ?_;conv=>whnf
  repeat' (first|apply A2;omega|fail)<;>conv=>whnf
  refine A2 rfl ?_;refine ZV (i:=i) O' O' ?_;conv=>whnf
  repeat' (first|apply AR;omega|fail)<;>conv=>whnf
  refine DP (λj=>n-j) (λ(j:Nat)=>1<=j/\j<=n) (λj=>[(5,.int .i64 j)]) (λj=>[(10,10,.mx (R0.set i (some (3,(qr.take j).map eQ))))]) [] [] 1 (by first|exact E'|(rw[vl];exact E')) O' ?_;intro j ⟨r1,r2⟩ jh;have htj:(qr.take j).length=j:=by rw[za];omega
  by_cases hj:j<n
  ·have yl:=hqj j hj
   have Cm:(qr.take (j+1)).length=j+1:=by rw[za];omega
   generalize qr.take j=W at*;repeat' (first|apply AG<;>intro hc<;>try omega|apply AP|apply AE|refine AD (hO) ?_)<;>conv=>whnf
   refine DP (λk=>n-k) (λ(k:Nat)=>k<=n) (λk=>[(7,.int .i64 k)]) (λk=>[(6+1000000,6,.bx (eQ (BQ (rr.take k) ((DE a j).take k))))]) [] [] 0 (by rw[show BQ (rr.take 0) ((DE a j).take 0)=0 from rfl];exact E') O' ?_;intro k t1 kh;by_cases ny:k<n
   ·obtain⟨x,hx⟩:=N' rr k
    obtain⟨s,eu⟩:=N' a k;have ku:=hs.at eu;obtain⟨y,hy⟩:=N' s j;have ud:rr[(k:Int).toNat]?=some x:=hx;have ua:a[(k:Int).toNat]?=some s:=eu;have Ai:s[((j:Nat):Int).toNat]?=some y:=hy;have pz:=vY eu hy;have hM:=V1 N.tob7 (ri.at hx) ((ha.at eu).at hy) O' O';have hd:Bt (4*(kk+kk+1)) (BQ (rr.take k) ((DE a j).take k)):=((ri.take k).dot ((Ms.Km ha j).take k)).le (zR _ J');have hA:=QV N.tob7 hd ((ri.at hx).mul ((ha.at eu).at hy)) O' O';rw[<-aE hx pz]at hA;generalize BQ (rr.take k) ((DE a j).take k)=w at*;generalize x*y=p at*;repeat' (first|apply AG<;>intro hc<;>try omega|apply AR;omega|apply AP|refine A3 V' ?_ rfl ?_;omega|apply AE|refine AD (hM) ?_|refine AD (hA) ?_)<;>conv=>whnf
    exact BC [] (kh (k+1) O' O')
   have ek:k=n:=O'
   clear kh;rw[ek,fG gu];generalize BQ rr (DE a j)=y0 at*;repeat' (first|apply AG<;>intro hc<;>try omega|apply A2;omega|apply AP|apply AE)<;>conv=>whnf
   refine tW O' O' ?_;conv=>whnf
   (repeat' (apply CI<;>conv=>whnf))
   refine tU O' O' ?_;conv=>whnf
   refine C1 (enc:=eQ) y0 rfl (by rw[na]) rfl O' O' ?_;intro s' v;rw[<-yl,Cm];conv=>whnf
   repeat' (first|apply A2;omega|fail)<;>conv=>whnf
   refine A2 ⟨rfl,by rw[na];omega⟩ ?_;refine ZV (i:=i) O' (by rw[xd,xd];omega) ?_;rw[show 0+((i:Int)).toNat=i by omega,Hf,Hf];conv=>whnf
   repeat' (first|apply AR;omega|fail)<;>conv=>whnf
   exact BC [] (jh (j+1) O' O')
  have ej:j=n:=O'
  clear jh;rw[ej,zT O',o4];repeat' (first|apply AG<;>intro hc<;>try omega|apply AR;omega|apply AP|apply AE)<;>conv=>whnf
  exact BC [] (ih (i+1) O' O')
 have ei:i=n:=O'
 clear ih;rw[ei,pO O'];repeat' (first|apply AG<;>intro hc<;>try omega|apply AP|apply AE)<;>conv=>whnf
 refine VE (λ_=>rfl) rfl O' ?_;conv=>whnf
 exact AU rfl (vK Q)
theorem Ans{n k:Nat}{a:P'}(hs:Sq n a)(ha:Ms k a)(hn:n<=4)(hk:k<=100000)(i:Nat)(hi:i<=7):Ms 300000000 (B8 n a i):=by
 obtain⟨D,_,d1,d2,d3⟩:=jL hs ha;have my:n*n<=4*4:=Nb hn hn;have kn:n*n*k<=16*k:=zR k my;have hw:=jR hs hn d3 i;have yu:=Xn (k:=k) i hi;have h2:2^i<=2^7:=ob O' hi;have hdd:D^2^i<=2^(2^i*(16*k)):=by
  have h3:D<=2^(16*k):=Mb d2 (ob O' kn);have:=yh h3 (2^i)
  rwa [<-Gi,Gg]at this
 have h4:2^i*(16*k)<=300000000:=Mb (zR (16*k) h2) O';have h5:FG k i<=300000000:=O'
 intro r hr x hx;generalize 300000000=K at*;refine uZ (S:=D^2^i) (Ji d1) (Mb hdd (ob O' h4)) ?_;have:=hw (r.map (· * DN (D:Rat) i)) (Pa.2 ⟨r,hr,rfl⟩) _ (Pa.2 ⟨x,hx,rfl⟩)
 rw[wW]at this;exact this.le h5
theorem zJ(N:ay L)(q q':Bool)(a:P')(n k:Nat)(hs:Sq n a)(ha:Ms k a)(hn:n<=4)(hk:k<=100000) :
  ∃v,Ev L 314 [.sl q (IK q' a)] v/\((∃i,i<=6/\GC n a i/\v = .j4 [.int .i64 ((2^i:Nat):Int),.int .i64 0])\/((∀j,j<=6->ED (B8 n a j)=false)/\v = .j4 [.int .i64 0,.int .i64 14])):=by
 have me:=hs.l;have hq:=Ajy N q q' a n hs O';have hF:=nE N.tob7 1 2 O' O';have hb:∀i,i<=7->Ms 300000000 (B8 n a i):=λi hi=>Ans hs ha hn hk i hi
 have hZ:=λ(i:Nat)(q q':Bool)(hi:i<=6)=>Ajz N q q' (B8 n a i) n 300000000 (W2 hs i) (hb i O') hn O'
 have hh:Bt 2 (Ob 1 2):=Bt.mk (k:=2) (z:=1) (d:=2) Y' Y';have hhe:Ob 1 2=1/2:=by decide +kernel
 have hC:∀i r,i<=6->r∈B8 n a i->Ev L 127 [.agg (eQ (BJ r)),.agg (eQ (Ob 1 2))] (.int .i64 (v7 (BJ r-1/2).num)):=λi r hi hr=>by
  have hz:Bt (4*(300000000+1)) (BJ r):=(RF (hb i O' r hr)).le (zR _ (by rw[(W2 hs i).r r hr];exact hn));have:=aH N.tob7 hz hh O' O'
  rwa [hhe]at this⊢
 refine Ev.xE N.NE rfl rfl ?_;repeat' (first|apply AE|refine AD (hq) ?_)<;>conv=>whnf
 refine DT (λi _=>7-i) (λ(i:Nat)(fl:Bool)=>i<=7/\(fl=true->i=0)/\∀j,j<i->ED (B8 n a j)=false) (λi fl=>[(4,.int .i64 ((2^i:Nat):Int)),(0,bif fl then .sl q (IK q' a)else .sl false (eM (B8 n a i)))]) (λ_ _=>[]) 0 true ⟨O',λ_=>rfl,λj hj=>absurd hj O'⟩ ?_;intro i fl ⟨p1,p2,p3⟩ ih;by_cases h7:i=7
 ·have e7:((2^i:Nat):Int)=128:=by rw[h7];rfl
  rw[e7];have jc:∀j,j<=6->ED (B8 n a j)=false:=λj hj=>p3 j O'
  repeat' (first|apply AG<;>intro hc<;>try omega|apply AE)<;>conv=>whnf
  exact⟨_,AU rfl (by simp[AY,BI]),Or.inr ⟨jc,rfl⟩⟩
 obtain⟨g1,g2,g3⟩:=RB (i:=i) O';have Ab:((2^(i+1):Nat):Int)=2*((2^i:Nat):Int):=by rw[Ee];omega
 have ku:=(W2 hs i).l;have ux:ED (B8 n a i)=true->GC n a i:=λh=>⟨h,p3⟩
 have ja:ED (B8 n a i)=false->∀j,j<i+1->ED (B8 n a j)=false:=λh j hj=>by
  by_cases e:j=i
  ·rw[e];exact h
  ·exact p3 j O'
 have Ku:=λr=>hC i r O'
 have Lv:=λq q'=>hZ i q q' O'
 have Fh:=λq r (hr:r∈B8 n a i)=>zK N q r 300000000 (hb i O' r hr) (by rw[(W2 hs i).r r hr];omega) O'
 have ae:∀r:AV,GC n a i->r = .j4 [.int .i64 ((2^i:Nat):Int),.int .i64 0]->((∃i,i<=6/\GC n a i/\r = .j4 [.int .i64 ((2^i:Nat):Int),.int .i64 0])\/((∀j,j<=6->ED (B8 n a j)=false)/\r = .j4 [.int .i64 0,.int .i64 14])):=λr h hr=>Or.inl ⟨i,O',h,hr⟩
 have rh:∀(m:Nat)(r:o_),(B8 n a i)[m]?=some r->ED ((B8 n a i).take (m+1))=(ED ((B8 n a i).take m)&&decide (BJ r<=1/2)):=λm r hr=>by
  rw[KG hr,ED,ED,Eh];simp
 cases fl
 ·skip
  generalize 2^i=P at*;repeat' (first|apply AG<;>intro hc<;>try omega|apply AE)<;>conv=>whnf
  refine DT (λm _=>n-m) (λ(m:Nat)(b:Bool)=>m<=n/\b=ED ((B8 n a i).take m)) (λm b=>[(6,.int .i64 m),(5,.bool b)]) (λ_ _=>[]) 0 true ⟨O',rfl⟩ ?_;intro m b ⟨r1,r2⟩ mh;by_cases hm:m<n
  ·obtain⟨r,hr⟩:=N' (B8 n a i) m
   have tz:(B8 n a i)[(m:Int).toNat]?=some r:=hr;have bh:=zM hr;have ht:=rh m r hr;rw[<-r2]at ht;cases b
   ·repeat' (first|apply AG<;>intro hc<;>try omega|apply AR;omega|apply AP|apply AE)<;>conv=>whnf
    exact BC [] (mh (m+1) false O' ⟨O',by rw[ht];rfl⟩)
   ·have wj:=λq=>Fh q r bh
    have nk:=Ku r bh;have hg:=WR (x:=BJ r) (y:=1/2);by_cases h:BJ r<=1/2
    ·have h1:¬0<v7 (BJ r-1/2).num:=λe=>by have:=hg.1 e;grind
     rw[decide_eq_true h]at ht;clear hg;generalize v7 (BJ r-1/2).num=g at*;repeat' (first|apply AG<;>intro hc<;>try omega|apply AR;omega|apply AP|refine A3 V' ?_ rfl ?_;omega|apply AE|refine AD (wj _) ?_|refine AD (hF) ?_|refine AD (nk) ?_)<;>conv=>whnf
     exact BC [] (mh (m+1) true O' ⟨O',by rw[ht];rfl⟩)
    ·have h1:0<v7 (BJ r-1/2).num:=hg.2 A'
     rw[decide_eq_false h]at ht;clear hg;generalize v7 (BJ r-1/2).num=g at*;repeat' (first|apply AG<;>intro hc<;>try omega|apply AR;omega|apply AP|refine A3 V' ?_ rfl ?_;omega|apply AE|refine AD (wj _) ?_|refine AD (hF) ?_|refine AD (nk) ?_)<;>conv=>whnf
     exact BC [] (mh (m+1) false O' ⟨O',by rw[ht];rfl⟩)
  have em:m=n:=O'
  clear mh;rw[em,zT O']at r2;cases b
  ·repeat' (first|apply AG<;>intro hc<;>try omega|apply F3;omega|apply AP|apply AE|refine AD (Lv _ _) ?_)<;>conv=>whnf
   rw[<-Ab];exact BC [] (ih (i+1) false O' ⟨O',(λh=>by cases h),ja r2.symm⟩)
  ·repeat' (first|apply AG<;>intro hc<;>try omega|apply AP|apply AE)<;>conv=>whnf
   exact⟨_,AU rfl (by simp[AY,BI]),ae _ (ux r2.symm) rfl⟩
 ·obtain rfl:=p2 rfl
  have e0:B8 n a 0=a:=rfl;rw[e0]at ux ja Ku Lv Fh rh ku;generalize 2^0=P at*;repeat' (first|apply AG<;>intro hc<;>try omega|apply AE)<;>conv=>whnf
  refine DT (λm _=>n-m) (λ(m:Nat)(b:Bool)=>m<=n/\b=ED (a.take m)) (λm b=>[(6,.int .i64 m),(5,.bool b)]) (λ_ _=>[]) 0 true ⟨O',rfl⟩ ?_;intro m b ⟨r1,r2⟩ mh;by_cases hm:m<n
  ·obtain⟨r,hr⟩:=N' a m
   have tz:a[(m:Int).toNat]?=some r:=hr;have bh:=zM hr;have ht:=rh m r hr;rw[<-r2]at ht;cases b
   ·repeat' (first|apply AG<;>intro hc<;>try omega|apply AR;omega|apply AP|apply AE)<;>conv=>whnf
    exact BC [] (mh (m+1) false O' ⟨O',by rw[ht];rfl⟩)
   ·have wj:=λq=>Fh q r bh
    have nk:=Ku r bh;have hg:=WR (x:=BJ r) (y:=1/2);by_cases h:BJ r<=1/2
    ·have h1:¬0<v7 (BJ r-1/2).num:=λe=>by have:=hg.1 e;grind
     rw[decide_eq_true h]at ht;clear hg;generalize v7 (BJ r-1/2).num=g at*;repeat' (first|apply AG<;>intro hc<;>try omega|apply AR;omega|apply AP|refine A3 V' ?_ rfl ?_;omega|apply AE|refine AD (wj _) ?_|refine AD (hF) ?_|refine AD (nk) ?_)<;>conv=>whnf
     exact BC [] (mh (m+1) true O' ⟨O',by rw[ht];rfl⟩)
    ·have h1:0<v7 (BJ r-1/2).num:=hg.2 A'
     rw[decide_eq_false h]at ht;clear hg;generalize v7 (BJ r-1/2).num=g at*;repeat' (first|apply AG<;>intro hc<;>try omega|apply AR;omega|apply AP|refine A3 V' ?_ rfl ?_;omega|apply AE|refine AD (wj _) ?_|refine AD (hF) ?_|refine AD (nk) ?_)<;>conv=>whnf
     exact BC [] (mh (m+1) false O' ⟨O',by rw[ht];rfl⟩)
  have em:m=n:=O'
  clear mh;rw[em,zT O']at r2;cases b
  ·repeat' (first|apply AG<;>intro hc<;>try omega|apply F3;omega|apply AP|apply AE|refine AD (Lv _ _) ?_)<;>conv=>whnf
   rw[<-Ab];exact BC [] (ih (0+1) false O' ⟨O',(λh=>by cases h),ja r2.symm⟩)
  ·repeat' (first|apply AG<;>intro hc<;>try omega|apply AP|apply AE)<;>conv=>whnf
   exact⟨_,AU rfl (by simp[AY,BI]),ae _ (ux r2.symm) rfl⟩
theorem cI{k:Nat}{f:Nat->Rat}:∀m,(∀j,j<m->Bt k (f j))->Bt (m*(k+1)) (HY f m)
 |0,_=>Bt.zero _
 |m+1,h=>by
  have h1:=cI m λj hj=>h j O'
  refine(h1.add (h m O')).le ?_;rw[fc];omega
def LF(S:HI)(p k:Nat):Rat:=BW S.d+(HY (KV S.a S.b S.c) k+BJ S.c*HY (λj=>NT S.a S.b (p+j)) (k-p))
theorem AnO{S:HI}{p k:Nat}(h:k<p):LF S p k+KV S.a S.b S.c k=LF S p (k+1):=by
 rw[LF,LF,show k+1-p=0 by omega,show k-p=0 by omega];simp only[HY];grind
theorem AnN{S:HI}{p k:Nat}(h:p<=k):LF S p k+KV S.a S.b S.c k+BJ S.c*CO (GT S.a S.b k)=LF S p (k+1):=by
 rw[LF,LF,show k+1-p=(k-p)+1 by omega];have e:NT S.a S.b (p+(k-p))=CO (GT S.a S.b k):=by rw[show p+(k-p)=k by omega];rfl
 simp only[HY,e];grind
theorem AnM(S:HI)(p:Nat):LF S p (p+p)=G9 S p:=by rw[LF,G9,show p+p-p=p by omega]
theorem AjA(N:ay L)(S:HI)(n k:Nat)(hS:S.Ok n k)(hn:n<=4)(hk:k<=40000) :
  ∃v,Ev L 315 [.agg (eS S)] v/\((∃i,i<=6/\GC n S.a i/\v = .j4 [.agg (eQ (G9 S (2^i))),.int .i64 0])\/((∀j,j<=6->ED (B8 n S.a j)=false)/\v = .j4 [.agg [.bool false,.sl false [],.sl false []],.int .i64 14])):=by
 have hsd:=AiC N.toag S n k hS O';have Jk:=hS.la;have Jl:=hS.lb;have jn:=hS.lc;have Fe:Sq n S.a:=⟨hS.la,hS.lr⟩;obtain⟨v,hP,hv⟩:=zJ N false false S.a n k Fe hS.ba hn O';refine Ev.xE N.PZ rfl rfl ?_;rcases hv with⟨i,h1,h2,rfl⟩|⟨h1,rfl⟩
 ·obtain⟨g1,_,g3⟩:=RB h1
  have hAd:=fS N hS.bd O';have ae:∀r:AV,r = .j4 [.agg (eQ (G9 S (2^i))),.int .i64 0]->((∃i,i<=6/\GC n S.a i/\r = .j4 [.agg (eQ (G9 S (2^i))),.int .i64 0])\/((∀j,j<=6->ED (B8 n S.a j)=false)/\r = .j4 [.agg [.bool false,.sl false [],.sl false []],.int .i64 14])):=λr hr=>Or.inl ⟨i,h1,h2,hr⟩
  have qe:=AnM S (2^i);generalize 2^i=p at*;have wx:∀j,j<=128->Bs 90000000 (GT S.a S.b j):=λj hj=>(Yo Fe hS.lb hS.ba hS.bb j).le (by have:=Zp (n:=n) (k:=k) hn hj;omega)
  have kv:∀j,(GT S.a S.b j).length=n:=sZ Jk Jl;have az:∀j,j<=128->Bt (4*(k+90000000+1)) (BQ S.c (GT S.a S.b j)):=λj hj=>(hS.bc.dot (wx j hj)).le (zR _ O')
  have ki:Bt (4*(k+1)) (BJ S.c):=(RF hS.bc).le (zR _ O');have hKb:∀j,j<=128->Bt 100000000000 (LF S p j):=λj hj=>by
   have q1:=(cI (f:=KV S.a S.b S.c) (k:=370000000) j λt ht=>(JG (az t O')).le O').le (zR _ hj);have q2:=(cI (f:=λt=>NT S.a S.b (p+t)) (k:=90000000) (j-p) λt ht=>QZ (wx (p+t) O')).le (zR _ (show j-p<=128 by omega));exact((JG hS.bd).add (q1.add (ki.mul q2))).le O'
  have Fh:=λq=>zK N q S.c k hS.bc O' O'
  have qa:LF S p 0=BW S.d:=by rw[LF,show 0-p=0 by omega];simp only[HY];grind
  repeat' (first|apply AG<;>intro hc<;>try omega|apply AP|apply AE|refine AD (hsd) ?_|refine AD (hP) ?_|refine AD (hAd) ?_)<;>conv=>whnf
  refine DP (λj=>p+p-j) (λ(j:Nat)=>j<=p+p) (λj=>[(8,.int .i64 j),(7,.sl false ((GT S.a S.b j).map eQ))]) (λj=>[(6,6,.bx (eQ (LF S p j)))]) [] [] 0 (by rw[qa];exact E') O' ?_;intro j t1 jh;by_cases hj:j<p+p
  ·have hI:=λq q'=>yE N.toag S.c (GT S.a S.b j) q q' k 90000000 (by rw[kv];exact jn) hS.bc (wx j O') (by rw[jn];have:=zR (k+90000000+1) hn;omega) O'
   have hA:=fS N (az j O') O';have Ln:=QV N.tob7 (hKb j O') (JG (az j O')) O' O';have hT:=λq1 q2 q3=>AiD N.toag S.a (GT S.a S.b j) q1 q2 q3 n k 90000000 Fe (kv j) hS.ba (wx j O') hn O'
   have hT':∀q1 q2 q3,Ev L 138 [.sl q1 (IK q3 S.a),.sl q2 ((GT S.a S.b j).map eQ)] (.sl false ((GT S.a S.b (j+1)).map eQ)):=hT;clear hT;by_cases My:p<=j
   ·have hG:=λq=>Ajs N q (GT S.a S.b j) 90000000 (wx j O') (by rw[kv];omega) O'
    have hM:=V1 N.tob7 ki (QZ (wx j O')) O' O';have hs:=AnN (S:=S) My;have hf:KV S.a S.b S.c j=BW (BQ S.c (GT S.a S.b j)):=rfl;rw[hf]at hs;have Im:=QV N.tob7 ((hKb j O').add (JG (az j O'))) (ki.mul (QZ (wx j O'))) O' O';rw[hs]at Im;repeat' (first|apply AG<;>intro hc<;>try omega|apply AR;omega|apply F3;omega|apply AE|refine AD (hI _ _) ?_|refine AD (hA) ?_|refine AD (Ln) ?_|refine AD (Fh _) ?_|refine AD (hG _) ?_|refine AD (hM) ?_|refine AD (Im) ?_|refine AD (hT' _ _ _) ?_)<;>conv=>whnf
    exact BC [] (jh (j+1) O' O')
   ·have hs:=AnO (S:=S) (p:=p) (k:=j) O'
    have hf:KV S.a S.b S.c j=BW (BQ S.c (GT S.a S.b j)):=rfl;rw[hf]at hs;rw[hs]at Ln;repeat' (first|apply AG<;>intro hc<;>try omega|apply AR;omega|apply F3;omega|apply AE|refine AD (hI _ _) ?_|refine AD (hA) ?_|refine AD (Ln) ?_|refine AD (hT' _ _ _) ?_)<;>conv=>whnf
    exact BC [] (jh (j+1) O' O')
  have ej:j=p+p:=O'
  clear jh;rw[ej,qe];repeat' (first|apply AG<;>intro hc<;>try omega|apply F3;omega|apply AE)<;>conv=>whnf
  exact⟨_,AU rfl (eC _ 0),ae _ rfl⟩
 ·repeat' (first|apply AG<;>intro hc<;>try omega|apply AP|apply AE|refine AD (hsd) ?_|refine AD (hP) ?_)<;>conv=>whnf
  exact⟨_,AU rfl (by simp[AY,BI,DB]),Or.inr ⟨h1,rfl⟩⟩
end Go.Eng

namespace Go.Eng
theorem kK{es:v_}{i j n:Nat}{K:w_->Prop}{cs ds:w_}(h:es[i]?=some cs)(hp:part cs j n=some ds)(hk:K ds):BD es i j n K:=by
 unfold BD;exact⟨cs,ds,h,hp,hk⟩
end Go.Eng

namespace Go.Eng
open F
attribute [local irreducible] AA AF AW AB AH pw
set_option maxRecDepth 8000
variable {L:Lib}
structure DD(n:Nt):Prop where
 du:C6 n=true
 st:n.s<=4
 nl:n.nodes.length<=5
 cf:∀d∈n.nodes,∀t∈d.ts,t.2.natAbs<=2^24
 tl:(∀d∈n.nodes,d.ts.length<=3)\/(n.nodes.length<=1/\∀d∈n.nodes,d.ts.length<=5)\/(n.nodes.length<=4/\∀d∈n.nodes,d.ts.length<=4)
end Go.Eng

namespace Go.Eng
open F
attribute [local irreducible] AA AF AW AB AH pw AC AX BD BG CM A5
variable {L:Lib}
set_option maxRecDepth 8000
def GN(n:Nt)(fr:Nat):o_:=FW (Ob 1 (pw n.c.f)) ((fr:Int)-(n.s+1)) 0 (CZ (n.s+1).toNat fr) (CY n)
theorem AjY{l:o_}{m p:Nat}{x:Rat}(h:l[p]?=some x):(DS l m)[p]?=some (some x):=by
 have hi:=(zS h).1;rw[DS,ve (by rw[na];exact hi),sa,h];rfl
theorem Rl{l:o_}{m p:Nat}{x:Rat}(h:p<l.length):(DS l m).set p (some x)=DS (l.set p x) m:=by
 simp only[DS,xd];rw[Ih,if_pos (by rw[na];exact h),List.map_set]
theorem An2{m:Nat}{p:Int}(h:(m:Int)<=p):CZ m p=Na m 0:=by
 refine Lh λi=>?_
 simp only[CZ,sa,ie];by_cases hi:i<m
 ·rw[Ha hi,if_pos hi]
  simp only[zb];rw[if_neg O']
 ·rw[Od (by simpa using hi),if_neg hi];rfl
theorem Sc{n:Nt}(hn:DD n){u:Rat}(hu:Bt 24 u){ex:Int}{w:o_}(hw:Bs 0 w):∀j,j<=n.nodes.length->Bs 40000 (FW u ex 0 w ((CY n).take j)):=by
 intro j hj;have ep:=hn.nl;have hlt:(CY n).length=n.nodes.length:=by simp[CY]
 have e:0+((CY n).take j).length=j:=by rw[za,hlt];omega
 have mem:∀ts∈(CY n).take j,∃d∈n.nodes,d.ts=ts:=λts h=>Pa.1 (yb h)
 rcases hn.tl with h|⟨h0,h⟩|⟨h0,h⟩
 ·have h1:=gG (ex:=ex) (m:=3) hu ((CY n).take j) 0 w (λts ht=>by obtain⟨d,hd,rfl⟩:=mem ts ht;exact h d hd) (λts ht=>by obtain⟨d,hd,rfl⟩:=mem ts ht;exact hn.cf d hd) hw
  rw[e]at h1;intro x hx;refine(h1 x hx).le ?_;have:j<=5:=O'
  rcases j with _|_|_|_|_|_|j
  all_goals first|decide|omega
 ·have h1:=gG (ex:=ex) (m:=5) hu ((CY n).take j) 0 w (λts ht=>by obtain⟨d,hd,rfl⟩:=mem ts ht;exact h d hd) (λts ht=>by obtain⟨d,hd,rfl⟩:=mem ts ht;exact hn.cf d hd) hw
  rw[e]at h1;intro x hx;refine(h1 x hx).le ?_;have:j<=1:=O'
  rcases j with _|_|j
  all_goals first|decide|omega
 ·have h1:=gG (ex:=ex) (m:=4) hu ((CY n).take j) 0 w (λts ht=>by obtain⟨d,hd,rfl⟩:=mem ts ht;exact h d hd) (λts ht=>by obtain⟨d,hd,rfl⟩:=mem ts ht;exact hn.cf d hd) hw
  rw[e]at h1;intro x hx;refine(h1 x hx).le ?_;have:j<=4:=O'
  rcases j with _|_|_|_|_|j
  all_goals first|decide|omega
theorem Qc(N:w8 L)(n:Nt)(fr:Nat)(hn:DD n)(hf:(fr:Int)<=n.s+n.nodes.length):AA L [.code F.G6.body] (CJ 0 [.agg (BX n),.int .i64 (fr:Int)]) [] (λtm M=>kQ F.G6 3 ((GN n fr).map eQ) tm M/\QK F.G6 (.sl false ((GN n fr).map eQ)) tm M):=by
 obtain⟨h1,h2,⟨h3a,h3b,h3c,h3d⟩,h4,h5,h6⟩:=(CP n).1 hn.du;have xf:=h2;unfold WV at xf;have o4:=hn.st;have ep:=hn.nl;obtain⟨S,hS⟩:∃S:Nat,n.s=(S:Int):=⟨n.s.toNat,O'⟩;obtain⟨T,hT⟩:∃T:Nat,T=S+1+n.nodes.length:=⟨_,rfl⟩;have tj:=I6 N.toa6 0 O';have py:=I6 N.toa6 1 O';rw[show((0:Int):Rat)=0 from rfl]at tj;rw[show((1:Int):Rat)=1 from rfl]at py;have hF:=yD N.toau 1 (pw n.c.f) O' (by have:=GQ n.c.f;have:=iV (n:=n.c.f) O';omega) (by have:=GQ n.c.f;omega);have hu:Bt 24 (Ob 1 (pw n.c.f)):=by
  have e1:=GQ n.c.f;have e2:=RC (n:=n.c.f) (m:=23) O';have e3:pw 23=8388608:=by unfold pw;rfl
  obtain⟨e,he⟩:=Ie (show 0<=pw n.c.f by omega);rw[he]at e2⊢;rw[Bf];refine Bt.mk Y' ?_;show _<=16777216;omega
 have hlt:(CY n).length=n.nodes.length:=by simp[CY]
 have hlen:∀d∈n.nodes,d.ts.length<=5:=λd hd=>by
  rcases hn.tl with h|⟨_,h⟩|⟨_,h⟩<;>have:=h d hd<;>omega
 obtain⟨ex,hex⟩:∃ex:Int,ex=(fr:Int)-(n.s+1):=⟨_,rfl⟩;have hw:(CZ (S+1) fr).length=S+1:=cQ _ _;have Hk:∀j,j<=n.nodes.length->Bs 40000 (FW (Ob 1 (pw n.c.f)) ex 0 (CZ (S+1) fr) ((CY n).take j)):=Sc hn hu (Bs.unit _ _ _);have kv:∀j,j<=n.nodes.length->(FW (Ob 1 (pw n.c.f)) ex 0 (CZ (S+1) fr) ((CY n).take j)).length=S+1+j:=λj hj=>by
  rw[nV,cQ,za,hlt];omega
 have mf:=Akb (Ob 1 (pw n.c.f)) ex (CZ (S+1) fr) (CY n);have ae:GN n fr=FW (Ob 1 (pw n.c.f)) ex 0 (CZ (S+1) fr) ((CY n).take n.nodes.length):=by
  rw[GN,hex,<-hlt,vb,hS];rfl
 rw[ae];clear ae;generalize Ob 1 (pw n.c.f)=u at*;refine id ?_;repeat' (first|apply AR;omega|apply AP|apply AE)<;>conv=>whnf
 refine E6 (enc:=eO) none T rfl O' O' ?_;conv=>whnf
 skip
 refine DP (λi=>S+1-i) (λ(i:Nat)=>i<=S+1) (λi=>[(24,.int .i64 i)]) (λi=>[(22,22,.rw 3 ((DS (Na i (0:Rat)) T).map eO))]) [] [] 0 (by rw[List.replicate_zero,aP];exact E') O' ?_;intro i p1 ih;by_cases hi:i<S+1
 ·have hs:=YC (l:=Na i (0:Rat)) (m:=T) (x:=0) (by rw[Cb];omega)
  have Jm:=R6 (l:=Na i (0:Rat)) (m:=T) (by rw[Cb];omega);rw[Cb,<-List.replicate_succ']at hs;generalize DS (Na i (0:Rat)) T=F0 at*;repeat' (first|apply AG<;>intro hc<;>try omega|apply A2;omega|apply AE|refine AD (tj) ?_)<;>conv=>whnf
  refine HS (enc:=eO) (some 0) rfl (λe=>by cases e<;>rfl) O' ?_;conv=>whnf
  rw[hs];repeat' (first|apply AR;omega|fail)<;>conv=>whnf
  exact BC [] (ih (i+1) O' O')
 have ei:i=S+1:=O'
 clear ih;rw[ei];have Jm:=R6 (l:=Na (S+1) (0:Rat)) (m:=T) (by rw[Cb];omega);by_cases hfr:fr<S+1;focus
  have Ad:=Rl (l:=Na (S+1) (0:Rat)) (m:=T) (x:=1) (p:=fr) (by rw[Cb];exact hfr);rw[An4]at Ad;generalize DS (Na (S+1) (0:Rat)) T=F0 at*;repeat' (first|apply AG<;>intro hc<;>try omega|apply A2;omega|apply AE|refine AD (py) ?_)<;>conv=>whnf
  refine HS (enc:=eO) (some 1) rfl (λe=>by cases e<;>rfl) O' ?_;conv=>whnf
  rw[Ad]
 rotate_left
 focus
  rw[<-An2 (m:=S+1) (p:=fr) O']
 all_goals
  generalize CZ (S+1) fr=w at*;repeat' (first|apply AG<;>intro hc<;>try omega|refine H3 ?_ (λ_ _=>?_);omega|apply AP|apply AE|refine AD (hF) ?_)<;>conv=>whnf
  refine C0 (λj=>n.nodes.length-j) (λ(j:Nat)=>j<=n.nodes.length) (λj=>[(47,.int .i64 j)]) (λj=>[(22,22,.rw 3 ((DS (FW u ex 0 w ((CY n).take j)) T).map eO))]) 0 O' ?_;clear p1;intro j p1 ih;by_cases hj:j<n.nodes.length
  ·obtain⟨nd,hnd⟩:=N' n.nodes j hj
   have si:n.nodes[(j:Int).toNat]?=some nd:=hnd;have lu:(CY n)[j]?=some nd.ts:=by simp[CY,hnd]
   have hbv:=Hk j p1;have ji:=kv j p1;have vp:=mf j nd.ts lu;have Dt:=iJ h4 hnd;have hL:nd.ts.length<=5:=hlen _ (zM hnd);have hC:=hn.cf _ (zM hnd);generalize hV:FW u ex 0 w ((CY n).take j)=V at*;have hFl:=R6 (l:=V) (m:=T) O';have La:∀(p:Nat)(x:Rat),V[p]?=some x->(DS V T)[p]?=some (some x):=λp x h=>AjY h
   have hFs:∀x:Rat,(DS V T).set (S+1+j) (some x)=DS (V++[x]) T:=λx=>by rw[<-ji];exact YC O'
   have Ld:∀x y:Rat,(DS (V++[x]) T).set (S+1+j) (some y)=DS (V++[y]) T:=λx y=>by
    rw[Rl (by rw[Ma,Eg];omega),<-ji,Ih,if_neg O',cd];rfl
   have Lc:∀x:Rat,(DS (V++[x]) T).length=T:=λx=>R6 (by rw[Ma,Eg];omega)
   repeat' (first|apply AG<;>intro hc<;>try omega|apply AP|refine A3 V' ?_ rfl ?_;omega|apply AE|refine AD (tj) ?_)<;>conv=>whnf
   refine DT (λt _=>nd.ts.length-t) (λ(t:Nat)(acc:Rat)=>t<=nd.ts.length/\acc=EF V (nd.ts.take t)) (λt acc=>[(56,.int .i64 t)]) (λt acc=>[(11,11,.bx (eQ acc))]) 0 (0:Rat) ⟨O',rfl⟩ ?_;intro t acc ⟨p3,p4⟩ jh;have yp:Bt 200125 acc:=by
    rw[p4];have a1:=hbv.sum (nd.ts.take t) (j:=24) (λe he=>Bt.ofInt (hC e (yb he)));refine a1.le (Mb (zR _ (show(nd.ts.take t).length<=5 by rw[za];omega)) Y')
   by_cases ht:t<nd.ts.length
   ·obtain⟨e,he⟩:=N' nd.ts t ht
    have im:nd.ts[(t:Int).toNat]?=some e:=he;have Gj:=zM he;have k6:=mb.1 Dt e Gj;simp only[H0,decide_eq_true_eq]at k6;have Fs:=hC e Gj;obtain⟨x,hx⟩:=N' V e.1.toNat;have hx2:=La _ _ hx;have Ou:((DS V T).map eO)[0+e.1.toNat]?=some (eO (some x)):=by rw[ic,sa,hx2];rfl
    have Jv:V.getD e.1.toNat 0=x:=by rw[da,hx];rfl
    have ke:=hbv.at hx;have Ck:=Xp (vals:=V) he;rw[Jv]at Ck;have Fb:=nJ N.toa6 ke O';have hE:=I6 N.toa6 e.2 (by have:(2:Nat)^24=16777216:=rfl;omega);have hM:=KU N.toa6 ke (Bt.ofInt Fs) O' O';have hA:=J4 N.toa6 yp (ke.mul (Bt.ofInt Fs)) O' O';have z1:=cD (x:=x);generalize v7 x.num=sx at*;generalize DS V T=F0 at*;by_cases q2:sx=0
    ·have nc:=z1.1 q2
     repeat' (first|apply AG<;>intro hc<;>try omega|apply A2;omega|refine A3 V' ?_ rfl ?_;omega|apply AE)<;>conv=>whnf
     refine kK Ou rfl ?_;conv=>whnf
     repeat' (first|apply AG<;>intro hc<;>try omega|apply AR;omega|refine AD (Fb) ?_)<;>conv=>whnf
     have Dl:=jh (t+1) acc O' ⟨O',by rw[Ck,nc,Rat.mul_zero,Dc];exact p4⟩;exact A9 [] E' Dl
    ·repeat' (first|apply AG<;>intro hc<;>try omega|apply A2;omega|refine A3 V' ?_ rfl ?_;omega|apply AE)<;>conv=>whnf
     refine kK Ou rfl ?_;conv=>whnf
     repeat' (first|apply AG<;>intro hc<;>try omega|apply A2;omega|refine AD (Fb) ?_)<;>conv=>whnf
     refine kK Ou rfl ?_;conv=>whnf
     repeat' (first|apply AR;omega|refine AD (hE) ?_|refine AD (hM) ?_|refine AD (hA) ?_)<;>conv=>whnf
     have Dl:=jh (t+1) (acc+x*((e.2:Int):Rat)) O' ⟨O',by rw[Ck,<-p4,Rat.mul_comm]⟩;exact A9 [] E' Dl
   ·obtain rfl:t=nd.ts.length:=O'
    clear jh;rw[vb]at p4;have hMu:=KU N.toa6 yp hu O' O';rw[<-p4]at vp;have s1:=hFs (acc*u);have s2:=Ld (acc*u) 1;have l2:=Lc (acc*u);generalize DS V T=F0 at*;by_cases q5:(j:Int)=ex
    ·have q7:=q5
     first
     |(exfalso;omega)
     |(rw[if_pos q5]at vp
       repeat' (first|apply AG<;>intro hc<;>try omega|apply A2;omega|apply AR;omega|apply AE|refine AD (hMu) ?_)<;>conv=>whnf
       refine VG (enc:=eO) (S+1+j) (some (acc*u)) O' rfl (λe=>by cases e<;>rfl) O' ?_;rw[s1];generalize DS (V++[acc*u]) T=F1 at*;conv=>whnf
       repeat' (first|apply AG<;>intro hc<;>try omega|apply A2;omega|apply AR;omega|refine AD (py) ?_)<;>conv=>whnf
       refine VG (enc:=eO) (S+1+j) (some 1) O' rfl (λe=>by cases e<;>rfl) O' ?_;rw[s2,<-vp];conv=>whnf
       repeat' (first|apply AR;omega|fail)<;>conv=>whnf
       exact BC [] (ih (j+1) O' O'))
    ·rw[if_neg q5]at vp
     repeat' (first|apply AG<;>intro hc<;>try omega|apply A2;omega|apply AR;omega|apply AE|refine AD (hMu) ?_)<;>conv=>whnf
     refine VG (enc:=eO) (S+1+j) (some (acc*u)) O' rfl (λe=>by cases e<;>rfl) O' ?_;rw[s1,<-vp];conv=>whnf
     repeat' (first|apply AG<;>intro hc<;>try omega|apply AR;omega)<;>conv=>whnf
     exact BC [] (ih (j+1) O' O')
  ·obtain rfl:j=n.nodes.length:=O'
   clear ih;have ji:=kv n.nodes.length p1;rw[aO O'];repeat' (first|apply AG<;>intro hc<;>try omega|apply AE)<;>conv=>whnf
   refine⟨⟨rfl,rfl,by rw[na];omega,rfl,ME _⟩,?_⟩;conv=>whnf
   refine CR (enc:=eQ) (λ_=>rfl) rfl O' ?_;conv=>whnf
   exact AU rfl (by simp only[AY,true_and];exact ME _)
theorem AiM(N:w8 L)(n:Nt)(fr:Nat)(hn:DD n)(hf:(fr:Int)<=n.s+n.nodes.length):NJ L 351 [.agg (BX n),.int .i64 (fr:Int)] 3 ((GN n fr).map eQ):=NJ.x N.G6 rfl rfl (tG (Qc N n fr hn hf) λ_ _ h=>h.1)
theorem yM(N:w8 L)(n:Nt)(fr:Nat)(hn:DD n)(hf:(fr:Int)<=n.s+n.nodes.length):Ev L 351 [.agg (BX n),.int .i64 (fr:Int)] (.sl false ((GN n fr).map eQ)):=Ev.x N.G6 rfl rfl (tG (Qc N n fr hn hf) λ_ _ h=>h.2)
theorem AjN(I:a8 L)(N:w8 L)(n:Nt)(hn:DD n):Ev L 349 [.agg (BX n)] (.bool true):=by
 have hV:=fR n I N.tok7;rw[hn.du]at hV;have:=hn.st
 refine Ev.x N.TC rfl rfl ?_;repeat' (first|apply AG<;>intro hc<;>try omega|apply AE|refine AD (hV) ?_)<;>conv=>whnf
 exact EV rfl
theorem AiE(N:w8 L)(a b:Rat)(v:Int)(k:Nat)(ha:Bt k a)(hb:Bt k b)(hk:k<=1000000000000)(hv:v.natAbs<=2^24):Ev L 353 [.agg (eQ a++eQ b),.int .i64 v] (.agg (eQ (a*(v:Rat)+b))):=by
 have hO:=I6 N.toa6 v (by have:(2:Nat)^24=16777216:=rfl;omega);have hM:=KU N.toa6 ha (Bt.ofInt hv) O' O';have hA:=J4 N.toa6 (ha.mul (Bt.ofInt hv)) hb O' O';refine Ev.x N.TA rfl rfl ?_;repeat' (first|apply AE|refine AD (hO) ?_|refine AD (hM) ?_|refine AD (hA) ?_)<;>conv=>whnf
 exact AU rfl (DG _)
def EU(C:P')(v:Nat):o_:=C.map λc=>c.getD v 0
theorem zA(N:w8 L)(q q':Bool)(C:P')(v:Nat)(hl:C.length<=1000000)(hv:∀c∈C,v<c.length):Ev L 352 [.sl q (IK q' C),.int .i64 (v:Int)] (.sl false ((EU C v).map eQ)):=by
 refine Ev.x N.O9 rfl rfl ?_;repeat' (first|apply AP|apply AE)<;>conv=>whnf
 refine E6 (enc:=eO) none C.length rfl rfl O' ?_;conv=>whnf
 (repeat' (apply AP<;>conv=>whnf))
 refine DP (λi=>C.length-i) (λ(i:Nat)=>i<=C.length) (λi=>[(12,.int .i64 i)]) (λi=>[(9,9,.rw 3 ((DS ((EU C v).take i) C.length).map eO))]) [] [] 0 (by rw[Pb,aP];exact E') O' ?_;intro i p1 ih;have gu:(EU C v).length=C.length:=na _;have de:((EU C v).take i).length=i:=by rw[za,gu];omega
 have Jm:=R6 (l:=(EU C v).take i) (m:=C.length) O';by_cases hi:i<C.length
 ·obtain⟨c,hc⟩:=N' C i hi
  have y6:C[(i:Int).toNat]?=some c:=hc;have hcv:=hv c (zM hc);obtain⟨x,hx⟩:=N' c v hcv;have ud:c[(v:Int).toNat]?=some x:=hx;have hy:(EU C v)[i]?=some x:=by rw[EU,sa,hc,zb,da,hx];rfl
  have hs:=YC (l:=(EU C v).take i) (m:=C.length) (x:=x) O';rw[de,<-KG hy]at hs;generalize DS ((EU C v).take i) C.length=F0 at*;repeat' (first|apply AG<;>intro hc<;>try omega|apply A2;omega|refine A3 V' ?_ rfl ?_;omega|apply AE)<;>conv=>whnf
  refine HS (enc:=eO) (some x) rfl (λe=>by cases e<;>rfl) O' ?_;conv=>whnf
  rw[hs];repeat' (first|apply AR;omega|fail)<;>conv=>whnf
  exact BC [] (ih (i+1) O' O')
 obtain rfl:i=C.length:=O'
 clear ih;rw[zT O',aO gu];repeat' (first|apply AG<;>intro hc<;>try omega|apply AE)<;>conv=>whnf
 refine CR (enc:=eQ) (λ_=>rfl) rfl O' ?_;conv=>whnf
 skip
 exact AU rfl (by simp only[AY,true_and];exact ME _)
def RJ(n:Nt)(ts:List (Int×Int)):Bool:=ts.all λt=>decide (t.2%pw n.c.f=0)
def D4(n:Nt)(nd:Nd):Rat:=if RJ n nd.ts=true then 0 else if n.d.r=2 then Ob 1 2 else 1
theorem Xh{n:Nt}{ts:List (Int×Int)}{i:Nat}{t:Int×Int}(h:ts[i]?=some t):RJ n (ts.take (i+1))=(RJ n (ts.take i)&&decide (t.2%pw n.c.f=0)):=by
 rw[db,h,Eb,RJ,Eh];simp[RJ]
theorem AiV(N:w8 L)(n:Nt)(hn:DD n)(k:Nat)(nd:Nd)(hnd:n.nodes[k]?=some nd):Ev L 350 [.agg (BX n),.int .i64 (k:Int)] (.agg (eQ (D4 n nd))):=by
 obtain⟨h1,h2,⟨h3a,h3b,h3c,h3d⟩,h4,h5,h6⟩:=(CP n).1 hn.du;have xf:=h2;unfold WV at xf;have si:n.nodes[(k:Int).toNat]?=some nd:=hnd;have tj:=I6 N.toa6 0 O';have py:=I6 N.toa6 1 O';have hF:=yD N.toau 1 2 O' O' O';rw[show((0:Int):Rat)=0 from rfl]at tj;rw[show((1:Int):Rat)=1 from rfl]at py;have Ab:=GQ n.c.f;have hC:=hn.cf _ (zM hnd);have rz:=(zS hnd).1;have hL:nd.ts.length<=5:=by
  rcases hn.tl with h|⟨_,h⟩|⟨_,h⟩<;>have:=h _ (zM hnd)<;>omega
 refine Ev.x N.O8 rfl rfl ?_;repeat' (first|refine H3 ?_ (λ_ _=>?_);omega|apply AP|refine A3 V' ?_ rfl ?_;omega|apply AE)<;>conv=>whnf
 refine DT (λi _=>nd.ts.length-i) (λ(i:Nat)(b:Bool)=>i<=nd.ts.length/\b=RJ n (nd.ts.take i)) (λi b=>[(20,.int .i64 i),(6,.bool b)]) (λ_ _=>[]) 0 true ⟨O',by simp[RJ]⟩ ?_;intro i b ⟨p1,p2⟩ ih;by_cases hi:i<nd.ts.length
 ·obtain⟨t,ht⟩:=N' nd.ts i hi
  have nb:nd.ts[(i:Int).toNat]?=some t:=ht;have hw:=Xh (n:=n) ht;rw[<-p2]at hw;by_cases hz:t.2%pw n.c.f=0
  ·rw[decide_eq_true hz,Bool.and_true]at hw
   repeat' (first|apply AG<;>intro hc<;>try omega|apply AR;omega|(refine IZ ?_ (λ_ _ _=>?_) (λ_ _ _ _=>?_);omega;all_goals try omega)|refine A3 V' ?_ rfl ?_;omega|apply AE)<;>conv=>whnf
   exact BC [] (ih (i+1) b O' ⟨O',hw.symm⟩)
  ·rw[decide_eq_false hz,Bool.and_false]at hw
   repeat' (first|apply AG<;>intro hc<;>try omega|apply AR;omega|(refine IZ ?_ (λ_ _ _=>?_) (λ_ _ _ _=>?_);omega;all_goals try omega)|refine A3 V' ?_ rfl ?_;omega|apply AE)<;>conv=>whnf
   all_goals exact BC [] (ih (i+1) false O' ⟨O',hw.symm⟩)
 have ei:i=nd.ts.length:=O'
 clear ih;rw[ei,vb]at p2;cases b
 ·by_cases hr:n.d.r=2
  ·have e:D4 n nd=Ob 1 2:=by rw[D4,<-p2,if_neg Y',if_pos hr]
   rw[e];repeat' (first|apply AG<;>intro hc<;>try omega|apply AE|refine AD (hF) ?_)<;>conv=>whnf
   exact AU rfl (DG _)
  ·have e:D4 n nd=1:=by rw[D4,<-p2,if_neg Y',if_neg hr]
   rw[e];repeat' (first|apply AG<;>intro hc<;>try omega|apply AE|refine AD (py) ?_)<;>conv=>whnf
   exact AU rfl (DG _)
 ·have e:D4 n nd=0:=by rw[D4,<-p2,if_pos rfl]
  rw[e];repeat' (first|apply AG<;>intro hc<;>try omega|apply AE|refine AD (tj) ?_)<;>conv=>whnf
  exact AU rfl (DG _)
end Go.Eng

namespace Go.Eng
structure B4 where
 g:o_
 l:Rat
 b:o_
def E8(n:Nt):P':=(Ga n.s.toNat).map λj=>GN n (1+j)
def aN(n:Nt):P':=n.next.map λv=>EU (E8 n) v.toNat
def XP(n:Nt)(g:o_):o_:=n.next.map λv=>g.getD v.toNat 0
def E0(n:Nt)(i:Nat)(l:Rat):B4:=⟨GN n i,l,XP n (GN n i)⟩
def Y5(n:Nt)(k:Nat):Option B4:=match n.nodes[k]? with
 |some nd=>if 0<D4 n nd then some (E0 n (1+n.s.toNat+k) (D4 n nd))else none
 |none=>none
def DK(n:Nt)(k:Nat):List B4:=(Ga k).filterMap (Y5 n)
def x6(n:Nt):List B4:=E0 n 0 1::DK n n.nodes.length
theorem sB(n:Nt)(k:Nat):DK n (k+1)=DK n k++(Y5 n k).toList:=by
 rw[DK,Hd,List.filterMap_append];congr 1
theorem jS(n:Nt):∀k,(DK n k).length<=k
 |0=>by simp[DK]
 |k+1=>by
  rw[sB,Ma];have:=jS n k
  cases Y5 n k<;>simp<;>omega
theorem Alo(n:Nt)(nd:Nd):D4 n nd=0\/D4 n nd=Ob 1 2\/D4 n nd=1:=by
 unfold D4;split
 ·exact Or.inl rfl
 ·split
  ·exact Or.inr (Or.inl rfl)
  ·exact Or.inr (Or.inr rfl)
theorem WB(n:Nt)(nd:Nd):Bt 1 (D4 n nd)/\0<=D4 n nd:=by
 rcases Alo n nd with h|h|h<;>rw[h]<;>exact⟨⟨Y',Y'⟩,Y'⟩
theorem gD{n:Nt}(hn:DD n)(fr:Nat):(GN n fr).length=n.s.toNat+1+n.nodes.length:=by
 obtain⟨_,_,⟨h,_⟩,_⟩:=(CP n).1 hn.du;rw[GN,nV,cQ];simp[CY];omega
theorem Sb{n:Nt}(hn:DD n)(fr:Nat):Bs 40000 (GN n fr):=by
 obtain⟨_,h2,⟨h,_⟩,_⟩:=(CP n).1 hn.du;unfold WV at h2;have hu:Bt 24 (Ob 1 (pw n.c.f)):=by
  have e1:=GQ n.c.f;have e2:=RC (n:=n.c.f) (m:=23) O';have e3:pw 23=8388608:=by unfold pw;rfl
  obtain⟨e,he⟩:=Ie (show 0<=pw n.c.f by omega);rw[he]at e2⊢;rw[Bf];refine Bt.mk Y' ?_;show _<=16777216;omega
 have hlt:(CY n).length=n.nodes.length:=by simp[CY]
 have:=Sc hn hu (ex:=(fr:Int)-(n.s+1)) (w:=CZ (n.s+1).toNat fr) (Bs.unit _ _ _) n.nodes.length (Jb _)
 rwa [<-hlt,vb]at this
structure OB(n:Nt)(s:B4):Prop where
 gl:s.g.length=n.s.toNat+1+n.nodes.length
 gb:Bs 40000 s.g
 lb:Bt 1 s.l
 l0:0<=s.l
 b:s.b=XP n s.g
theorem sA{n:Nt}(hn:DD n)(i:Nat){l:Rat}(hl:Bt 1 l)(h0:0<=l):OB n (E0 n i l):=⟨gD hn i,Sb hn i,hl,h0,rfl⟩
theorem Yy{n:Nt}(hn:DD n){k:Nat}:∀s∈DK n k,OB n s:=by
 intro s hs;simp only[DK,List.mem_filterMap,Y5]at hs;obtain⟨j,_,hj⟩:=hs;cases h:n.nodes[j]? with
 |none=>rw[h]at hj;cases hj
 |some nd=>
  simp only[h]at hj;by_cases hp:0<D4 n nd
  ·rw[if_pos hp,lf]at hj
   rw[<-hj];exact sA hn _ (WB n nd).1 (WB n nd).2
  ·rw[if_neg hp]at hj;cases hj
theorem Yx{n:Nt}(hn:DD n):OB n (E0 n 0 1):=sA hn 0 ⟨Y',Y'⟩ Y'
theorem Y7{n:Nt}(hn:DD n):∀s∈x6 n,OB n s:=by
 intro s hs;rcases Og.1 hs with rfl|hs
 ·exact Yx hn
 ·exact Yy hn s hs
theorem Yz{n:Nt}(hn:DD n):1<=(x6 n).length/\(x6 n).length<=6:=by
 have:=jS n n.nodes.length
 have:=hn.nl
 simp only[x6,dc];omega
theorem YE{k:Nat}{l:o_}(h:Bs k l)(i:Nat):Bt k (l.getD i 0):=by
 rw[da];cases e:l[i]? with
 |none=>exact Bt.zero k
 |some x=>exact h.at e
theorem iH{n:Nt}(hn:DD n):n.next.length=n.s.toNat/\∀v∈n.next,0<=v/\v.toNat<n.s.toNat+1+n.nodes.length:=by
 obtain⟨_,_,⟨h1,h2,h3,h4⟩,_,h5,_⟩:=(CP n).1 hn.du;refine⟨O',λv hv=>?_⟩;have:=of_decide_eq_true (mb.1 h5 v hv)
 omega
theorem Agh{n:Nt}(hn:DD n)(g:o_):(XP n g).length=n.s.toNat:=by
 rw[XP,na];exact(iH hn).1
theorem Agg{n:Nt}{k:Nat}{g:o_}(hg:Bs k g):Bs k (XP n g):=by
 intro x hx;obtain⟨v,_,rfl⟩:=Pa.1 hx;exact YE hg _
theorem OB.bl{n:Nt}{s:B4}(hn:DD n)(h:OB n s):s.b.length=n.s.toNat:=by rw[h.b];exact Agh hn _
theorem OB.bb{n:Nt}{s:B4}(h:OB n s):Bs 40000 s.b:=by rw[h.b];exact Agg h.gb
theorem eI(n:Nt):(E8 n).length=n.s.toNat:=by simp[E8]
theorem AgY{n:Nt}{j:Nat}(h:j<n.s.toNat):(E8 n)[j]?=some (GN n (1+j)):=by
 rw[E8,sa,Ha h];rfl
theorem vZ{n:Nt}(hn:DD n):∀c∈E8 n,c.length=n.s.toNat+1+n.nodes.length:=by
 intro c hc;obtain⟨j,_,rfl⟩:=Pa.1 hc;exact gD hn _
theorem rD(n:Nt)(v:Nat):(EU (E8 n) v).length=n.s.toNat:=by rw[EU,na,eI]
theorem rC{n:Nt}(hn:DD n)(v:Nat):Bs 40000 (EU (E8 n) v):=by
 intro x hx;obtain⟨c,hc,rfl⟩:=Pa.1 hx;obtain⟨j,_,rfl⟩:=Pa.1 hc;exact YE (Sb hn _) _
theorem QN{n:Nt}(hn:DD n):Sq n.s.toNat (aN n):=by
 refine⟨by rw[aN,na];exact(iH hn).1,λr hr=>?_⟩;obtain⟨v,_,rfl⟩:=Pa.1 hr;exact rD n _
theorem dR{n:Nt}(hn:DD n):Ms 40000 (aN n):=by
 intro r hr;obtain⟨v,_,rfl⟩:=Pa.1 hr;exact rC hn _
theorem Zr{n kA kB:Nat}{a:P'}{b:o_}{D E:Rat}(hs:Sq n a)(hA:∀r∈B7 D a,∀x∈r,Wh kA x)(hB:∀x∈b.map (· * E),Wh kB x):∀j,∀x∈FO a b D E j,Wh (kB+j*(kA+n)) x
 |0=>by
  rw[tD];intro x hx;exact(hB x hx).le O'
 |j+1=>by
  rw[tC];intro x hx;refine(Xf hA (jK _ hs.r) (Zr hs hA hB j) x hx).le ?_;simp only[fc];omega
theorem nO{n:Nat}:∀{ls:P'},(∀r∈ls,r.length=n)->ls.flatten.length=ls.length*n
 |[],_=>Z'
 |r::l,h=>by
  rw[od,Ma,nO λx hx=>h x (Da _ hx),h r Ca,dc,fc,ze]
def aA(n:Nt):Rat:=G8 ((x6 n).map (·.b)).flatten
theorem AgZ{n:Nt}(hn:DD n):∃E:Nat,aA n=(E:Rat)/\0<E/\Bt 960000 (E:Rat)/\∀s∈x6 n,∀x∈s.b.map (· * (E:Rat)),Wh 1000000 x:=by
 have hl:((x6 n).map (·.b)).flatten.length<=24:=by
  have h1:=(Yz hn).2;have h2:=hn.st;rw[nO (n:=n.s.toNat) (λr hr=>by obtain⟨s,hs,rfl⟩:=Pa.1 hr;exact(Y7 hn s hs).bl hn),na];exact Mb (Nb h1 (show n.s.toNat<=4 by omega)) O'
 have hb:Bs 40000 ((x6 n).map (·.b)).flatten:=by
  intro x hx;obtain⟨r,hr,hx⟩:=Jd.1 hx;obtain⟨s,hs,rfl⟩:=Pa.1 hr;exact(Y7 hn s hs).bb x hx
 obtain⟨E,e1,e2,e3,e4⟩:=oT rfl hb;refine⟨E,e1,e2,(iE e3).le O',λs hs x hx=>?_⟩;obtain⟨y,hy,rfl⟩:=Pa.1 hx;exact(e4 _ (Pa.2 ⟨y,Jd.2 ⟨s.b,Pa.2 ⟨s,hs,rfl⟩,hy⟩,rfl⟩)).le O'
theorem Uw{n:Nt}(hn:DD n):∃D E:Nat,G8 (aN n).flatten=(D:Rat)/\aA n=(E:Rat)/\0<D/\0<E/\Bt 640000 (D:Rat)/\Bt 960000 (E:Rat)/\Ms 680000 (B7 (D:Rat) (aN n))/\∀s∈x6 n,∀j,j<=128->Bs 90000000 (FO (aN n) s.b (D:Rat) (E:Rat) j):=by
 obtain⟨D,d1,d2,d3,d4⟩:=jL (QN hn) (dR hn);obtain⟨E,e1,e2,e3,e4⟩:=AgZ hn;have o4:=hn.st;have my:n.s.toNat*n.s.toNat<=4*4:=Nb O' O';have kn:n.s.toNat*n.s.toNat*40000<=640000:=Mb (zR 40000 my) O';refine⟨D,E,d1,e1,d2,e2,(iE d3).le kn,e3,λr hr x hx=>((d4 r hr x hx).le O').bt,λs hs j hj x hx=>?_⟩;have hA:∀r∈B7 (D:Rat) (aN n),∀x∈r,Wh 680000 x:=λr hr x hx=>(d4 r hr x hx).le O'
 refine((Zr (QN hn) hA (e4 s hs) j x hx).le ?_).bt;have:=Nb hj (show 680000+n.s.toNat<=680004 by omega)
 omega
def aw(f:B4->Rat)(l:List B4):Rat:=l.foldl (λa s=>a+f s) 0
theorem Su(f:B4->Rat)(l:List B4)(s:B4):aw f (l++[s])=aw f l+f s:=by rw[aw,Nh];rfl
theorem gV{f:B4->Rat}{l:List B4}{i:Nat}{s:B4}(h:l[i]?=some s):aw f (l.take (i+1))=aw f (l.take i)+f s:=by
 rw[db,h,Eb,Su]
theorem Aly{f g:B4->Rat}{l:List B4}(h:∀s∈l,f s=g s):aw f l=aw g l:=by
 have:∀(l:List B4)(a:Rat),(∀s∈l,f s=g s)->l.foldl (λa s=>a+f s) a=l.foldl (λa s=>a+g s) a:=by
  intro l;induction l with
  |nil=>intro a _;rfl
  |cons s l ih=>
   intro a h;rw[Ed,Ed,h s Ca];exact ih _ λx hx=>h x (Da _ hx)
 exact this l 0 h
theorem Alz(f g:B4->Rat)(l:List B4)(d:Rat):aw f l+aw g l/d=aw (λs=>f s+g s/d) l:=by
 have:∀(l:List B4)(a b c:Rat),a+b/d=c->l.foldl (λa s=>a+f s) a+l.foldl (λa s=>a+g s) b/d=l.foldl (λa s=>a+(f s+g s/d)) c:=by
  intro l;induction l with
  |nil=>intro a b c h;exact h
  |cons s l ih=>
   intro a b c h;refine ih _ _ _ ?_;show a+f s+(b+g s)/d=c+(f s+g s/d);rw[<-h,ub,ub,ub,Li];grind
 exact this l 0 0 0 (by rw[ub,pd,Dc])
theorem Ss{f:B4->Rat}{k:Nat}{l:List B4}(h:∀s∈l,Bt k (f s)):Bt (l.length*(k+1)) (aw f l):=by
 have:∀(l:List B4)(a:Rat)(m:Nat),(∀s∈l,Bt k (f s))->Bt m a->Bt (m+l.length*(k+1)) (l.foldl (λa s=>a+f s) a):=by
  intro l;induction l with
  |nil=>intro a m _ h;simpa using h
  |cons s l ih=>
   intro a m h1 h2;have:=ih (a+f s) (m+k+1) (λx hx=>h1 x (Da _ hx)) (h2.add (h1 s Ca))
   exact this.le (by rw[dc,fc];omega)
 have:=this l 0 0 h (Bt.zero 0)
 rwa [ic]at this
theorem AlA{f:B4->Rat}{l:List B4}(h:∀s∈l,0<=f s):0<=aw f l:=by
 have:∀(l:List B4)(a:Rat),(∀s∈l,0<=f s)->0<=a->0<=l.foldl (λa s=>a+f s) a:=by
  intro l;induction l with
  |nil=>intro a _ h;exact h
  |cons s l ih=>intro a h1 h2;exact ih _ (λx hx=>h1 x (Da _ hx)) (by have:=h1 s Ca;grind)
 exact this l 0 h Y'
def JW(n:Nt)(s:B4)(v:Nat):HI:=⟨aN n,s.b,EU (E8 n) v,s.g.getD v 0⟩
def J7(n:Nt)(p v:Nat):Rat:=G9 (JW n (E0 n 0 1) v) p
def P7(n:Nt)(p v:Nat):Rat:=aw (λs=>s.l*G9 (JW n s v) p) (DK n n.nodes.length)
theorem Xq(S:HI)(p:Nat):0<=G9 S p:=by
 have h1:=kU S.d;have h2:=sK (f:=KV S.a S.b S.c) (λj=>kU _) (p+p);have h3:=sK (f:=λj=>NT S.a S.b (p+j)) (λj=>Akf _) p;have h4:=cg (We S.c) h3;rw[G9];grind
theorem Wz(n:Nt)(p v:Nat):0<=J7 n p v:=Xq _ _
theorem Vn{n:Nt}(hn:DD n)(p v:Nat):0<=P7 n p v:=AlA λs hs=>cg (Yy hn s hs).l0 (Xq _ _)
end Go.Eng

namespace Go.Eng
theorem wS(f:Int):Ob 1 (pw f)=1/((pw f:Int):Rat):=by
 have h:((pw f:Int):Rat)≠0:=by
  intro e;have:pw f=0:=by exact_mod_cast e
  have:=GQ f
  omega
 rw[Rat.divInt_eq_div,show((1:Int):Rat)=1 from rfl]
theorem Qh(u:Rat){ex:Int}(hx:ex<0):∀(l:List (List (Int×Int)))(k:Nat)(vals:o_),FW (1/u) ex k vals l=G0 u (-1) k vals l
 |[],_,_=>rfl
 |ts::r,k,vals=>by
  rw[FW,G0,if_neg O',if_neg O',Qh u hx r,Dc];rw[ub,ub,yg]
theorem sL{vals:o_}(h:∀v∈vals,v=0):∀ts,EF vals ts=0
 |[]=>rfl
 |t::ts=>by
  have:vals.getD t.1.toNat 0=0:=by
   rw[da];cases e:vals[t.1.toNat]? with
   |none=>rfl
   |some x=>exact h x (zM e)
  rw[EF,sL h ts,this];grind
theorem nW(u:Rat)(k0:Nat):∀(l:List (List (Int×Int)))(k:Nat)(vals:o_),(k<=k0->∀v∈vals,v=0)->FW (1/u) (k0:Int) k vals l=G0 u (k0:Int) k vals l
 |[],_,_,_=>rfl
 |ts::r,k,vals,h=>by
  rw[FW,G0];by_cases e:k=k0
  ·subst e
   rw[if_pos rfl,if_pos rfl,sL (h (Jb _)),nW u k r (k+1) _ (λh2=>absurd h2 O')];rw[ub,pd,Jg]
  ·rw[if_neg O',if_neg O',Dc,show EF vals ts*(1/u)=EF vals ts/u by rw[ub,ub,yg]]
   refine nW u k0 r (k+1) _ λh2 v hv=>?_
   have hz:=h O';rcases lg.1 hv with hv|hv
   ·exact hz v hv
   ·rw[gf.1 hv,sL hz,ub,pd]
theorem An1{m:Nat}{p q:Int}(hp:p<0\/(m:Int)<=p)(hq:q<0\/(m:Int)<=q):CZ m p=CZ m q:=by
 simp only[CZ];refine Oa λj hj=>?_
 have:=Nc.1 hj
 rw[if_neg O',if_neg O']
variable {n:Nt}
theorem Qb(hb:C6 n=true){j:Nat}(hj:j<=n.s.toNat):GN n j=GS n (j:Int) (-1):=by
 obtain⟨_,_,⟨h0,_⟩,_⟩:=(CP n).1 hb;rw[GN,GS,wS,Qh _ O',show(n.s+1).toNat=(1+n.s).toNat by omega]
theorem Aj6(hb:C6 n=true)(k:Nat):GN n (1+n.s.toNat+k)=GS n (-1) (k:Int):=by
 obtain⟨_,_,⟨h0,_⟩,_⟩:=(CP n).1 hb;rw[GN,GS,wS,show((1+n.s.toNat+k:Nat):Int)-(n.s+1)=(k:Int)by omega,show(n.s+1).toNat=(1+n.s).toNat by omega,An1 (q := -1) O' O'];refine nW _ k _ 0 _ λ_ v hv=>?_
 simp only[CZ,Pa,Nc]at hv;obtain⟨i,_,rfl⟩:=hv;rw[if_neg O']
theorem lN(hb:C6 n=true)(e:Int):EU (E8 n) e.toNat=fA n e:=by
 rw[EU,E8,fA,tc];refine Oa λj hj=>?_
 have:=Nc.1 hj
 show(GN n (1+j)).getD e.toNat 0=_;rw[Qb hb O',show((1+j:Nat):Int)=(j:Int)+1 by omega]
theorem Sa(hb:C6 n=true)(e:Int):(GN n 0).getD e.toNat 0=gX n e:=by rw[Qb hb O'];rfl
theorem Rz(hb:C6 n=true)(k:Nat)(e:Int):(GN n (1+n.s.toNat+k)).getD e.toNat 0=gK n k e:=by rw[Aj6 hb];rfl
theorem ZY(hb:C6 n=true):aN n=n.next.map (fA n):=Oa λe _=>lN hb e
abbrev EI(n:Nt)(v:Nat):Nt:={ n with out:=(v:Int) }
theorem Xv(hb:C6 n=true)(v:Nat):JW n (E0 n 0 1) v=FC (EI n v):=by
 have e1:aN n=(FC (EI n v)).a:=ZY hb;have e2:(E0 n 0 1).b=(FC (EI n v)).b:=Oa λe _=>Sa hb e
 have e3:EU (E8 n) v=(FC (EI n v)).c:=lN hb (v:Int);have e4:(E0 n 0 1).g.getD v 0=(FC (EI n v)).d:=Sa hb (v:Int);rw[JW,e1,e2,e3,e4]
theorem Xu(hb:C6 n=true)(k:Nat)(l:Rat)(v:Nat):JW n (E0 n (1+n.s.toNat+k) l) v=IL (EI n v) (k:Int):=by
 have e1:aN n=(IL (EI n v) (k:Int)).a:=ZY hb;have e2:(E0 n (1+n.s.toNat+k) l).b=(IL (EI n v) (k:Int)).b:=Oa λe _=>Rz hb k e
 have e3:EU (E8 n) v=(IL (EI n v) (k:Int)).c:=lN hb (v:Int);have e4:(E0 n (1+n.s.toNat+k) l).g.getD v 0=(IL (EI n v) (k:Int)).d:=Rz hb k (v:Int);rw[JW,e1,e2,e3,e4]
def YJ(n:Nt)(k:Nat):Rat:=match n.nodes[k]? with
 |some nd=>D4 n nd
 |none=>0
theorem Vo(hb:C6 n=true)(p v:Nat):∀K,aw (λs=>s.l*G9 (JW n s v) p) (DK n K)=ni (YJ n) (λk=>G9 (IL (EI n v) (k:Int)) p) K
 |0=>rfl
 |K+1=>by
  rw[sB,ni,<-Vo hb p v K,Y5,YJ];cases h:n.nodes[K]? with
  |none=>
   show aw _ (DK n K++[])=_+0*_;rw[yc,pd,Dc]
  |some nd=>
   show aw _ (DK n K++(if 0<D4 n nd then some (E0 n (1+n.s.toNat+K) (D4 n nd))else none).toList)=_+D4 n nd*_;by_cases hp:0<D4 n nd
   ·rw[if_pos hp,Eb,Su,Xu hb];rfl
   ·have h0:D4 n nd=0:=by have:=(WB n nd).2;grind
    rw[if_neg hp,h0,pd,Dc,Cd,yc]
theorem AmQ(hb:C6 n=true)(p v:Nat):P7 n p v=ni (YJ n) (λk=>G9 (IL (EI n v) (k:Int)) p) n.nodes.length:=Vo hb p v _
theorem Xa(hb:C6 n=true)(p v:Nat):J7 n p v=G9 (FC (EI n v)) p:=by rw[J7,Xv hb]
end Go.Eng

namespace Go.Eng
open F
variable {L:Lib}
abbrev KT(w:Bool)(P:B4->List (o_)×Rat)(s:B4):List AV :=
 .sl false (s.g.map eQ) :: .bool (decide (s.l.num<0)) :: .sl false ((dg s.l.num.natAbs).map AJ) :: .sl false ((dg s.l.den).map AJ)::(bif w then .sl true (QS (P s).1)::J3 true (P s).2 else[.nil,.bool false,.nil,.nil])
def LW(ss:List B4)(P:B4->List (o_)×Rat)(i:Nat):v_:=(ss.take i).map (KT true P)++(ss.drop i).map (KT false P)
theorem AlH(ss:List B4)(P:B4->List (o_)×Rat):LW ss P 0=ss.map (KT false P):=by simp[LW]
theorem AlG(ss:List B4)(P:B4->List (o_)×Rat):LW ss P ss.length=ss.map (KT true P):=by simp[LW]
theorem Afp{ss:List B4}{P:B4->List (o_)×Rat}{i:Nat}{s:B4}{K:v_->Prop}(hs:ss[i]?=some s)(hk:K (LW ss P (i+1))):BG (LW ss P i) (0+((i:Int)).toNat) 4 (.sl true (QS (P s).1)::J3 true (P s).2) K:=by
 have hi:=(zS hs).1;have hl:((ss.take i).map (KT true P)).length=i:=by rw[na,za];omega
 have hg:(LW ss P i)[i]?=some (KT false P s):=by
  rw[LW,Mc (by rw[hl];omega),hl,cd,sa,Nf,Ef,hs];rfl
 rw[ic,tb];refine⟨_,hg,Jb 8,?_⟩;have:(LW ss P i).set i (splice (KT false P s) 4 (.sl true (QS (P s).1)::J3 true (P s).2))=LW ss P (i+1):=by
  have e1:splice (KT false P s) 4 (.sl true (QS (P s).1)::J3 true (P s).2)=KT true P s:=rfl;rw[e1,LW,LW,yf _ _ (by rw[hl];omega),hl,cd,db,hs,Ce,ue];congr 1;rw[Gc hi,te,jf];have:ss[i]=s:=(zS hs).2
  rw[<-this];rfl
 rw[this];exact hk
def GM(S:Nat)(T:P')(i:Nat):List (p_):=if S=0 then Na T.length none else mz T T.length i
theorem Agf(S:Nat)(T:P'):GM S T 0=Na T.length none:=by
 unfold GM;split
 ·rfl
 ·exact pR T _
theorem Aga{S:Nat}{T:P'}{i:Nat}(hi:i<=T.length):(GM S T i).length=T.length:=by
 unfold GM;split
 ·exact Cb
 ·exact pP hi
theorem Agc{S:Nat}{T:P'}{i:Nat}(hi:i<T.length):(GM S T i)[i]?=some none:=by
 unfold GM;split
 ·rw[ie,if_pos hi]
 ·have hl:(EN 3 eQ (T.take i)).length=i:=by simp only[EN,na,za];omega
  have:=Ru (z:=(none:p_)) (l:=EN 3 eQ (T.take i)) (m:=T.length) O'
  rw[hl]at this;exact this
theorem Age{S:Nat}{T:P'}{i:Nat}{r:o_}(h0:S≠0)(h:T[i]?=some r):(GM S T i).set i (some (3,r.map eQ))=GM S T (i+1):=by
 rw[GM,if_neg h0,GM,if_neg h0];exact pQ h (zS h).1
theorem Agd{T:P'}(i j:Nat):GM 0 T i=GM 0 T j:=by rw[GM,GM,if_pos rfl,if_pos rfl]
theorem Af9{S:Nat}{T:P'}(h0:S≠0):GM S T T.length=EN 3 eQ T:=by rw[GM,if_neg h0];exact pO rfl
theorem Agb(T:P')(i:Nat):GM 0 T i=Na T.length none:=by rw[GM,if_pos rfl]
theorem Vm(q:Bool):∀n:Nat,L1 q (Na n none)=Na n [.sl false []]
 |0=>rfl
 |n+1=>by rw[Bg,Bg];simp only[L1];rw[Vm q n]
theorem Afn{q:Bool}{n off len:Nat}{K:v_->Prop}(ho:off=0)(hl:len=n)(h:K (Na n [.sl false []])):HO q (Na n none) off len K:=by
 refine⟨ho,by rw[Cb];exact hl,λz es hm=>?_,by rw[Vm];exact h⟩;have:=List.eq_of_mem_replicate hm
 cases this
theorem Aib(q:Bool){T:P'}(h:∀r∈T,r=[]):IK q T=Na T.length [.sl q []]:=by
 refine List.eq_replicate_iff.2 ⟨by rw[na],λx hx=>?_⟩;obtain⟨r,hr,rfl⟩:=Pa.1 hx;rw[h r hr];rfl
end Go.Eng

namespace Go.Eng
open F
attribute [local irreducible] AA AF AW AC AX BD BG BS D7 BR A5 AB A8 AH pw HF E5 MB U9 HO CG QD
variable {L:Lib}
set_option maxRecDepth 8000
def cX(n:Nt)(sc:Nat)(X:Mem)(ks:u_):Prop:=(X=[(1,sc,.bx (BX n))]/\ks=[1])\/(X=[(2,sc,.bx (BX n))]/\ks=[2])\/X=[(3,sc,.bx (BX n)),(6,6,.bx [.bool false,.nil,.nil])]/\ks=[3,6]
abbrev Sw(X:Mem)(S m:Nat)(n:Nt)(eng:w_)(C:P')(row:v_):Mem :=
 X++[(356001,356001,.bx (BX n)),(356004,356004,.bx [.row 356017 0 1 0 S]),(356017,356017,.mx (EN 3 eQ C)),(356009,356009,.bx eng),(356011,356011,.bx [.row 356057 0 8 0 m]),(356057,356057,.rw 8 row)]
theorem Ags(N:w8 L)(n:Nt)(hn:DD n)(X:Mem)(ks:u_)(sc:Nat)(hX:cX n sc X ks)(R:P')(D U E:Rat)(p:Nat)(C:P')(ss:List B4)(P:B4->List (o_)×Rat)(hs:∀s∈ss,OB n s)(hm:ss.length<=6)
  (hE:E=G8 (ss.map (·.b)).flatten) (zo:Bt 960000 E)
  (hW:∀s∈ss,Ev L 304 [.agg (IJ false R D (p:Int) U),.sl false ((s.b.map (· * E)).map eQ)] (.agg (VX (P s).1 (P s).2))) (hP:∀s,(P s).1≠[]) (K:AV->Mem->Prop)
  (hK:K (.agg (eQ E)) (Sw X n.s.toNat ss.length n (IJ false R D (p:Int) U) C (ss.map (KT true P)))) :
  A8 L 355 [.agg (IJ false R D (p:Int) U),.agg (BX n),.row 356057 0 8 0 ss.length] (ZC (ks++[356001,356004,356009,356011,356057])) (Sw X n.s.toNat ss.length n (IJ false R D (p:Int) U) C (ss.map (KT false P))) K:=by
 obtain⟨ep,hnx⟩:=iH hn;have o4:=hn.st;have vi:=hn.nl;obtain⟨S,hS⟩:∃S:Nat,n.s.toNat=S:=⟨_,rfl⟩;rw[hS]at ep hnx;obtain⟨T,hT⟩:∃T:P',T=ss.map (·.b):=⟨_,rfl⟩;have zp:T.length=ss.length:=by rw[hT,na]
 have Fi:∀(i:Nat)(s:B4),ss[i]?=some s->T[i]?=some s.b:=λi s h=>by rw[hT,sa,h];rfl
 have hTr:∀r∈T,r.length=S:=λr hr=>by
  rw[hT]at hr;obtain⟨s,h,rfl⟩:=Pa.1 hr;rw[(hs s h).bl hn,hS]
 have hTb:Ms 40000 T:=λr hr=>by
  rw[hT]at hr;obtain⟨s,h,rfl⟩:=Pa.1 hr;exact(hs s h).bb
 have wi:=λq q'=>mY N.tou5 q q' T 40000 hTb (by rw[nO hTr,zp];have:=Nb hm (show S<=4 by omega);omega) O' O'
 rw[<-hT]at hE;rw[<-hE]at wi;have Iu:=λ(s:B4)(ua:s∈ss)(q:Bool)=>mZ N.tou5 q s.b E 40000 960000 (hs s ua).bb zo O' O' (by have:=(hs s ua).bl hn;omega)
 have kb:∀s∈ss,s.b.length=S:=λs h=>by rw[(hs s h).bl hn,hS]
 have Me:∀s∈ss,∀(j:Nat)(v:Int),n.next[j]?=some v->s.b[j]?=some (s.g.getD v.toNat 0):=λs h j v hv=>by
  rw[(hs s h).b,XP,sa,hv];rfl
 have yd:∀s∈ss,s.g.length=S+1+n.nodes.length:=λs h=>by rw[(hs s h).gl,hS]
 have hmz:=AlH ss P;have hmf:=AlG ss P;rw[hS]at hK⊢;refine cU ?_;unfold cX at hX;rcases hX with⟨rfl,rfl⟩|⟨rfl,rfl⟩|⟨rfl,rfl⟩
 all_goals
  refine EK 1000 N.K5 rfl rfl ?_;(repeat' (apply AE<;>conv=>whnf))
  unfold U9;refine⟨⟨O',O',by simp only[ET];omega,O'⟩,?_⟩;rw[tb];conv=>whnf
  skip
  refine DP (λi=>ss.length-i) (λ(i:Nat)=>i<=ss.length) (λi=>[(19,.int .i64 i)]) (λi=>[(355016,355016,.mx (GM S T i))]) [] [] 0 (by rw[Agf,zp];exact E') O' ?_;intro i p1 ih;have gu:=Aga (S:=S) (T:=T) (i:=i) O';by_cases hi:i<ss.length
  ·obtain⟨s,kp⟩:=N' ss i hi
   have gd:=zM kp;have og:=Fi i s kp;have AAM:=kb s gd;have AA3:=yd s gd;have Fo:=Me s gd;have iz:=Agc (S:=S) (T:=T) (i:=i) O';have bj:=λh0:S≠0=>Age h0 og
   have oc:S=0->GM S T i=GM S T (i+1):=λh=>by subst h;exact Agd _ _
   generalize GM S T i=R0 at*;repeat' (first|apply AG<;>intro hc<;>try omega|apply A2;omega|apply AP|refine U7 ?_ (λ_=>rfl) (λv hv=>?_);omega|apply AE)<;>conv=>whnf
   cases kp.symm.trans hv;skip
   rcases Jf S with h0|h0
   ·have Oe:=oc h0
    refine IV ?_;repeat' (first|apply AG<;>intro hc<;>try omega|apply AR;omega|apply AE)<;>conv=>whnf
    rw[Oe];exact BC [] (ih (i+1) O' O')
   ·have bj:=bj O'
    have fw:∀j,j<S->∃(v:Int) (x:Rat),n.next[j]?=some v/\n.next[(j:Int).toNat]?=some v/\0<=v/\s.g[v.toNat]?=some x/\s.b[j]?=some x:=λj hj=>by
     obtain⟨v,hv⟩:=N' n.next j
     obtain⟨h1,h2⟩:=hnx v (zM hv);obtain⟨x,hx⟩:=N' s.g v.toNat;exact⟨v,x,hv,hv,h1,hx,by rw[Fo j v hv,nT hx]⟩
    obtain⟨v0,x0,q1,q2,q3,q4,q5⟩:=fw 0 h0;have ou:s.b.take 1=[x0]:=by rw[db,q5];rfl
    clear oc Fo;refine IV ?_;repeat' (first|apply AG<;>intro hc<;>try omega|apply A2;omega|refine A3 V' ?_ rfl ?_;omega|apply AE)<;>conv=>whnf
    refine dC (r:=none) (by rw[ic,tb];exact iz) ?_;conv=>whnf
    repeat' (first|refine A3 V' ?_ rfl ?_;omega|apply CI)<;>conv=>whnf
    refine L8 (enc:=eQ) x0 rfl rfl O' ?_;conv=>whnf
    repeat' (first|apply A2;omega|fail)<;>conv=>whnf
    refine A2 rfl ?_;refine ZV (i:=i) O' O' ?_;conv=>whnf
    repeat' (first|apply AR;omega|fail)<;>conv=>whnf
    refine DP (λj=>S-j) (λ(j:Nat)=>1<=j/\j<=S) (λj=>[(27,.int .i64 j)]) (λj=>[(355016,355016,.mx (R0.set i (some (3,(s.b.take j).map eQ))))]) [] [] 1 (by first|exact E'|(rw[ou];exact E')) O' ?_;intro j ⟨r1,r2⟩ jh;by_cases hj:j<S
    ·obtain⟨v1,x1,e1,e2,e3,e4,e5⟩:=fw j hj
     have o4:=KG e5;have htj:(s.b.take j).length=j:=by rw[za];omega
     have Cm:(s.b.take (j+1)).length=j+1:=by rw[za];omega
     generalize s.b.take j=W at*;repeat' (first|apply AG<;>intro hc<;>try omega|apply A2;omega|refine A3 V' ?_ rfl ?_;omega|apply AE)<;>conv=>whnf
     refine tW O' O' ?_;conv=>whnf
     repeat' (first|refine A3 V' ?_ rfl ?_;omega|apply CI)<;>conv=>whnf
     refine tU O' O' ?_;conv=>whnf
     refine C1 (enc:=eQ) x1 rfl (by rw[na]) rfl O' O' ?_;intro s' v;rw[<-o4,Cm];conv=>whnf
     repeat' (first|apply A2;omega|fail)<;>conv=>whnf
     refine A2 ⟨rfl,by rw[na];omega⟩ ?_;refine ZV (i:=i) O' (by rw[xd,xd];omega) ?_;rw[show 0+((i:Int)).toNat=i by omega,Hf,Hf];conv=>whnf
     repeat' (first|apply AR;omega|fail)<;>conv=>whnf
     exact BC [] (jh (j+1) O' O')
    have ej:j=S:=O'
    clear jh;rw[ej,zT O',bj];repeat' (first|apply AG<;>intro hc<;>try omega|apply AR;omega|apply AE)<;>conv=>whnf
    exact BC [] (ih (i+1) O' O')
  have ei:i=T.length:=O'
  clear ih gu;rw[ei];rcases Jf S with h0|h0
  focus
   have hTe:∀r∈T,r=[]:=λr hr=>je.1 ((hTr r hr).trans h0)
   have xi:∀q,Ev L 295 [.sl q (Na T.length [.sl false []])] (.agg (eQ E)):=λq=>by
    have:=wi q false
    rwa [Aib false hTe]at this
   rw[show GM S T T.length=Na T.length none by rw[h0,Agb]];repeat' (first|apply AG<;>intro hc<;>try omega|apply AE)<;>conv=>whnf
   refine Afn rfl O' ?_;conv=>whnf
   (repeat' (refine AD (xi _) ?_<;>conv=>whnf))
  rotate_left
  focus
   rw[Af9 O'];repeat' (first|apply AG<;>intro hc<;>try omega|apply AE)<;>conv=>whnf
   refine VE (λ_=>rfl) rfl zp.symm ?_;conv=>whnf
   (repeat' (refine AD (wi _ _) ?_<;>conv=>whnf))
  all_goals
   refine DP (λi=>ss.length-i) (λ(i:Nat)=>i<=ss.length) (λi=>[(51,.int .i64 i)]) (λi=>[(356057,356057,.rw 8 (LW ss P i))]) [] [] 0 (by rw[hmz];exact E') O' ?_;intro i p1 ih;by_cases hi:i<ss.length
   ·obtain⟨s,kp⟩:=N' ss i hi
    have gd:=zM kp;have og:=Fi i s kp;have hW':=hW s gd;have hP':=hP s;have hln:=Alr (P s).1 (P s).2;have Jc:=Ami (T:=(P s).2) hP';have Bd:=Iu s gd;have oe:=λ(K:v_->Prop)=>Afp (P:=P) (K:=K) kp
    first
    |(have hbe:s.b=[]:=je.1 ((kb s gd).trans O')
      rw[hbe]at hW' Bd;have hTn:∀q,Ev L 296 [.sl q [],.agg (eQ E)] (.sl false ((([]:o_).map (· * E)).map eQ)):=Bd;repeat' (first|apply AG<;>intro hc<;>try omega|apply A2;omega|apply AE)<;>conv=>whnf
      refine dC (r:=none) (by rw[ic,tb,ie,if_pos O']) ?_;conv=>whnf
      (repeat' (first|refine AD (hTn _) ?_|refine AD (hW') ?_)<;>conv=>whnf))
    |(repeat' (first|apply AG<;>intro hc<;>try omega|apply A2;omega|(refine CR (λ_=>rfl) rfl ?_ ?_;(first|rfl|simp))|refine Ae3 ?_ (λr hr=>?_);omega|refine AeZ V' ?_|apply AE)<;>conv=>whnf
      cases og.symm.trans hr;(repeat' (first|refine AD (Bd _) ?_|refine AD (hW') ?_)<;>conv=>whnf))
    refine tS Jc trivial ?_;rw[hln];conv=>whnf
    refine A2 O' ?_;conv=>whnf
    refine oe _ ?_;conv=>whnf
    repeat' (first|apply AR;omega|fail)<;>conv=>whnf
    exact BC [] (ih (i+1) O' O')
   have ei:i=ss.length:=O'
   clear ih;rw[ei,hmf];repeat' (first|apply AG<;>intro hc<;>try omega|apply AE)<;>conv=>whnf
   refine⟨rfl,?_⟩;conv=>whnf
   refine⟨_,?_,hK⟩;first|exact⟨rfl,rfl,rfl,rfl,rfl,rfl,rfl,trivial⟩|exact⟨rfl,rfl,rfl,rfl,rfl,rfl,rfl,rfl,trivial⟩
def JC(n:Nt)(p:Nat)(D E:Rat)(s:B4):List (o_)×Rat:=((Ga (p+p)).map (FO (aN n) s.b D E),F8 D (λm=>CO (FO (aN n) s.b D E (p+m))) p)
theorem Amq{n:Nt}{p:Nat}(hp:1<=p)(D E:Rat)(s:B4):(JC n p D E s).1≠[]:=by
 intro e;have:=congrArg ai e
 simp[JC]at this;omega
theorem Ana{x:Rat}(h:0<x):0<v7 x.num:=by
 have:=(WR (x:=x) (y:=0)).2 h
 rwa [oh,mi,Dc]at this
theorem Am9{x:Rat}(h:¬0<x):v7 x.num<=0:=by
 refine kj.1 λh2=>h ((WR (x:=x) (y:=0)).1 ?_)
 rwa [oh,mi,Dc]
abbrev bE(n:Nt)(p:Nat)(D E:Rat):Mem :=
 [(356004,356004,.bx [.row 356017 0 1 0 n.s.toNat]),(356017,356017,.mx (EN 3 eQ (E8 n))),(356009,356009,.bx (IJ false (B7 D (aN n)) D (p:Int) (D^(p+p-1)))),(356014,356014,.bx (eQ E)),(356011,356011,.bx [.row 356057 0 8 0 (x6 n).length]),(356057,356057,.rw 8 ((x6 n).map (KT true (JC n p D E))))]
theorem Agr(I:a8 L)(N:w8 L)(n:Nt)(hn:DD n)(X:Mem)(ks:u_)(sc:Nat)(hX:cX n sc X ks)(K:AV->Mem->Prop)
  (h1:∀i,i<=6->GC n.s.toNat (aN n) i->K (.j4 [.fn false 354 (L.num 354) [.ptr 356004 0 0 0,.ptr 356009 0 0 0,.ptr 356014 0 0 0,.ptr 356011 0 0 0],.int .i64 0]) (X++bE n (2^i) (G8 (aN n).flatten) (aA n)))
  (h2:(∀j,j<=6->ED (B8 n.s.toNat (aN n) j)=false)->K (.j4 [.x7 .nilFunc,.int .i64 14]) X) :
  A8 L 356 [.agg (BX n)] (ZC ks) X K:=by
 obtain⟨ep,hnx⟩:=iH hn;have o4:=hn.st;have vi:=hn.nl;have my:=(CP n).1 hn.du;obtain⟨_,_,⟨oa,_⟩,_⟩:=my;obtain⟨S,hS⟩:∃S:Nat,n.s=(S:Int):=⟨n.s.toNat,O'⟩;have um:n.s.toNat=S:=O'
 have hGR:∀j:Nat,j<S->NJ L 351 [.agg (BX n),.int .i64 (1+(j:Int))] 3 ((GN n (1+j)).map eQ):=λj hj=>by
  have:=AiM N n (1+j) hn O'
  rwa [show((1+j:Nat):Int)=1+(j:Int)by omega]at this
 have Le:Ev L 351 [.agg (BX n),.int .i64 0] (.sl false ((GN n 0).map eQ)):=yM N n 0 hn O';have hGk:∀k:Nat,k<n.nodes.length->Ev L 351 [.agg (BX n),.int .i64 (1+n.s+(k:Int))] (.sl false ((GN n (1+S+k)).map eQ)):=λk hk=>by
  have:=yM N n (1+S+k) hn O'
  rwa [show((1+S+k:Nat):Int)=1+n.s+(k:Int)by omega]at this
 have yd:=gD hn;rw[um]at yd;have py:=I6 N.toa6 1 O';rw[show((1:Int):Rat)=1 from rfl]at py;have s8:=eI n;rw[um]at s8;have Fq:=λ(j:Nat)(hj:j<S)=>AgY (n:=n) (j:=j) O'
 obtain⟨v,Lr,hv⟩:=Ajb N.tou5 true false (aN n) S 40000 (by have:=QN hn;rwa [um]at this) (dR hn) O' O';have Iq:=λ(v:Nat)(hv:v<S+1+n.nodes.length)(q q':Bool)=>zA N q q' (E8 n) v O' (λc hc=>by have:=vZ hn c hc;omega)
 rw[um]at h1 h2 hnx ep;have me:(aN n).length=S:=by rw[(QN hn).l,um]
 have Jq:=QN hn;rw[um]at Jq;obtain⟨D,E,qy,np,Er,Kx,uj,zo,Kw,ki⟩:=Uw hn;generalize hC:E8 n=C at*;have ya:=λp hW hP K hK=>Ags N n hn X ks sc hX (B7 (D:Rat) (aN n)) (D:Rat) ((D:Rat)^(p+p-1)) (E:Rat) p C (x6 n) (JC n p D E) (Y7 hn) (Yz hn).2 np.symm zo hW hP K hK
 rw[um]at ya;refine cU ?_;unfold cX at hX;rcases hX with⟨rfl,rfl⟩|⟨rfl,rfl⟩|⟨rfl,rfl⟩
 all_goals
  refine IX 1000 N.K4 rfl rfl ?_;(repeat' (apply AE<;>conv=>whnf))
  unfold U9;refine⟨⟨O',O',by simp only[ET];omega,O'⟩,?_⟩;rw[um];conv=>whnf
  skip
  refine DP (λi=>S-i) (λ(i:Nat)=>i<=S) (λi=>[(20,.int .i64 i)]) (λi=>[(356017,356017,.mx (mz C S i))]) [] [] 0 (by rw[pR];exact E') O' ?_;intro i p1 ih;have Dx:=pP (Q:=C) p1;by_cases hi:i<S
  ·have o4:=pQ (Fq i hi) hi
   have hG:=hGR i hi;generalize mz C S i=R0 at*;repeat' (first|apply AG<;>intro hc<;>try omega|apply AR;omega|apply AE)<;>conv=>whnf
   refine cW (enc:=eQ) (S+1+n.nodes.length) hG (yd _).symm ?_;conv=>whnf
   repeat' (first|apply A2;omega|fail)<;>conv=>whnf
   refine A2 (by rw[na,yd]) ?_;refine ZV (i:=i) O' O' ?_;rw[o4];conv=>whnf
   repeat' (first|apply AR;omega|fail)<;>conv=>whnf
   exact BC [] (ih (i+1) O' O')
  have ei:i=S:=O'
  clear ih;rw[ei,pO O'];repeat' (first|apply AG<;>intro hc<;>try omega|apply AP|apply AE)<;>conv=>whnf
  refine DP (λj=>S-j) (λ(j:Nat)=>j<=S) (λj=>[(34,.int .i64 j),(6,.row 356006 0 1 0 j)]) (λj=>[(356006,356006,.rw 1 (((aN n).take j).map λr=>[AV.sl false (r.map eQ)]))]) [] [] 0 (by rw[Pb];exact E') O' ?_;intro j r1 jh;by_cases hj:j<S
  ·obtain⟨w,hw⟩:∃w:Nat,n.next[j]?=some (w:Int):=by
    obtain⟨v,hv⟩:=N' n.next j
    have:=(hnx v (zM hv)).1
    exact⟨v.toNat,by rw[hv];congr 1;omega⟩
   have hw':n.next[(j:Int).toNat]?=some (w:Int):=hw
   have hwl:=(hnx w (zM hw)).2;have hR:=Iq w O';have haj:(aN n)[j]?=some (EU C w):=by rw[aN,sa,hw,hC];rfl
   have de:((aN n).take j).length=j:=by rw[za];omega
   have On:((aN n).take (j+1)).length=j+1:=by rw[za];omega
   have lu:=KG haj;generalize (aN n).take j=W at*;repeat' (first|apply AG<;>intro hc<;>try omega|refine A3 V' ?_ rfl ?_;omega|apply AE)<;>conv=>whnf
   refine VE (λ_=>rfl) rfl s8.symm ?_;conv=>whnf
   repeat' (first|apply CI|refine AD (hR _ _) ?_)<;>conv=>whnf
   refine C1 (l:=W) (z:=1) (bytes:=24) (enc:=λr:o_=>[AV.sl false (r.map eQ)]) (EU C w) rfl de.symm rfl O' O' ?_;conv=>whnf
   rw[<-lu,On];repeat' (first|apply AR;omega|fail)<;>conv=>whnf
   exact BC [(356006,356043)] (jh (j+1) O' O')
  have ej:j=S:=O'
  clear jh;rw[ej,zT O'];repeat' (first|apply AG<;>intro hc<;>try omega|apply AE)<;>conv=>whnf
  refine CR (enc:=λr:o_=>[AV.sl false (r.map eQ)]) (λ_=>rfl) rfl me.symm ?_;conv=>whnf
  rcases hv with⟨i,i1,i2,rfl⟩|⟨iz,rfl⟩
  ·obtain⟨g1,_,g3⟩:=RB i1
   have ui:=h1 i i1 i2;clear h1 h2 Iq hGR Fq;rw[qy]at Lr ui;rw[np]at ui;generalize 2^i=p at*;repeat' (first|apply AG<;>intro hc<;>try omega|apply AP|refine AD (Lr) ?_|refine AD (Le) ?_|refine AD (py) ?_)<;>conv=>whnf
   have hWk:∀s∈x6 n,Ev L 304 [.agg (IJ false (B7 (D:Rat) (aN n)) (D:Rat) (p:Int) ((D:Rat)^(p+p-1))),.sl false ((s.b.map (· * (E:Rat))).map eQ)] (.agg (VX (JC n p D E s).1 (JC n p D E s).2)):=λs hs=>by
    have:=Ajc N.tou5 false (B7 (D:Rat) (aN n)) (D:Rat) ((D:Rat)^(p+p-1)) (FO (aN n) s.b D E) S p 680000 640000 90000000 (Uy _ Jq) Kw uj (ki s hs) (λj=>by rw[FO,na,sZ me ((Y7 hn s hs).bl hn |>.trans um)]) (tC _ _ _ _) O' ⟨g3,g1⟩ O' O' O'
    rwa [tD]at this
   have Lo:=Amq (n:=n) g3 (D:Rat) (E:Rat);refine C0 (λk=>n.nodes.length-k) (λ(k:Nat)=>k<=n.nodes.length) (λk=>[(61,.int .i64 k)]) (λk=>[(356011,356011,.bx [.row 356057 0 8 0 (E0 n 0 1::DK n k).length]),(356057,356057,.rw 8 ((E0 n 0 1::DK n k).map (KT false (JC n p D E))))]) 0 O' ?_;intro k k1 kh;have de:=jS n k;have lu:=sB n k;by_cases hk:k<n.nodes.length
   ·obtain⟨nd,hnd⟩:=N' n.nodes k hk
    have si:n.nodes[(k:Int).toNat]?=some nd:=hnd;have Il:=AiV N n hn k nd hnd;have Fb:=nJ N.toa6 (WB n nd).1 O';have hgk:=hGk k hk;rw[Y5,hnd]at lu;by_cases hp:0<D4 n nd
    ·have ym:=Ana hp
     simp only[if_pos hp,Eb]at lu;generalize hls:E0 n 0 1::DK n k=ls at*;have gq:(E0 n 0 1::DK n (k+1))=ls++[E0 n (1+n.s.toNat+k) (D4 n nd)]:=by rw[lu,<-hls];rfl
     have sf:ls.length<=6:=by rw[<-hls,dc];omega
     have iu:(E0 n 0 1::DK n (k+1)).length=ls.length+1:=by rw[gq,Ma];rfl
     repeat' (first|apply AG<;>intro hc<;>try omega|apply AR;omega|apply CI|apply AE|refine AD (Il) ?_|refine AD (Fb) ?_|refine AD (hgk) ?_)<;>conv=>whnf
     refine C1 (l:=ls) (z:=8) (bytes:=160) (enc:=KT false (JC n p D E)) (E0 n (1+n.s.toNat+k) (D4 n nd)) (by rw[um];rfl) rfl rfl O' O' ?_;conv=>whnf
     rw[<-gq];repeat' (first|apply AR;omega|fail)<;>conv=>whnf
     exact BC [(356057,356081)] (kh (k+1) O' O')
    ·have ym:=Am9 hp
     simp only[if_neg hp,Cd,yc]at lu;repeat' (first|apply AG<;>intro hc<;>try omega|apply AR;omega|apply AE|refine AD (Il) ?_|refine AD (Fb) ?_)<;>conv=>whnf
     rw[<-lu];exact BC [] (kh (k+1) O' O')
   have ek:k=n.nodes.length:=O'
   clear kh;rw[ek,show E0 n 0 1::DK n n.nodes.length=x6 n from rfl];have ya:=λK hK=>ya p hWk Lo K hK
   unfold bE at ui;rw[um,hC]at ui;repeat' (first|apply AG<;>intro hc<;>try omega|apply AE)<;>conv=>whnf
   refine cV _ _ ?_ ?_ (ya _ ?_)
   ·first|exact⟨rfl,rfl,rfl,rfl,rfl,rfl,rfl,trivial⟩|exact⟨rfl,rfl,rfl,rfl,rfl,rfl,rfl,rfl,trivial⟩
   ·rfl
   (conv=>whnf)
   skip
   refine⟨rfl,_,rfl,?_⟩;conv=>whnf
   refine⟨_,?_,ui⟩;first|exact⟨rfl,rfl,rfl,rfl,rfl,rfl,rfl,trivial⟩|exact⟨rfl,rfl,rfl,rfl,rfl,rfl,rfl,rfl,trivial⟩
  ·repeat' (first|apply AG<;>intro hc<;>try omega|refine AD (Lr) ?_)<;>conv=>whnf
   refine⟨rfl,_,rfl,?_⟩;conv=>whnf
   refine⟨_,?_,h2 iz⟩;first|exact⟨rfl,trivial⟩|exact⟨rfl,rfl,trivial⟩
def JH(n:Nt)(p:Nat)(D E:Rat)(cO:o_)(s:B4):Rat:=F8 D (λj=>BW (BQ cO (FO (aN n) s.b D E j))) (p+p)+BJ cO*(JC n p D E s).2
theorem Aj5{n:Nt}{p v:Nat}{D E O:Rat}(hp:1<=p)(hD:0<D)(hE:0<E)(hO:0<O)(s:B4) :
  s.l*BW (s.g.getD v 0)+s.l*JH n p D E ((EU (E8 n) v).map (· * O)) s/(D^(p+p-1)*(E*O))=s.l*G9 (JW n s v) p:=by
 have:=AnQ (S:=JW n s v) hp hD hE hO
 have e:JH n p D E ((EU (E8 n) v).map (· * O)) s/(D^(p+p-1)*(E*O))=HY (KV (JW n s v).a (JW n s v).b (JW n s v).c) (p+p)+BJ (JW n s v).c*HY (λj=>NT (JW n s v).a (JW n s v).b (p+j)) p:=this;rw[show s.l*JH n p D E ((EU (E8 n) v).map (· * O)) s/(D^(p+p-1)*(E*O))=s.l*(JH n p D E ((EU (E8 n) v).map (· * O)) s/(D^(p+p-1)*(E*O)))by rw[ub,ub,pe],e,<-Rat.mul_add,G9];rfl
theorem Agt(N:w8 L)(n:Nt)(hn:DD n)(i:Nat)(hi:i<=6)(w:Nat)(hv:w<n.s.toNat+1+n.nodes.length)(X:Mem)(ks:u_)(s1:Nat)(h:Rat)(hX:(X=[(1,s1,.bx (BX n))]/\ks=[1])\/(X=[(1,s1,.bx (BX n)),(6,6,.bx (eQ h))]/\ks=[1,6])\/X=[(3,s1,.bx (BX n)),(6,6,.bx [.bool false,.nil,.nil])]/\ks=[3,6])(K:AV->Mem->Prop)
  (hK:Bt 400000000000 (J7 n (2^i) w)->Bt 400000000000 (P7 n (2^i) w)->K (.agg (eQ (J7 n (2^i) w)++eQ (P7 n (2^i) w))) (X++bE n (2^i) (G8 (aN n).flatten) (aA n))) :
  A8 L 354 [.int .i64 (w:Int),.ptr 356004 0 0 0,.ptr 356009 0 0 0,.ptr 356014 0 0 0,.ptr 356011 0 0 0] (ZC (ks++[356004,356009,356014,356011])) (X++bE n (2^i) (G8 (aN n).flatten) (aA n)) K:=by
 have o4:=hn.st;have vi:=hn.nl;obtain⟨_,_,⟨oa,_⟩,_⟩:=(CP n).1 hn.du;obtain⟨S,hS⟩:∃S:Nat,n.s.toNat=S:=⟨_,rfl⟩;obtain⟨g1,_,g3⟩:=RB hi;obtain⟨D,E,qy,np,Er,Kx,uj,zo,Kw,ki⟩:=Uw hn;have yd:=gD hn;have Iq:=λ(q q':Bool)=>zA N q q' (E8 n) w (by rw[eI];omega) (λc hc=>by have:=vZ hn c hc;omega)
 have s8:=eI n;have De:=rD n w;have tk:=rC hn w;have xi:=λq=>mY N.tou5 q false [EU (E8 n) w] 40000 (λr hr=>by obtain rfl:=gf.1 hr;exact tk) (by rw[Ro];omega) Z' O'
 rw[Ro]at xi;obtain⟨O,eO',o1,o2,o3⟩:=oT De tk;have bO:Bt 160000 (O:Rat):=(iE o2).le (by have:=zR 40000 (show n.s.toNat<=4 by omega);omega);have Ja:Bs 200000 ((EU (E8 n) w).map (· * (O:Rat))):=λx hx=>((o3 x hx).le (by have:=zR 40000 (show n.s.toNat<=4 by omega);omega)).bt
 have hval:=λs=>Aj5 (n:=n) (p:=2^i) (v:=w) g3 (WF Er) (WF Kx) (WF o1) s
 have Js:J7 n (2^i) w=(0+(E0 n 0 1).l*BW ((E0 n 0 1).g.getD w 0))+(0+(E0 n 0 1).l*JH n (2^i) D E ((EU (E8 n) w).map (· * (O:Rat))) (E0 n 0 1))/((D:Rat)^(2^i+2^i-1)*((E:Rat)*(O:Rat))):=by
  have:=hval (E0 n 0 1)
  rw[Jg,Jg,this,show(E0 n 0 1).l=1 from rfl,yg];rfl
 have gx:P7 n (2^i) w=aw (λs=>s.l*BW (s.g.getD w 0)) (DK n n.nodes.length)+aw (λs=>s.l*JH n (2^i) D E ((EU (E8 n) w).map (· * (O:Rat))) s) (DK n n.nodes.length)/((D:Rat)^(2^i+2^i-1)*((E:Rat)*(O:Rat))):=by
  rw[Alz];exact Aly λs _=>(hval s).symm
 have hpD:=WF Er;have hpE:=WF Kx;have hpO:=WF o1;rw[qy,np]at hK⊢;rw[eO']at xi;clear eO' qy np o1 o2 o3 hval;generalize hp:2^i=p at*;generalize (D:Rat)=D at*;generalize (E:Rat)=E at*;generalize (O:Rat)=O at*;have hTc:=λq=>mZ N.tou5 q (EU (E8 n) w) O 40000 160000 tk bO O' O' O'
 have Mh:((EU (E8 n) w).map (· * O)).length=S:=by rw[na,De,hS]
 generalize hcd:(EU (E8 n) w).map (· * O)=cO at*;have hsz:∀s∈x6 n,Bt 60000000000 (JH n p D E cO s)/\Bt 6000000000 (JC n p D E s).2:=λs hs=>by
  have q1:∀j,j<p+p->Bt (4*(200000+90000000+1)) (BW (BQ cO (FO (aN n) s.b D E j))):=λj hj=>JG ((Ja.dot (ki s hs j O')).le (zR _ O'))
  have q2:=(aV uj (p+p) q1).le (zR _ (show p+p<=128 by omega));have q3:Bt (4*(200000+1)) (BJ cO):=(RF Ja).le (zR _ O');have q4:Bt 6000000000 (JC n p D E s).2:=(aV uj p λj hj=>QZ (ki s hs (p+j) O')).le (by
   have:=zR (640000+90000000+1) g1
   omega)
  exact⟨(q2.add (q3.mul q4)).le O',q4⟩
 have hGt:∀s∈x6 n,∀q,Ev L 305 [.agg (IJ false (B7 D (aN n)) D (p:Int) (D^(p+p-1))),.sl q (cO.map eQ),.agg (.sl true (QS (JC n p D E s).1)::J3 true (JC n p D E s).2)] (.agg (eQ (JH n p D E cO s))):=λs hs q=>
  Ai8 N.tou5 false q (B7 D (aN n)) D (JC n p D E s).2 (D^(p+p-1)) (p:Int) cO (FO (aN n) s.b D E) S (p+p) 640000 200000 90000000 6000000000 uj Ja Mh (ki s hs) (λj=>by rw[FO,na,sZ (QN hn).l ((Y7 hn s hs).bl hn),hS]) (hsz s hs).2 O' O' O' O' O' O'
 have mj:=Y7 hn;have Oc:∀s∈DK n n.nodes.length,s∈x6 n:=λs hs=>Da _ hs
 have zp:=jS n n.nodes.length;have kb:Bt 82000000 (D^(p+p-1)):=(qL uj _).le (by
  have:=zR 640000 (show p+p-1<=127 by omega)
  omega)
 have ka:=KU N.toa6 zo bO O' O';have mq:=KU N.toa6 kb (zo.mul bO) O' O';have xx:Bt 84000000 (D^(p+p-1)*(E*O)):=(kb.mul (zo.mul bO)).le O';have o7:D^(p+p-1)*(E*O)≠0:=by
  have Gv:∀j:Nat,0<D^j:=λj=>by
   induction j with
   |zero=>rw[Cc];decide
   |succ j ih=>rw[pc];exact Fc ih hpD
  have:=Fc (Gv (p+p-1)) (Fc hpE hpO)
  grind
 have tj:=I6 N.toa6 0 O';rw[show((0:Int):Rat)=0 from rfl]at tj;have hx:∀s∈x6 n,s.g[((w:Nat):Int).toNat]?=some (s.g.getD w 0):=λs hs=>by
  have h1:=(mj s hs).gl;obtain⟨x,hx⟩:=N' s.g w;rw[nT hx];exact hx
 have hAb:=λ(s:B4)(hs:s∈x6 n)=>fK N.tobf (YE (mj s hs).gb w) O'
 have hML:=λ(s:B4)(hs:s∈x6 n)=>KU N.toa6 (mj s hs).lb (JG (YE (mj s hs).gb w)) O' O'
 have hMG:=λ(s:B4)(hs:s∈x6 n)=>KU N.toa6 (mj s hs).lb (hsz s hs).1 O' O'
 have Bk:∀s∈x6 n,Bt 40001 (s.l*BW (s.g.getD w 0)):=λs hs=>((mj s hs).lb.mul (JG (YE (mj s hs).gb w))).le O'
 have Fp:∀s∈x6 n,Bt 60000000001 (s.l*JH n p D E cO s):=λs hs=>((mj s hs).lb.mul (hsz s hs).1).le O'
 have Em:=λ(s:B4)(hs:s∈x6 n)=>J4 N.toa6 (Bt.zero 1) (Bk s hs) O' O'
 have Eo:=λ(s:B4)(hs:s∈x6 n)=>J4 N.toa6 (Bt.zero 1) (Fp s hs) O' O'
 have Dd:∀t,Bt 300000 (aw (λs=>s.l*BW (s.g.getD w 0)) ((DK n n.nodes.length).take t)):=λt=>(Ss λs hs=>Bk s (Oc s (yb hs))).le (by
  have:=zR (40001+1) (show((DK n n.nodes.length).take t).length<=5 by rw[za];omega)
  omega)
 have Md:∀t,Bt 301000000000 (aw (λs=>s.l*JH n p D E cO s) ((DK n n.nodes.length).take t)):=λt=>(Ss λs hs=>Fp s (Oc s (yb hs))).le (by
  have:=zR (60000000001+1) (show((DK n n.nodes.length).take t).length<=5 by rw[za];omega)
  omega)
 have En:=λ(s:B4)(hs:s∈x6 n)(t:Nat)=>J4 N.toa6 (Dd t) (Bk s hs) O' O'
 have Ep:=λ(s:B4)(hs:s∈x6 n)(t:Nat)=>J4 N.toa6 (Md t) (Fp s hs) O' O'
 have eu:E0 n 0 1∈x6 n:=Ca;have vl:(x6 n)[(0:Int).toNat]?=some (E0 n 0 1):=rfl;have Ns:∀(t:Nat)(s:B4),(DK n n.nodes.length)[t]?=some s->(x6 n)[((t+1:Nat):Int).toNat]?=some s:=λt s h=>h
 have ku:(x6 n).length=(DK n n.nodes.length).length+1:=rfl;have hF0:=λl=>(rfl:aw (λs=>s.l*BW (s.g.getD w 0)) (oj 0 l)=0)
 have Le:=λl=>(rfl:aw (λs=>s.l*JH n p D E cO s) (oj 0 l)=0)
 have hFt:=λ(t:Nat)(s:B4)(h:(DK n n.nodes.length)[t]?=some s)=>gV (f:=λs=>s.l*BW (s.g.getD w 0)) h
 have Lg:=λ(t:Nat)(s:B4)(h:(DK n n.nodes.length)[t]?=some s)=>gV (f:=λs=>s.l*JH n p D E cO s) h
 have jd:=(Bt.zero 1).add (Bk _ eu);have Jt:=(Bt.zero 1).add (Fp _ eu);have Lb:=Dd (DK n n.nodes.length).length;have Ij:=Md (DK n n.nodes.length).length;have Es:=mQ N.toa6 Jt xx O' O' o7;have xg:=J4 N.toa6 jd (Jt.uh xx) O' O';have Bb:=mQ N.toa6 Ij xx O' O' o7;have xh:=J4 N.toa6 Lb (Ij.uh xx) O' O';have Ks:=(jd.add (Jt.uh xx)).le (show _<=400000000000 by omega);have Ii:=(Lb.add (Ij.uh xx)).le (show _<=400000000000 by omega);rw[vb]at Bb xh Ii;rw[<-Js]at Ks xg;rw[<-gx]at Ii xh;have Ll:=hK Ks Ii;obtain⟨xa,hxa⟩:∃xa:B4->Rat,∀s,xa s=BW (s.g.getD w 0):=⟨_,λ_=>rfl⟩;obtain⟨xm,Dv⟩:∃xm:B4->Rat,∀s,xm s=s.l*BW (s.g.getD w 0):=⟨_,λ_=>rfl⟩;obtain⟨ga,Mu⟩:∃ga:B4->Rat,∀s,ga s=JH n p D E cO s:=⟨_,λ_=>rfl⟩;obtain⟨gm,uz⟩:∃gm:B4->Rat,∀s,gm s=s.l*JH n p D E cO s:=⟨_,λ_=>rfl⟩;obtain⟨F,hF⟩:∃F:Nat->Rat,∀t,F t=aw (λs=>s.l*BW (s.g.getD w 0)) ((DK n n.nodes.length).take t):=⟨_,λ_=>rfl⟩;obtain⟨G,hG⟩:∃G:Nat->Rat,∀t,G t=aw (λs=>s.l*JH n p D E cO s) ((DK n n.nodes.length).take t):=⟨_,λ_=>rfl⟩;have e1:∀s∈x6 n,Ev L 256 [.agg (eQ (s.g.getD w 0))] (.agg (eQ (xa s))):=λs hs=>by rw[hxa];exact hAb s hs
 have e2:∀s∈x6 n,Ev L 99 [.agg (eQ s.l),.agg (eQ (xa s))] (.agg (eQ (xm s))):=λs hs=>by rw[hxa,Dv];exact hML s hs
 have e4:∀s∈x6 n,∀q,Ev L 305 [.agg (IJ false (B7 D (aN n)) D (p:Int) (D^(p+p-1))),.sl q (cO.map eQ),.agg (.sl true (QS (JC n p D E s).1)::J3 true (JC n p D E s).2)] (.agg (eQ (ga s))):=λs hs q=>by rw[Mu];exact hGt s hs q
 have e5:∀s∈x6 n,Ev L 99 [.agg (eQ s.l),.agg (eQ (ga s))] (.agg (eQ (gm s))):=λs hs=>by rw[Mu,uz];exact hMG s hs
 have e3:∀s∈x6 n,∀t,(DK n n.nodes.length)[t]?=some s->Ev L 98 [.agg (eQ (F t)),.agg (eQ (xm s))] (.agg (eQ (F (t+1)))):=λs hs t h=>by
  rw[hF,hF,Dv,gV h];exact En s hs t
 have e6:∀s∈x6 n,∀t,(DK n n.nodes.length)[t]?=some s->Ev L 98 [.agg (eQ (G t)),.agg (eQ (gm s))] (.agg (eQ (G (t+1)))):=λs hs t h=>by
  rw[hG,hG,uz,gV h];exact Ep s hs t
 have z3:=Em _ eu;have z6:=Eo _ eu;rw[<-Dv]at z3 xg;rw[<-uz]at z6 Es xg;have Et:F (DK n n.nodes.length).length=aw (λs=>s.l*BW (s.g.getD w 0)) (DK n n.nodes.length):=by rw[hF,vb]
 have Bc:G (DK n n.nodes.length).length=aw (λs=>s.l*JH n p D E cO s) (DK n n.nodes.length):=by rw[hG,vb]
 rw[<-Et,<-Bc]at xh;rw[<-Bc]at Bb;have Kz:F 0=0:=by rw[hF];rfl
 have Lf:G 0=0:=by rw[hG];rfl
 clear hK Ks Ii Dd Md Bk Fp hsz jd Jt Lb Ij Js gx ki Ja tk uj zo Kw xx kb bO hAb hML hMG En Ep hGt Em Eo hF hG hxa Dv Mu uz hF0 Le hFt Lg Et Bc o7 hpD hpE hpO;obtain⟨P,hP⟩:∃P:B4->List (o_)×Rat,P=JC n p D E:=⟨_,rfl⟩;rw[<-hP]at e4;unfold bE at Ll⊢;rw[<-hP]at Ll⊢;clear hP;generalize 0+xm (E0 n 0 1)=r0 at*;generalize 0+gm (E0 n 0 1)=w0 at*;generalize D^(p+p-1)*(E*O)=dv at*;generalize w0/dv=q0 at*;generalize G (DK n n.nodes.length).length/dv=q1 at*;generalize E*O=EO at*;generalize J7 n p w=ra at*;generalize P7 n p w=rb at*;generalize D^(p+p-1)=la at*;generalize hTT:DK n n.nodes.length=T at*;generalize hSS:x6 n=SS at*;generalize E0 n 0 1=s0 at*;generalize EU (E8 n) w=cw at*;clear mj hcd yd;refine cU ?_;rcases hX with⟨rfl,rfl⟩|⟨rfl,rfl⟩|⟨rfl,rfl⟩
 all_goals
  refine EK 1000 N.M6 rfl rfl ?_;(repeat' (apply AE<;>conv=>whnf))
  refine VE (λ_=>rfl) rfl s8.symm ?_;conv=>whnf
  repeat' (first|refine JF rfl ?_|refine AD (Iq _ _) ?_|refine AD (xi _) ?_|refine AD (hTc _) ?_|refine AD (ka) ?_|refine AD (mq) ?_|refine AD (tj) ?_)<;>conv=>whnf
  refine IV ?_;repeat' (first|apply AG<;>intro hc<;>try omega|apply A2;omega|refine kJ ?_ (λ_=>rfl) (λv hv=>?_);omega|apply AE)<;>conv=>whnf
  cases vl.symm.trans hv;have nc:=hx _ eu;have f1:=e1 _ eu;have f2:=e2 _ eu;have f4:=e4 _ eu;have f5:=e5 _ eu;repeat' (first|apply A2;omega|apply AR;omega|refine A3 V' ?_ rfl ?_;omega|refine AD (f1) ?_|refine AD (f2) ?_|refine AD (z3) ?_|refine AD (f4 _) ?_|refine AD (f5) ?_|refine AD (z6) ?_)<;>conv=>whnf
  clear f1 f2 f4 f5;refine DP (λt=>T.length-t) (λ(t:Nat)=>t<=T.length) (λt=>[(41,.int .i64 (t+1:Nat))]) (λt=>[(354010,354010,.bx (eQ r0++eQ (F t))),(354011,354011,.bx (eQ w0++eQ (G t)))]) [] [] 0 (by rw[Kz,Lf];exact E') O' ?_;intro t t1 th;by_cases ht:t<T.length
  ·obtain⟨s,hs⟩:=N' T t ht
   have Gx:=Ns t s hs;have gd:=Oc s (zM hs);have nc:=hx _ gd;have f1:=e1 _ gd;have f2:=e2 _ gd;have f3:=e3 _ gd t hs;have f4:=e4 _ gd;have f5:=e5 _ gd;have f6:=e6 _ gd t hs;have th':=th (t+1) O' O';clear th;rcases Jf t with rfl|ht0
   all_goals
    repeat' (first|apply AG<;>intro hc<;>try omega|apply A2;omega|refine U7 ?_ (λ_=>rfl) (λv hv=>?_);omega|apply AE)<;>conv=>whnf
    cases Gx.symm.trans hv;repeat' (first|apply A2;omega|apply AR;omega|refine A3 V' ?_ rfl ?_;omega|refine AD (f1) ?_|refine AD (f2) ?_|refine AD (f3) ?_|refine AD (f4 _) ?_|refine AD (f5) ?_|refine AD (f6) ?_)<;>conv=>whnf
    exact A9 [] E' th'
  have et:t=T.length:=O'
  clear th;rw[et];repeat' (first|apply AG<;>intro hc<;>try omega|apply AE)<;>conv=>whnf
  refine IV ?_;repeat' (first|apply AG<;>intro hc<;>try omega|apply A2;omega|apply AR;omega|apply AE|refine AD (Es) ?_|refine AD (xg) ?_)<;>conv=>whnf
  refine IV ?_;repeat' (first|apply AG<;>intro hc<;>try omega|apply A2;omega|apply AR;omega|apply AE|refine AD (Bb) ?_|refine AD (xh) ?_)<;>conv=>whnf
  refine IV ?_;repeat' (first|apply AG<;>intro hc<;>try omega|apply A2;omega|apply AE)<;>conv=>whnf
  refine⟨rfl,?_⟩;conv=>whnf
  refine⟨_,?_,Ll⟩;first|exact⟨rfl,rfl,rfl,rfl,rfl,rfl,rfl,trivial⟩|exact⟨rfl,rfl,rfl,rfl,rfl,rfl,rfl,rfl,trivial⟩
def XM(n:Nt):Prop := ∀j,j<=6->ED (B8 n.s.toNat (aN n) j)=false
theorem Qn{w:Wd}(h:WV w):0<=HK w/\HK w<=8388607:=by
 rw[HK,if_pos h];unfold WV at h;have h1:=RC (n:=w.b-1) (m:=23) O';have h2:=GQ (w.b-1);have h3:pw 23=8388608:=by unfold pw;rfl
 omega
def GU(n:Nt)(i v:Nat)(x:Int):Rat:=J7 n (2^i) v*(x:Rat)+P7 n (2^i) v
theorem Ait(I:a8 L)(N:df L)(n:Nt)(hn:DD n)(v:Nat)(hv:v<n.s.toNat+1+n.nodes.length)(x:Int)(hx:0<=x/\x<=HK n.d) :
  ∃w,Ev L 360 [.agg (BX n),.int .i64 (v:Int),.int .i64 x] w/\((∃i,i<=6/\GC n.s.toNat (aN n) i/\Bt 900000000000 (GU n i v x)/\w = .j4 [.agg (eQ (GU n i v x)),.int .i64 0])\/(XM n/\w = .j4 [.agg [.bool false,.sl false [],.sl false []],.int .i64 14])):=by
 obtain⟨Cp,_,⟨oa,_⟩,_⟩:=(CP n).1 hn.du;have hhl:=Qn Cp;have o4:=hn.st;have ep:=hn.nl;have B:w8 L:=N.tow8;have hU:=AjN I B n hn;have hH:=mR n.d I;generalize hhe:HK n.d=hi at*;have h24:(2:Nat)^24=16777216:=rfl;have ke:=Bt.ofInt (show x.natAbs<=2^24 by omega);refine Ev.xE N.S9 rfl rfl ?_;repeat' (first|apply AG<;>intro hc<;>try omega|apply AR;omega|apply AP|apply AE|refine AD (hU) ?_|refine AD (hH) ?_)<;>conv=>whnf
 refine cV [3,6] [(3,3,.bx (BX n)),(6,6,.bx [.bool false,.nil,.nil])] ⟨rfl,rfl,trivial⟩ rfl (Agr I B n hn _ _ 3 (Or.inr (Or.inr ⟨rfl,rfl⟩)) _ (λi i1 i2=>?_) (λyq=>?_))
 ·obtain⟨g1,_,g3⟩:=RB i1
  have Mi:=λ(K:AV->Mem->Prop) hK=>Agt B n hn i i1 v hv [(3,3,.bx (BX n)),(6,6,.bx [.bool false,.nil,.nil])] [3,6] 3 0 (Or.inr (Or.inr ⟨rfl,rfl⟩)) K hK
  have hbt:GU n i v x=J7 n (2^i) v*(x:Rat)+P7 n (2^i) v:=rfl;repeat' (first|apply AG<;>intro hc<;>try omega|apply A2;omega)<;>conv=>whnf
  refine cV _ _ ?_ ?_ (Mi _ ?_)
  ·exact⟨rfl,rfl,rfl,rfl,rfl,rfl,rfl,rfl,trivial⟩
  ·rfl
  intro b1 b2;have Kq:=AiE B (J7 n (2^i) v) (P7 n (2^i) v) x 400000000000 b1 b2 O' O';rw[<-hbt]at Kq;have hB9:Bt 900000000000 (GU n i v x):=by
   rw[hbt];exact((b1.mul ke).add b2).le O'
  generalize J7 n (2^i) v=ra at*;generalize P7 n (2^i) v=rb at*;obtain⟨bo,Mg⟩:∃bo,GU n i v x=bo:=⟨_,rfl⟩;rw[Mg]at Kq hB9;conv=>whnf
  (repeat' (refine AD (Kq) ?_<;>conv=>whnf))
  exact⟨_,AU rfl (by
   have:=DG bo
   simp only[AY,BI,and_true,true_and]at this⊢;exact this),Or.inl ⟨i,i1,i2,by rw[Mg];exact hB9,by rw[Mg]⟩⟩
 ·repeat' (first|apply AG<;>intro hc<;>try omega|fail)<;>conv=>whnf
  exact⟨_,AU rfl (by simp[AY,BI,DB]),Or.inr ⟨yq,rfl⟩⟩
end Go.Eng
