/-
  Limit cycles (layer 31), the reference: boxes, numbers of states, the cycle that begins with a state.
-/
import Derived.Test.YtmhfodhmngfoiaaGreatDoorB5
import Derived.Test.YtmhfodhmngfoiaaGreatDoorB1
import Derived.Test.YtmhfodhmngfoiaaGreatDoorB4
import Derived.Test.YtmhfodhmngfoiaaGreatDoorB3
import Derived.ProofKit
import Derived.OpenShut
import Derived.ChangeOld
import Derived.WalkKit
import Derived.WideShapes
import Derived.ChangeArms
set_option linter.unusedSimpArgs false
set_option linter.unusedVariables false
set_option linter.unnecessarySimpa false
set_option maxHeartbeats 16000000
open Bool renaming and_eq_true->Ld,false_and->pf,false_eq_true->ug,true_and->Cg
open Function renaming comp->zi
open Int renaming toNat_natCast->Ga,natAbs_natCast->Ob,toNat_of_nonneg->Kb,eq_ofNat_of_zero_le->Jd,mul_ediv_mul_of_pos_left->qf,natAbs_mul->ff,ediv_emod_unique->Bf,natCast_ediv->Ng,natCast_mul->Kg,natAbs_neg->Hg,mul_nonneg->Eg,mul_le_mul->Dg,mul_comm->nh,mul_neg->Fh,not_lt->Dh,not_le->Bh
open List renaming length_take->za,getElem?_map->ya,length_map->xa,getD_eq_getElem?_getD->ua,mem_map->sa,map_congr_left->ka,replicate->ja,length_append->ga,getElem?_range->Pa,range->Oa,mem_cons_of_mem->Ma,mem_cons_self->La,length_replicate->Ha,all_eq_true->Da,take_add_one->zb,take_zero->xb,mem_of_mem_take->tb,append_nil->mb,take_length->Pb,map_map->Jb,length_cons->Hb,mem_range->Gb,getElem?_append_right->Fb,drop_eq_getElem_cons->Db,length_set->xc,nil_append->Pc,flatten_cons->Mc,drop_of_length_le->Lc,append_assoc->Kc,set_append_right->Jc,getElem?_eq_none->Ic,mem_flatten->Ec,range_succ->Dc,map_append->Cc,foldl_cons->Bc,getElem?_append_left->dd,map_cons->cd,length_eq_zero_iff->Qd,length_drop->Od,getElem?_replicate->Md,take_append_drop->Dd,drop_zero->Bd,flatten_append->ze,set_cons_zero->je,getElem?_drop->ie,set_set->Oe,getElem?_set->Ke,cons_append->Ie,eq_nil_of_length_eq_zero->Ge,mem_append->Ce,mem_cons->ef,length_singleton->af,replicate_succ'->Lf,replicate_zero->Df,replicate_succ->Cf,mem_singleton->xg,map_singleton->wg,foldl_append->ag,ext_getElem?->Rg,set_append->Pg,all_append->Og,length->ph
open Nat renaming pow_le_pow_right->Fa,le_trans->vb,mul_le_mul->ob,le_refl->ib,zero_add->Mb,succ_mul->Ib,sub_self->Qc,add_comm->pd,pow_succ->Hd,add_zero->Gd,min_eq_left->Ed,one_le_two_pow->de,mul_comm->Je,pow_add->De,le_mul_of_pos_right->df,pow_le_pow_left->zg,pos_of_ne_zero->gg,mod_lt->eg,eq_zero_or_pos->cg,div_le_self->Lg,mul_assoc->zh,lt_irrefl->yh,add_assoc->xh,pow_pos->Ph,pow_mul->Oh,one_mul->Lh,mul_two->Kh,mul_pos->Jh,mul_add->Ih,add_mul->Hh
open Option renaming map_some->Ja,toList_some->db,getD_some->Qb,toList_none->zd,some.injEq->ue,some.inj->ng
open Rat renaming intCast_natCast->Ba,div_def->yb,divInt->rb,natCast_mul->Lb,pow_succ->Cb,add_zero->zc,intCast_mul->tc,zero_mul->oc,pow_zero->dc,mul_pos->Oc,mul_inv_cancel->gd,mul_assoc->xe,divInt_ofNat->He,mul_one->Ee,num_natCast->xf,natCast_inj->vf,den_natCast->sf,mul_nonneg->gf,one_mul->Kf,neg_num->Jf,mul_lt_mul_right->Hf,sub_eq_add_neg->qg,mkRat_eq_div->Qg,intCast_inj->Mg,num_nonneg->Ig,neg_zero->wh,le_trans->qh,neg_den->fh,le_refl->eh,add_mul->ah,not_le->Eh
namespace Go.e9
open F
attribute [local irreducible] AA AF AX AC B4 AU A7 A8 BV BI B0 DS BG A1 BU CB AB A2 AH pw CG B3 CR DK C2 CO CJ BL CY C3 C4 CX C7
variable {L:Lib}
set_option maxRecDepth 8000
theorem AiP(N:w8 L)(s box:List Int)(q1 q2:Bool)(hl:s.length=box.length)(hb:∀b∈box,0<=b/\b<=9223372036854775807)(hx:box.length<9223372036854775808):Ev L 442 [.sl q1 (s.map AZ),.sl q2 (box.map AZ)] (.bool (J7 box s)):=by
 refine Ev.x N.QC rfl rfl ?_;(repeat' (apply AE<;>conv=>whnf))
 refine DG (λi=>s.length-i) (λ(i:Nat)=>i<=s.length/\J7 (box.drop i) (s.drop i)=J7 box s) (λi=>[(5,.int .i64 i)]) (λ_=>[]) 0 ⟨O',rfl⟩ ?_;intro i ⟨p1,p2⟩ ih;by_cases hi:i<s.length
 ·obtain⟨v,hv⟩:=N' s i hi
  obtain⟨b,iv⟩:=N' box i;have qe:=hb b (zM iv);rw[DC hv,DC iv,J7]at p2;repeat' (first|apply AG<;>intro hc<;>try omega|apply AR;omega|apply B4.neg;omega|apply AP|refine A5 V' ?_ rfl ?_;omega|apply AE)<;>conv=>whnf
  ·rw[decide_eq_false O',pf]at p2
   exact E9 p2
  ·rw[decide_eq_false O',pf]at p2
   exact E9 p2
  ·rw[decide_eq_true O',Cg]at p2
   exact BF [] (ih (i+1) O' ⟨O',p2⟩)
 ·rw[E6 O',E6 O']at p2
  repeat' (first|apply AG<;>intro hc<;>try omega|apply AP|apply AE)<;>conv=>whnf
  exact E9 p2
theorem zV(N:w8 L)(box:List Int)(q:Bool)(h0:∀b∈box,0<=b/\b<=8388607)(hx:box.length<9223372036854775808):Ev L 443 [.sl q (box.map AZ)] (.int .i64 (if JN box 1 then 4097 else(BX box:Int))):=by
 refine Ev.x N.P9 rfl rfl ?_;(repeat' (apply AE<;>conv=>whnf))
 refine EE (λi _=>box.length-i) (λ(i:Nat)(a:Int)=>i<=box.length/\0<=a/\a<=4096/\JN box 1=JN (box.drop i) a/\(BX box:Int)=a*(BX (box.drop i):Int)) (λi a=>[(4,.int .i64 i),(3,.int .i64 a)]) (λ_ _=>[]) 0 1 ⟨O',O',O',rfl,by rw[Bd,Int.one_mul]⟩ ?_;intro i a ⟨p1,p2,p3,p4,p5⟩ ih;by_cases hi:i<box.length
 ·obtain⟨b,iv⟩:=N' box i hi
  obtain⟨jn,qe⟩:=h0 b (zM iv);have Cw:0<=a*(2*b+1):=Eg p2 O';have ix:a*(2*b+1)<=4096*16777215:=Dg p3 O' O' O';rw[DC iv,JN]at p4;rw[DC iv,BX,Kg,Kb O',<-Int.mul_assoc]at p5;repeat' (first|apply AG<;>intro hc<;>try omega|apply AR;omega|apply GH;omega|apply AP|refine A5 V' ?_ rfl ?_;omega|apply AE)<;>conv=>whnf
  ·rw[if_pos O']at p4
   rw[p4];exact BP rfl
  ·rw[if_neg O']at p4
   exact BB [] E' (ih (i+1) _ O' ⟨O',Cw,O',p4,p5⟩)
 rw[E6 O',JN]at p4;rw[E6 O',BX,Int.natCast_one,Int.mul_one]at p5;rw[p4,if_neg Y',p5];repeat' (first|apply AG<;>intro hc<;>try omega|apply AP|apply AE)<;>conv=>whnf
 exact BP rfl
theorem AiO(N:w8 L)(s box:List Int)(q1 q2:Bool)(h:CK box s)(ht:BX box<=4096)(hb:∀b∈box,0<=b/\b<=8388607)(hx:box.length<9223372036854775808):Ev L 445 [.sl q1 (s.map AZ),.sl q2 (box.map AZ)] (.int .i64 (B8 box s:Int)):=by
 have hl:=Q7 h;have hid:=JS h;refine Ev.x N.QB rfl rfl ?_;(repeat' (apply AE<;>conv=>whnf))
 refine EE (λi _=>box.length-i) (λ(i a:Nat)=>i<=box.length/\a*BX (box.drop i)+B8 (box.drop i) (s.drop i)=B8 box s) (λi a=>[(6,.int .i64 i),(5,.int .i64 a)]) (λ_ _=>[]) 0 0 ⟨O',by rw[Nat.zero_mul,Mb];rfl⟩ ?_;intro i a ⟨p1,p2⟩ ih;have ha:a<=4096:=by
  have:=Zv (box:=box.drop i) λb j9=>(hb b (List.mem_of_mem_drop j9)).1
  have:=df a this
  omega
 by_cases hi:i<box.length
 ·obtain⟨b,iv⟩:=N' box i hi
  obtain⟨v,Iv⟩:=N' s i;obtain⟨jn,qe⟩:=hb b (zM iv);obtain⟨v0,v1⟩:=aZ h Iv iv;rw[DC iv,DC Iv]at p2;simp only[B8,BX]at p2;rw[<-zh,<-xh,<-Hh]at p2;have ix:(a:Int)*(2*b+1)<=4096*16777215:=Dg O' O' O' O';have Cw:0<=(a:Int)*(2*b+1):=Eg O' O';have e:(a:Int)*(2*b+1)+v+b=((a*(2*b+1).toNat+(v+b).toNat:Nat):Int):=by
   rw[Int.natCast_add,Kg,Kb O',Kb O'];omega
  repeat' (first|apply AG<;>intro hc<;>try omega|apply AR;omega|apply GH;omega|apply AP|refine A5 V' ?_ rfl ?_;omega|apply AE)<;>conv=>whnf
  rw[e];exact BB [] E' (ih (i+1) _ O' ⟨O',p2⟩)
 rw[E6 (l:=box) O',E6 (l:=s) O']at p2;simp only[B8,BX,Nat.mul_one,Gd]at p2;rw[<-p2];repeat' (first|apply AG<;>intro hc<;>try omega|apply AP|apply AE)<;>conv=>whnf
 exact BP rfl
theorem mX(N:w8 L)(k:Nat)(box:List Int)(q:Bool)(hk:k<=4096)(hb:∀b∈box,0<=b/\b<=8388607)(hx:box.length<=1000000):Ev L 444 [.int .i64 (k:Int),.sl q (box.map AZ)] (.sl false ((FQ box k).map AZ)):=by
 refine Ev.x N.QD rfl rfl ?_;repeat' (first|apply AP|apply AE)<;>conv=>whnf
 refine FJ (enc:=AZ) 0 box.length rfl rfl O' ?_;conv=>whnf
 repeat' (first|apply BS;omega|apply AP)<;>conv=>whnf
 refine EA (λi=>i) (λ(i:Nat)=>i<=box.length) (λi=>[(6,.int .i64 ((i:Int)-1)),(0,.int .i64 ((k/BX (box.drop i):Nat):Int))]) (λi=>[(9,9,.rw 1 ((ja i 0++FQ (box.drop i) k).map AZ))]) [] [] box.length (by rw[List.drop_length];simp only[BX,FQ,Nat.div_one,mb];exact E') O' ?_;intro i p1 ih;rcases i with _|i
 ·rw[Bd,Df,Pc]
  clear ih;have fg:=pX box k;repeat' (first|apply AG<;>intro hc<;>try omega|apply AE)<;>conv=>whnf
  refine C6 (λ_=>rfl) rfl (by rw[fg]) ?_;conv=>whnf
  exact AW rfl (by simp[AY,KX])
 ·obtain⟨b,iv⟩:=N' box i
  obtain⟨jn,qe⟩:=hb b (zM iv);have hd:=DC iv;have jy:k/BX (box.drop (i+1))<=4096:=vb (Lg _ _) hk;have hnu:FQ (box.drop i) k=(((k/BX (box.drop (i+1))%(2*b+1).toNat:Nat):Int)-b)::FQ (box.drop (i+1)) k:=by rw[hd,FQ]
  have hto:k/BX (box.drop i)=k/BX (box.drop (i+1))/(2*b+1).toNat:=by rw[hd,BX,Je,Nat.div_div_eq_div_mul]
  have ta:=ih i O' O';rw[hnu,hto]at ta;have fg:=pX (box.drop (i+1)) k;rw[Od]at fg;generalize FQ (box.drop (i+1)) k=r at*;generalize k/BX (box.drop (i+1))=j at*;have bz:∀y:Int,(ja (i+1) 0++r).set i y=ja i 0++y::r:=λy=>by
   rw[Lf,Kc,Jc _ _ Z',Ha,Qc];rfl
  have mn:(ja (i+1) (0:Int)++r).length=box.length:=by rw[ga,Ha,fg];omega
  have e1:((i+1:Nat):Int)-1=(i:Int):=O'
  have ix:(j:Int)%(2*b+1)=((j%(2*b+1).toNat:Nat):Int):=by rw[Int.natCast_emod,Kb O']
  have yc:(j:Int)/(2*b+1)=((j/(2*b+1).toNat:Nat):Int):=by rw[Ng,Kb O']
  have AB6:=eg j (show 0<(2*b+1).toNat by omega);rw[e1];generalize ja (i+1) 0++r=o at*;repeat' (first|apply AG<;>intro hc<;>try omega|apply A4;omega|apply AR;omega|apply BS;omega|apply GH;omega|(refine I9 ?_ (λ_ _ _=>?_) (λ_ _ _ _=>?_);omega;all_goals try omega)|refine A5 V' ?_ rfl ?_;omega|apply AE)<;>conv=>whnf
  refine H4 (enc:=AZ) (((j%(2*b+1).toNat:Nat):Int)-b) (by rw[ix]) (λ_=>rfl) O' ?_;rw[bz];conv=>whnf
  repeat' (first|apply AR;omega|apply BS;omega|apply GH;omega|(refine KV ?_ ?_ (λ_=>?_) (λ_ _=>?_);omega;omega;all_goals try omega)|refine A5 V' ?_ rfl ?_;omega)<;>conv=>whnf
  rw[yc];exact BB [] E' ta
theorem nF(I:a8 L)(J:k9 L){n:Nt}{x:Int}{s:List Int}(hv:DN n=true)(hx:FT n.d x)(h:EG n s)(q:Bool):Ev L 30 [.agg (B2 n),.sl q (s.map AZ),.int .i64 x] (.j5 [.sl false ((c7 n x s).map AZ),.int .i64 (bj n x s),.bool (F8 n (x::s) false n.nodes).2,.int .i64 0]):=by
 have:=zX n I J s q x (by have:=h.len;obtain⟨_,_,g3,_⟩:=(C1 n).1 hv;omega)
 rwa [Adw n hv h.len h.wd hx]at this
theorem zW(I:a8 L)(J:k9 L)(N:w8 L){n:Nt}{x:Int}{s:List Int}{p:Nat}(hv:DN n=true)(hx:FT n.d x)(hs:EG n s)(hp:0<p)(hp4:p<=5000)(ep:AQ (c7 n x) p s=s)(hnd:(A6 (c7 n x) p s).Nodup) :
  Ev L 446 [.agg (B2 n),.int .i64 x,.sl false (s.map AZ)] (.agg (EC (A6 (c7 n x) p s,(A6 (c7 n x) p s).map (bj n x)))):=by
 have hW:=λk=>EG.it hv hx k hs
 have me:=λk=>((hW k).vg hv).len
 have Pz:=me 0;have hS:=λk=>nF I J hv hx (hW k)
 have hE:=λk q q'=>fY I (AQ (c7 n x) k s) s q q' (by have:=me k;omega) (by have:=Pz;simp only[AQ]at this;omega)
 have mn:∀k,(A6 (c7 n x) k s).length=k:=λk=>FZ k s
 refine Ev.x N.QA rfl rfl ?_;(repeat' (apply AE<;>conv=>whnf))
 refine I5 ?_;repeat' (first|apply AG<;>intro hc<;>try omega|apply AE|refine AD (hS 0 _) ?_)<;>conv=>whnf
 refine MH (enc:=IG false) s rfl rfl O' ?_;conv=>whnf
 skip
 refine MH (enc:=AZ) (bj n x s) rfl rfl O' ?_;conv=>whnf
 skip
 refine DG (λk=>p-k) (λ(k:Nat)=>1<=k/\k<=p) (λk=>[(8,.sl false ((AQ (c7 n x) k s).map AZ))]) (λk=>[(7,7,.bx [.row 38 0 1 0 k,.row 43 0 1 0 k]),(38,38,.rw 1 ((A6 (c7 n x) k s).map (IG false))),(43,43,.rw 1 (((A6 (c7 n x) k s).map (bj n x)).map AZ))]) 1 O' ?_;intro k ⟨k1,k2⟩ ih;have nf:=mn k;have Oy:((A6 (c7 n x) k s).map (bj n x)).length=k:=by rw[xa,nf]
 by_cases hk:k<p
 ·have q6:AQ (c7 n x) k s≠s:=λe=>by
   have:=YZ hnd hk hp (by rw[e];rfl)
   omega
  have ta:=ih (k+1) O' O';have h1:=hS k false;have h2:=hE k false false;rw[Q8,O8,show(A6 (c7 n x) k s++[AQ (c7 n x) k s]).map (bj n x)=(A6 (c7 n x) k s).map (bj n x)++[bj n x (AQ (c7 n x) k s)]by rw[Cc];rfl]at ta;clear ih hS hE hW me mn;generalize A6 (c7 n x) k s=O at*;generalize AQ (c7 n x) k s=T at*;generalize O.map (bj n x)=G at*;rw[decide_eq_false q6]at h2;repeat' (first|apply AG<;>intro hc<;>try omega|apply AE|refine AD (h1) ?_|refine AD (h2) ?_)<;>conv=>whnf
  refine DH (enc:=IG false) T rfl nf.symm rfl O' O' ?_;conv=>whnf
  skip
  refine DH (enc:=AZ) (bj n x T) rfl Oy.symm rfl O' O' ?_;conv=>whnf
  skip
  rw[show(O++[T]).length=k+1 by rw[ga,nf];rfl,show(G++[bj n x T]).length=k+1 by rw[ga,Oy];rfl];exact BB [(38,1000038),(43,1000043)] E' ta
 have ek:k=p:=O'
 have h2:=hE k false false;subst ek;rw[ep,decide_eq_true rfl]at h2;have u6:=VQ (A6 (c7 n x) k s,(A6 (c7 n x) k s).map (bj n x));clear ih hS hE hW me mn;rw[ep];simp only[EC]at u6⊢;generalize A6 (c7 n x) k s=O at*;generalize O.map (bj n x)=G at*;repeat' (first|apply AG<;>intro hc<;>try omega|apply AE|refine AD (h2) ?_)<;>conv=>whnf
 refine C6 (λ_=>rfl) rfl nf.symm ?_;conv=>whnf
 refine C6 (λ_=>rfl) rfl Oy.symm ?_;conv=>whnf
 exact AW rfl u6
theorem Ajs(I:a8 L)(J:k9 L)(N:w8 L){n:Nt}{x:Int}{box:List Int}(h:JC n x box≠0)(q:Bool)(hb:box.length<9223372036854775808):Ev L 447 [.agg (B2 n),.int .i64 x,.sl q (box.map AZ)] (.j5 [.sl false [],.int .i64 (JC n x box)]):=by
 refine Ev.x N.GT rfl rfl ?_;have hV:=V9 n I J;have hw:=λq=>nI I n.d box q hb
 unfold JC at h⊢;by_cases h1:DN n=true;rotate_left
 ·rw[if_neg h1]
  rw[Bool.not_eq_true]at h1;rw[h1]at hV;repeat' (first|apply AE|refine AD (hV) ?_)<;>conv=>whnf
  exact AW rfl (by simp[AY,BK,DR])
 rw[if_pos h1]at h⊢;rw[h1]at hV;by_cases h2:(box.length:Int)=n.s;rotate_left
 ·rw[if_neg h2]
  repeat' (first|apply AG<;>intro hc<;>try omega|apply AP|apply AE|refine AD (hV) ?_)<;>conv=>whnf
  exact AW rfl (by simp[AY,BK,DR])
 rw[if_pos h2]at h⊢;repeat' (first|apply AG<;>intro hc<;>try omega|apply AP|apply AE|refine AD (hV) ?_)<;>conv=>whnf
 refine DG (λi=>box.length-i) (λ(i:Nat)=>i<=box.length/\box.all (λb=>decide (0<=b))=(box.drop i).all λb=>decide (0<=b)) (λi=>[(8,.int .i64 i)]) (λ_=>[]) 0 ⟨O',rfl⟩ ?_;intro i ⟨p1,p2⟩ ih;by_cases hi:i<box.length
 ·obtain⟨b,iv⟩:=N' box i hi
  rw[DC iv,List.all_cons]at p2;repeat' (first|apply AG<;>intro hc<;>try omega|apply AR;omega|apply AP|refine A5 V' ?_ rfl ?_;omega|apply AE)<;>conv=>whnf
  ·rw[decide_eq_false O',pf]at p2
   rw[if_neg (by rw[p2];simp)];exact AW rfl (by simp[AY,BK,DR])
  ·rw[decide_eq_true O',Cg]at p2
   exact BF [] (ih (i+1) O' ⟨O',p2⟩)
 rw[E6 O',List.all_nil]at p2;rw[if_pos p2]at h⊢;clear ih;have h0:∀b∈box,0<=b:=λb hb=>of_decide_eq_true (Da.1 p2 b hb)
 have hF:=V8 n.d I x;by_cases h3:FT n.d x;rotate_left
 ·rw[if_neg h3]
  rw[decide_eq_false h3]at hF;repeat' (first|apply AG<;>intro hc<;>try omega|apply AP|apply AE|refine AD (hF) ?_)<;>conv=>whnf
  exact AW rfl (by simp[AY,BK,DR])
 rw[if_pos h3]at h⊢;rw[decide_eq_true h3]at hF;have hw:∀q,Ev L 19 [.agg (H6 n.d),.sl q (box.map AZ)] (.bool (DX n.d box)):=hw;cases h4:DX n.d box with
 |false=>
  rw[h4]at hw;rw[if_neg Z'];repeat' (first|apply AG<;>intro hc<;>try omega|apply AP|apply AE|refine AD (hF) ?_|refine AD (hw _) ?_)<;>conv=>whnf
  exact AW rfl (by simp[AY,BK,DR])
 |true=>
  rw[h4]at hw h;rw[if_pos rfl]at h⊢;have h5:JN box 1=true:=by
   cases e:JN box 1
   ·rw[e]at h;exact absurd rfl h
   ·rfl
  have hC:=λq=>zV N box q (λb hb=>⟨h0 b hb,(YG (of_decide_eq_true (Da.1 h4 b hb))).2⟩) hb
  rw[h5]at hC⊢;rw[if_pos rfl]at hC⊢;repeat' (first|apply AG<;>intro hc<;>try omega|apply AP|apply AE|refine AD (hF) ?_|refine AD (hw _) ?_|refine AD (hC _) ?_)<;>conv=>whnf
  exact AW rfl (by simp[AY,BK,DR])
theorem Ajr(I:a8 L)(J:k9 L)(N:w8 L){n:Nt}{x:Int}{box:List Int}(h:JC n x box=0)(q:Bool) :
  ∃v,Ev L 447 [.agg (B2 n),.int .i64 x,.sl q (box.map AZ)] v/\∃l,LT (c7 n x) (bj n x) box l/\v = .j5 [.sl false (l.map EC),.int .i64 0]:=by
 have hX:=ZT.of h;have z8:=hX.er;have nu:=hX.nn;have Ir:=hX.Bo;have rj:=hX.Qw;obtain⟨g1,g2,g3,g4,g5,g6⟩:=(C1 n).1 z8;have lf:=hX.len;have Cm:box.length<=64:=O'
 have nq:∀b∈box,0<=b/\b<=8388607:=λb h=>⟨nu b h,(YG (of_decide_eq_true (Da.1 hX.wd b h))).2⟩
 have k8:∀t,CK box t->EG n t:=λt h=>EG.box hX.len hX.wd h
 have hV:=V9 n I J;rw[z8]at hV;have hF:=V8 n.d I x;rw[decide_eq_true rj]at hF;have hw:∀q,Ev L 19 [.agg (H6 n.d),.sl q (box.map AZ)] (.bool (DX n.d box)):=λq=>nI I n.d box q O'
 rw[hX.wd]at hw;have Iq:JN box 1=false:=by
  unfold JC at h;rw[if_pos z8,if_pos lf,if_pos (Da.2 λb hb=>decide_eq_true (nu b hb)),if_pos rj,if_pos hX.wd]at h;cases e:JN box 1
  ·rfl
  ·rw[e]at h;cases h
 have hC:=λq=>zV N box q nq O'
 rw[Iq,if_neg Y']at hC;clear h Iq;refine Ev.xE N.GT rfl rfl ?_;repeat' (first|apply AG<;>intro hc<;>try omega|apply AP|apply AE|refine AD (hV) ?_)<;>conv=>whnf
 refine DG (λi=>box.length-i) (λ(i:Nat)=>i<=box.length) (λi=>[(8,.int .i64 i)]) (λ_=>[]) 0 O' ?_;intro i p1 ih;by_cases hi:i<box.length
 ·obtain⟨b,iv⟩:=N' box i hi
  have:=nq b (zM iv)
  repeat' (first|apply AG<;>intro hc<;>try omega|apply AR;omega|apply AP|refine A5 V' ?_ rfl ?_;omega|apply AE)<;>conv=>whnf
  exact BF [] (ih (i+1) O' O')
 clear ih;repeat' (first|apply AG<;>intro hc<;>try omega|apply AP|apply AE|refine AD (hF) ?_|refine AD (hw _) ?_|refine AD (hC _) ?_)<;>conv=>whnf
 have jc:∀t,EG n t->(c7 n x t).length=box.length:=λt ht=>by have:=(ht.step z8 rj).len;omega
 refine DG (λk=>BX box-k) (λ(k:Nat)=>k<=BX box) (λk=>[(11,.int .i64 k),(10,.row 10 0 1 0 k)]) (λk=>[(10,10,.rw 1 (((TD (c7 n x) box).take k).map AZ))]) 0 O' ?_;intro k k1 ih;have fg:=Ui (f:=c7 n x) (box:=box);have dp:((TD (c7 n x) box).take k).length=k:=by rw[za];omega
 by_cases hk:k<BX box
 ·have ig:=pW nu k
  have ma:=λq=>mX N k box q O' nq O'
  have hS:=λq=>nF I J z8 rj (k8 _ ig) q
  have ij:=jc _ (k8 _ ig);have hI:=λq1 q2=>AiP N (c7 n x (FQ box k)) box q1 q2 ij (λb hb=>by have:=nq b hb;omega) O'
  have o5:(TD (c7 n x) box)[k]?=some (N6 box (c7 n x (FQ box k))):=by rw[TD,ya,Pa hk];rfl
  have ta:=ih (k+1) O' O';rw[zb,o5,db]at ta;clear ih;rw[N6]at ta;cases uf:J7 box (c7 n x (FQ box k))with
  |true=>
   have wc:=(U1 ij).1 uf;have hJ:=λq1 q2=>AiO N (c7 n x (FQ box k)) box q1 q2 wc Ir nq O'
   rw[uf]at hI ta;rw[if_pos rfl]at ta;repeat' (first|apply AG<;>intro hc<;>try omega|apply CT|apply AE|refine AD (ma _) ?_|refine AD (hS _) ?_|refine AD (hI _ _) ?_|refine AD (hJ _ _) ?_)<;>conv=>whnf
   refine DH (enc:=AZ) ((B8 box (c7 n x (FQ box k)):Nat):Int) rfl dp.symm rfl O' O' ?_;conv=>whnf
   rw[ga,dp,show k+[((B8 box (c7 n x (FQ box k)):Nat):Int)].length=k+1 from rfl];repeat' (first|apply AR;omega|fail)<;>conv=>whnf
   exact BB [(10,83)] E' ta
  |false=>
   rw[uf]at hI ta;rw[if_neg Y']at ta;repeat' (first|apply AG<;>intro hc<;>try omega|apply CT|apply AE|refine AD (ma _) ?_|refine AD (hS _) ?_|refine AD (hI _ _) ?_)<;>conv=>whnf
   refine DH (enc:=AZ) (-1) rfl dp.symm rfl O' O' ?_;conv=>whnf
   rw[ga,dp,show k+[(-1:Int)].length=k+1 from rfl];repeat' (first|apply AR;omega|fail)<;>conv=>whnf
   exact BB [(10,86)] E' ta
 have ek:k=BX box:=O'
 rw[ek,zT O'];clear ih dp hk k1 ek fg;repeat' (first|apply AG<;>intro hc<;>try omega|apply AE)<;>conv=>whnf
 refine FJ (enc:=AZ) 0 (BX box) rfl rfl O' ?_;rw[<-AlN];conv=>whnf
 skip
 have ACi:=Ui (f:=c7 n x) (box:=box);have Oz:=λseen=>bH (box:=box) seen
 refine F5 (λk _ _=>BX box-k) (λ(k:Nat)(seen:List (List Int×Int))(l:List Cy)=>IQ (c7 n x) (bj n x) box seen l k/\l.length<=k/\k<=BX box/\(∀t,CK box t->B8 box t<k->t∈D5 seen)/\∀p∈seen,1<=p.2) (λk _ l=>[(18,.int .i64 k),(16,.row 16 0 2 0 l.length)]) (λk seen l=>[(88,88,.rw 1 ((JT box seen).map AZ)),(16,16,.rw 2 (l.map EC))]) 0 [] [] ⟨IQ.start,Z',O',λt _ h=>absurd h O',Z'⟩ ?_;intro k seen l ⟨p1,p2,p3,p4,p5⟩ ih;by_cases hk:k<BX box
 ·have ig:=pW nu k
  have Hi:=Rk nu hk;have hW:=λj=>EG.it z8 rj j (k8 _ ig)
  have Hx:=λkk=>mX N kk box
  generalize fi:FQ box k=s at*;repeat' (first|apply AG<;>intro hc<;>try omega|apply AE)<;>conv=>whnf
  have Ap:(k:Int)=N6 box (AQ (c7 n x) 0 s):=by
   have:J7 box (AQ (c7 n x) 0 s)=true:=(U1 (Q7 ig)).2 ig
   rw[N6,if_pos this];exact congrArg Int.ofNat Hi.symm
  have Es:∀{kk:Nat}{r:Option Cy},MK (c7 n x) box seen s kk->LY (c7 n x) (bj n x) box seen s kk r->IQ (c7 n x) (bj n x) box (FH (c7 n x) seen s ((k:Int)+1) kk) (l++r.toList) ((k+1:Nat):Int)/\(l++r.toList).length<=k+1/\k+1<=BX box/\(∀t,CK box t->B8 box t<k+1->t∈D5 (FH (c7 n x) seen s ((k:Int)+1) kk))/\∀p∈FH (c7 n x) seen s ((k:Int)+1) kk,1<=p.2:=λ{kk r} h1 h2=>by
   refine⟨p1.walk h1 h2,?_,O',λt ht po=>?_,Xm p5 O'⟩
   ·have:r.toList.length<=1:=by cases r<;>simp
    rw[ga];omega
   ·by_cases e:B8 box t<k
    ·exact(J5 _).2 (.inr (p4 t ht e))
    ·rw[aY ht ig O']
     exact LY.mem ig h1 h2 _
  refine EE (λj _=>4097-j) (λ(j:Nat)(a:Int)=>MK (c7 n x) box seen s j/\a=N6 box (AQ (c7 n x) j s)) (λ_ a=>[(19,.int .i64 a)]) (λj _=>[(88,88,.rw 1 ((JT box (FH (c7 n x) seen s (k+1) j)).map AZ))]) 0 (k:Int) ⟨⟨List.nodup_nil,by simp[A6],by simp[A6]⟩,Ap⟩ ?_;intro j a ⟨hj,ha⟩ jh;have hj4:j<=4096:=by
   have:=pV hj.nd hj.bx
   rw[FZ]at this;omega
  have hwj:=hW j;have hlj:(AQ (c7 n x) j s).length=box.length:=by have:=hwj.len;omega
  cases uf:J7 box (AQ (c7 n x) j s)with
  |false=>
   rw[N6,uf,if_neg Y']at ha;subst ha;have jt:=ih (k+1) _ _ O' (Es hj (.out λh=>by rw[(U1 hlj).2 h]at uf;cases uf));rw[zd,mb]at jt;repeat' (first|apply AG<;>intro hc<;>try omega|apply AR;omega|apply AE)<;>conv=>whnf
   exact BB [] E' jt
  |true=>
   have oz:=(U1 hlj).1 uf;rw[N6,uf,if_pos rfl]at ha;subst ha;have Ep:=AlM (seen:=FH (c7 n x) seen s (k+1) j) oz;have ik:=Xx (f:=c7 n x) oz;rw[<-Q8 (f:=c7 n x)]at ik;have k7:=JS oz;have hm9:(JT box (FH (c7 n x) seen s (k+1) j)).length=BX box:=Oz _;have hz:0+((B8 box (AQ (c7 n x) j s):Nat):Int).toNat=B8 box (AQ (c7 n x) j s):=by rw[Mb,Ga]
   rw[<-hz]at Ep ik;have bz:=λw=>AlO (seen:=FH (c7 n x) seen s (k+1) j) nu oz w
   have ud:=Xn (c7 n x) seen s ((k:Int)+1) j;cases nf:H7 (FH (c7 n x) seen s (k+1) j) (AQ (c7 n x) j s)with
   |none=>
    have o7:=hj.step (w:=(k:Int)+1) oz (gW.1 nf);rw[nf,Option.getD_none]at Ep;have Bg:=jh (j+1) _ O' ⟨o7,rfl⟩;rw[ud,<-bz]at Bg;generalize JT box (FH (c7 n x) seen s (k+1) j)=mk at*;repeat' (first|apply AG<;>intro hc<;>try omega|apply A4;omega|apply AE)<;>conv=>whnf
    refine F6 (enc:=AZ) Ep rfl ?_;conv=>whnf
    repeat' (first|apply AG<;>intro hc<;>try omega|apply A4;omega|apply AR;omega)<;>conv=>whnf
    refine H4 (enc:=AZ) ((k:Int)+1) rfl (λ_=>rfl) O' ?_;conv=>whnf
    repeat' (first|apply A4;omega|fail)<;>conv=>whnf
    refine F6 (enc:=AZ) ik rfl ?_;conv=>whnf
    skip
    exact BB [] E' Bg
   |some v=>
    have Dq:1<=v:=Xm p5 O' _ (bD nf);obtain⟨w1,w2⟩:=Aob p1.num nf;rw[nf,Qb]at Ep;clear jh;generalize vz:JT box (FH (c7 n x) seen s (k+1) j)=mk at*;repeat' (first|apply AG<;>intro hc<;>try omega|apply A4;omega|apply AE)<;>conv=>whnf
    refine F6 (enc:=AZ) Ep rfl ?_;conv=>whnf
    repeat' (first|apply AG<;>intro hc<;>try omega|apply A4;omega)<;>conv=>whnf
    refine F6 (enc:=AZ) Ep rfl ?_;conv=>whnf
    repeat' (first|apply AG<;>intro hc<;>try omega|apply A4;omega|apply AR;omega)<;>conv=>whnf
    ·have jt:=ih (k+1) _ _ O' (Es hj (.old (w1 O')))
     rw[zd,mb,vz]at jt;exact BB [] E' jt
    refine F6 (enc:=AZ) ik rfl ?_;conv=>whnf
    skip
    obtain⟨i0,ml,Eb⟩:=FC.1 (w2 O');obtain⟨r1,r2,r3⟩:=hj.ring ml Eb;have u6:=λj0 h1 h2=>LY.close (g:=bj n x) hj ml Eb (j:=j0) h1 h2
    rw[Q8 (f:=c7 n x) j s,show c7 n x (AQ (c7 n x) j s)=AQ (c7 n x) 1 (AQ (c7 n x) j s)from rfl,Uh (r2 1)];have hwU:=λm=>EG.it z8 rj m hwj
    generalize hu:AQ (c7 n x) j s=u at*;refine EE (λm _=>j-i0-m) (λ(m j0:Nat)=>1<=m/\m<=j-i0/\j0<m/\∀q,q<m->B8 box (AQ (c7 n x) j0 u)<=B8 box (AQ (c7 n x) q u)) (λm j0=>[(21,.int .i64 (B8 box (AQ (c7 n x) m u):Nat)),(20,.int .i64 (B8 box (AQ (c7 n x) j0 u):Nat))]) (λ_ _=>[]) 1 0 ⟨O',O',O',λq hq=>by rw[show q=0 by omega];exact ib _⟩ ?_;intro m j0 ⟨m1,m2,m3,m4⟩ mh;have Cw:=JS (r2 m);have Em:=JS (r2 j0);by_cases hmp:m<j-i0
    ·have q6:B8 box (AQ (c7 n x) m u)≠B8 box u:=λe=>r3 m O' hmp (aY (r2 m) oz e)
     have Pf:=Xx (f:=c7 n x) (r2 m);rw[<-Q8 (f:=c7 n x),Uh (r2 (m+1)),show B8 box (AQ (c7 n x) m u)=0+((B8 box (AQ (c7 n x) m u):Nat):Int).toNat by rw[Mb,Ga]]at Pf;repeat' (first|apply AG<;>intro hc<;>try omega|apply A4;omega|apply AE)<;>conv=>whnf
     ·refine F6 (enc:=AZ) Pf rfl ?_
      (conv=>whnf)
      skip
      exact BF [] (mh (m+1) m O' ⟨O',O',O',λq hq=>by
       by_cases e:q=m
       ·rw[e];exact ib _
       ·have:=m4 q O';omega⟩)
     ·refine F6 (enc:=AZ) Pf rfl ?_
      (conv=>whnf)
      skip
      exact BF [] (mh (m+1) j0 O' ⟨O',O',O',λq hq=>by
       by_cases e:q=m
       ·rw[e];omega
       ·exact m4 q O'⟩)
    have emp:m=j-i0:=O'
    subst emp;rw[r1];obtain⟨c1,c2,c3,c4⟩:=u6 j0 m3 m4;have ma:=λq=>mX N (B8 box (AQ (c7 n x) j0 u)) box q O' nq O'
    rw[iM (r2 j0)]at ma;have rf:=zW I J N z8 rj (hwU j0) (show 0<j-i0 by omega) O' c1 c2;have jt:=ih (k+1) _ _ O' (Es hj c4);rw[db,vz]at jt;repeat' (first|apply AG<;>intro hc<;>try omega|apply CT|apply AE|refine AD (ma _) ?_|refine AD (rf) ?_)<;>conv=>whnf
    refine DH (enc:=EC) (A6 (c7 n x) (j-i0) (AQ (c7 n x) j0 u),(A6 (c7 n x) (j-i0) (AQ (c7 n x) j0 u)).map (bj n x)) rfl rfl rfl O' O' ?_;conv=>whnf
    repeat' (first|apply AR;omega|fail)<;>conv=>whnf
    exact BB [(16,147)] E' jt
 have ek:k=BX box:=O'
 have uv:=p1.uv;have hhd:∀c∈l,c.1[0]?=some (FO c)/\(FO c).length=box.length:=λc hc=>by
  obtain⟨⟨s,m,h1⟩,_⟩:=p1.pz c hc;rw[aW h1.head];exact⟨h1.head,Q7 (h1.box s (FC.2 ⟨0,h1.pos,rfl⟩))⟩
 have km:=λl' hp ho=>p1.full (l':=l') (λt ht=>p4 t ht (by rw[ek];exact JS ht)) hp ho
 clear ih jc p5 p4 p1;repeat' (first|apply AG<;>intro hc<;>try omega|apply AE)<;>conv=>whnf
 refine EE (λi _=>l.length-i) (λ(i:Nat)(l1:List Cy)=>i<=l.length/\XP l l1 i) (λi _=>[(22,.int .i64 i)]) (λ_ l1=>[(16,16,.rw 2 (l1.map EC))]) 0 l ⟨O',List.Perm.refl _,λa b x y _ h2=>absurd h2 O'⟩ ?_;intro i l1 ⟨i1,i2⟩ ih;have ij:=i2.perm.length_eq;by_cases ic:i<l.length
 ·repeat' (first|apply AG<;>intro hc<;>try omega|apply AE)<;>conv=>whnf
  refine EE (λj _=>j) (λ(j:Nat)(l2:List Cy)=>VB l l2 i j) (λj _=>[(23,.int .i64 j)]) (λ_ l2=>[(16,16,.rw 2 (l2.map EC))]) i l1 i2.ins ?_;intro j l2 hj jh;have jd:=hj.perm.length_eq;have Eo:=hj.at_;have bu:∀c∈l2,c.1[0]?=some (FO c)/\(FO c).length=box.length:=λc hc=>hhd c (hj.perm.mem_iff.1 hc)
  rcases j with _|j
  ·have jt:=ih (i+1) l2 O' ⟨O',hj.stop O' uv λx y h=>absurd h O'⟩
   repeat' (first|apply AG<;>intro hc<;>try omega|apply AR;omega|apply AE)<;>conv=>whnf
   exact BB [] E' jt
  ·obtain⟨X,An⟩:=N' l2 (j+1)
   obtain⟨Y,Ao⟩:=N' l2 j;obtain⟨x1,x2⟩:=bu X (zM An);obtain⟨y1,y2⟩:=bu Y (zM Ao);have uo:=λq1 q2=>yH N.tos9 (FO X) (FO Y) q1 q2 O' O'
   have e1:(0:Nat)+(((j+1:Nat):Int)).toNat=j+1:=O'
   have e2:(0:Nat)+(((j+1:Nat):Int)-1).toNat=j:=O'
   rw[<-e1]at An;rw[<-e2]at Ao;have jt:=λhn=>ih (i+1) l2 O' ⟨O',hj.stop O' uv hn⟩
   have Bg:=λhc=>jh j _ O' (hj.swap (x:=X) (y:=Y) O' (by rw[<-An,e1]) (by rw[<-Ao,e2]) hc)
   clear ih jh hC hw hF hV;by_cases fb:B6 (FO X) (FO Y)<0
   ·have jh2:=Bg fb
    rw[decide_eq_true fb]at uo;clear Bg jt;repeat' (first|apply AG<;>intro hc<;>try omega|apply A4;omega|apply AE)<;>conv=>whnf
    refine F6 (enc:=EC) An rfl ?_;conv=>whnf
    repeat' (first|apply A4;omega|apply BS;omega|refine A5 V' ?_ rfl ?_;omega)<;>conv=>whnf
    refine F6 (enc:=EC) Ao rfl ?_;conv=>whnf
    repeat' (first|apply A4;omega|apply BS;omega|refine A5 V' ?_ rfl ?_;omega|refine AD (uo _ _) ?_)<;>conv=>whnf
    refine F6 (enc:=EC) Ao rfl ?_;conv=>whnf
    repeat' (first|apply A4;omega|fail)<;>conv=>whnf
    refine F6 (enc:=EC) An rfl ?_;conv=>whnf
    repeat' (first|apply A4;omega|fail)<;>conv=>whnf
    refine VJ (enc:=EC) (j+1) Y e1 rfl (λ_=>rfl) O' ?_;conv=>whnf
    repeat' (first|apply A4;omega|fail)<;>conv=>whnf
    refine VJ (enc:=EC) j X e2 rfl (λ_=>rfl) (by rw[xc];omega) ?_;conv=>whnf
    repeat' (first|apply BS;omega|fail)<;>conv=>whnf
    rw[show((j+1:Nat):Int)-1=(j:Int)by omega];exact BB [] E' jh2
   ·rw[decide_eq_false fb]at uo
    have gv:=jt λx y _ hx hy=>by
     rw[e1]at An;rw[e2]at Ao;obtain rfl:=ng (An.symm.trans hx);obtain rfl:=ng (Ao.symm.trans hy);exact fb
    clear Bg jt;repeat' (first|apply AG<;>intro hc<;>try omega|apply A4;omega|apply AE)<;>conv=>whnf
    refine F6 (enc:=EC) An rfl ?_;conv=>whnf
    repeat' (first|apply A4;omega|apply BS;omega|refine A5 V' ?_ rfl ?_;omega)<;>conv=>whnf
    refine F6 (enc:=EC) Ao rfl ?_;conv=>whnf
    repeat' (first|apply AR;omega|refine A5 V' ?_ rfl ?_;omega|refine AD (uo _ _) ?_)<;>conv=>whnf
    exact BB [] E' gv
 have hi5:i=l.length:=O'
 subst hi5;rw[<-ij]at i2;have aq:=km l1 i2.perm i2.ho;clear ih km hC hw hF hV;repeat' (first|apply AG<;>intro hc<;>try omega|apply AE)<;>conv=>whnf
 refine⟨_,?_,l1,aq,rfl⟩;conv=>whnf
 refine C6 (λ_=>rfl) rfl ij.symm ?_;conv=>whnf
 refine AW rfl ?_;simp only[AY,BK,true_and,and_true];exact L2 (λc=>VQ c) l1
end Go.e9
namespace Go.e9
theorem tW{R:List (p_)}{i e z:Nat}{es:v_}{K:p_->Prop}(he:e=i)(hi:i<R.length)(h:K (some (z,es))):CG (R.set i (some (z,es))) e K:=by
 subst he;exact⟨_,by rw[Ke,if_pos rfl,if_pos hi],h⟩
theorem tU{R:List (p_)}{i e z:Nat}{es:v_}{K:Nat->v_->Prop}(he:e=i)(hi:i<R.length)(h:K z es):B3 (R.set i (some (z,es))) e K:=by
 subst he;exact⟨z,es,by rw[Ke,if_pos rfl,if_pos hi],h⟩
theorem ZY{R:List (p_)}{i e z:Nat}{es:v_}{K:List (p_)->Prop}(he:e=i)(hi:i<R.length)(h:K (R.set i (some (z,es)))):CR R e z es K:=by
 subst he;exact⟨hi,h⟩
def hQ(S:HX):Nat->Rat
 |0=>S.d
 |j+1=>BT S.c (wQ S j)
def B1(x:Rat):Rat:=if x.num<0 then -x else x
end Go.e9

namespace Go.e9
def IY(n:Nt)(k:Int):HX where
 a:=(FP n).a
 b:=n.next.map λe=>(G4 n (-1) k).getD e.toNat 0
 c:=(FP n).c
 d:=(G4 n (-1) k).getD n.out.toNat 0
theorem AgC(e:Int):AY (.j5 [.agg [.sl false [],.sl false [],.sl false [],.bool false,.sl false [],.sl false []],.int .i64 e]):=by
 simp[AY,BK,DR]
def gO(n:Nt)(k:Int):AV:=if 0<=k/\k<n.nodes.length then .j5 [.agg (eS (IY n k)),.int .i64 0]else .j5 [.agg [.sl false [],.sl false [],.sl false [],.bool false,.sl false [],.sl false []],.int .i64 1]
theorem AlJ{a b:o_}{i:Nat}{x:Rat}(h:a[i]?=some x)(hb:i<b.length):(a.take i++b.drop i).set i x=a.take (i+1)++b.drop (i+1):=by
 have hl:=(zS h).1;have ht:(a.take i).length=i:=by rw[za];omega
 rw[Jc _ _ O',ht,Qc,Db hb,je,zb,h,Kc];rfl
end Go.e9

namespace Go.e9
def oe(ε f:Nat->Rat):Nat->Rat
 |0=>0
 |N+1=>oe ε f N+ε N*f N
variable {n:Nt}
def fA(n:Nt)(e:Int):o_:=(Oa n.s.toNat).map λ(j:Nat)=>(G4 n ((j:Int)+1) (-1)).getD e.toNat 0
def gX(n:Nt)(e:Int):Rat:=(G4 n 0 (-1)).getD e.toNat 0
def gK(n:Nt)(k:Nat)(e:Int):Rat:=(G4 n (-1) (k:Int)).getD e.toNat 0
def Bo(n:Nt)(K:Nat):o_->o_->List (Nat->Rat)->o_
 |st,x::xs,ε::es=>((BT (fA n n.out) st+gX n n.out*x)+oe ε (λk=>gK n k n.out) K)::Bo n K (n.next.map λe=>(BT (fA n e) st+gX n e*x)+oe ε (λk=>gK n k e) K) xs es
 |_,_,_=>[]
end Go.e9

namespace Go.e9
open F
attribute [local irreducible] AA AF AX AC B4 AU A7 A8 BV BI B0 DS BG A1 BU CB AB A2 AH pw CG B3 CR DK C2 CO CJ BL CY C3 C4 CX C7
variable {L:Lib}
set_option maxRecDepth 8000
def mz(Q:P')(n i:Nat):List (p_):=fz none (E2 3 eQ (Q.take i)) n
theorem pP{Q:P'}{n i:Nat}(hi:i<=n):(mz Q n i).length=n:=by
 refine Tt ?_;simp only[E2,xa,za];omega
theorem pR(Q:P')(n:Nat):mz Q n 0=ja n none:=by simp[mz,fz]
theorem pQ{Q:P'}{n i:Nat}{row:o_}(h:Q[i]?=some row)(hi:i<n):(mz Q n i).set i (some (3,row.map eQ))=mz Q n (i+1):=by
 have h1:=(zS h).1;have hl:(E2 3 eQ (Q.take i)).length=i:=by simp only[E2,xa,za];omega
 have:=Tu (z:=none) (l:=E2 3 eQ (Q.take i)) (m:=n) (x:=some (3,row.map eQ)) O'
 rw[hl]at this;rw[mz,this,mz,sQ h];simp[E2]
theorem pO{Q:P'}{n:Nat}(h:Q.length=n):mz Q n n=E2 3 eQ Q:=by
 rw[mz,zT O'];exact Ts (by simp[E2,h])
theorem KQ{α:Type}{l:List α}{i:Nat}{x:α}(h:l[i]?=some x):l.take (i+1)=l.take i++[x]:=by
 rw[zb,h];rfl
theorem vZ{a:P'}{i j:Nat}{r:o_}{x:Rat}(hr:a[j]?=some r)(hx:r[i]?=some x):(DW a i)[j]?=some x:=by
 simp only[DW,ya,hr,Ja,nT hx]
theorem dE{R:List (p_)}{e:Nat}{r:p_}{K:p_->Prop}(h:R[e]?=some r)(hk:K r):CG R e K:=by
 unfold CG;exact⟨r,h,hk⟩
def Y9(n:Nt)(inj:Int)(j:Nat):Int:=if j<n.s.toNat then(j:Int)+1 else if inj<0 then 0 else -1
def MS(n:Nt)(inj:Int)(j:Nat):Int:=if j<n.s.toNat then -1 else if inj<0 then -1 else inj
def FW(n:Nt)(inj:Int)(k j:Nat):o_:=HE ((pw n.c.f:Int):Rat) (MS n inj j) 0 (DF (1+n.s).toNat (Y9 n inj j)) ((DE n).take k)
def ET(n:Nt)(inj:Int)(k m:Nat):o_:=(Oa (n.s.toNat+1)).map λj=>(FW n inj k j).getD m 0
def H2(n:Nt)(inj:Int)(k:Nat):P':=(Oa ((1+n.s).toNat+k)).map (ET n inj k)
def FS(n:Nt)(inj:Int)(k:Nat)(ts:List (Int×Int))(t:Nat):o_:=(Oa (n.s.toNat+1)).map λj=>EU (FW n inj k j) (ts.take t)/((pw n.c.f:Int):Rat)
theorem lM(n:Nt)(inj:Int)(k j:Nat)(hk:k<=n.nodes.length):(FW n inj k j).length=(1+n.s).toNat+k:=by
 simp only[FW,Ta,cS,za,DE,xa];omega
theorem WT(n:Nt)(inj:Int)(k m:Nat):(ET n inj k m).length=n.s.toNat+1:=by simp[ET]
theorem jH(n:Nt)(inj:Int)(k:Nat):(H2 n inj k).length=(1+n.s).toNat+k:=by simp[H2]
theorem vX(n:Nt)(inj:Int)(k j:Nat)(h2:WV n.c)(gq:VG (DE n))(hk:k<=n.nodes.length)(fg:n.nodes.length<=5):Bs 117150 (FW n inj k j):=by
 have k7:(DE n).length=n.nodes.length:=by simp[DE]
 have Dp:=G2 n.c.f;have vd:(pw n.c.f).natAbs<=2^24:=by
  have hf:n.c.f<24:=by unfold WV at h2;omega
  have h9:(2:Nat)^n.c.f.toNat<=2^24:=Fa O' O';rw[pw];exact_mod_cast h9
 have h:=Sz (ex:=MS n inj j) Dp vd ((DE n).take k) 0 (DF (1+n.s).toNat (Y9 n inj j)) ⟨λts h=>gq.len ts (tb h),λts h=>gq.cf ts (tb h)⟩ (Bs.unit _ _ _);rw[za,k7,Ed hk,Mb]at h;intro x hx;refine(h x hx).le ?_;rcases k with _|_|_|_|_|_|k
 ·decide
 ·decide
 ·decide
 ·decide
 ·decide
 ·decide
 ·omega
theorem vY(n:Nt)(inj:Int)(k j:Nat){ts:List (Int×Int)}(h:(DE n)[k]?=some ts):FW n inj (k+1) j=FW n inj k j++[EU (FW n inj k j) ts/((pw n.c.f:Int):Rat)+(if(k:Int)=MS n inj j then 1 else 0)]:=AjV _ _ _ _ k ts h
theorem AmN(n:Nt)(inj:Int)(hs:0<=n.s):ET n inj 0 0=DF (n.s.toNat+1) (if inj<0 then n.s else -1):=by
 simp only[ET,FW,xb,HE,DF];refine ka λj hj=>?_
 have hj:=Gb.1 hj;rw[ua,ya,Pa O'];simp only[Ja,Qb,Y9];congr 1;rw[eq_iff_iff];split<;>split<;>omega
theorem AmM(n:Nt)(inj:Int)(i:Nat)(hs:0<=n.s)(hi:i<n.s.toNat):ET n inj 0 (i+1)=DF (n.s.toNat+1) (i:Int):=by
 simp only[ET,FW,xb,HE,DF];refine ka λj hj=>?_
 have hj:=Gb.1 hj;rw[ua,ya,Pa O'];simp only[Ja,Qb,Y9];congr 1;rw[eq_iff_iff];split
 ·omega
 ·split<;>omega
theorem AmQ(n:Nt)(inj:Int)(k:Nat){ts:List (Int×Int)}(h:(DE n)[k]?=some ts)(hk:k<n.nodes.length):H2 n inj (k+1)=H2 n inj k++[ET n inj (k+1) ((1+n.s).toNat+k)]:=by
 unfold H2;rw[show(1+n.s).toNat+(k+1)=((1+n.s).toNat+k)+1 by omega,Dc,Cc,wg];congr 1;refine ka λm hm=>?_
 have hm:=Gb.1 hm;unfold ET;refine ka λj _=>?_
 rw[vY n inj k j h,Akb (by rw[lM n inj k j O'];omega)]
theorem Xa(n:Nt)(inj:Int)(k:Nat){ts:List (Int×Int)}(h:(DE n)[k]?=some ts)(hk:k<n.nodes.length) :
  ET n inj (k+1) ((1+n.s).toNat+k)=(Oa (n.s.toNat+1)).map λj=>EU (FW n inj k j) ts/((pw n.c.f:Int):Rat)+(if(k:Int)=MS n inj j then 1 else 0):=by
 unfold ET;refine ka λj _=>?_
 rw[vY n inj k j h,Aka (by rw[lM n inj k j O'])]
theorem AmP(n:Nt)(inj:Int)(k:Nat){ts:List (Int×Int)}(h:(DE n)[k]?=some ts)(hk:k<n.nodes.length)(q6:(k:Int)≠inj):FS n inj k ts ts.length=ET n inj (k+1) ((1+n.s).toNat+k):=by
 rw[Xa n inj k h hk];unfold FS;refine ka λj _=>?_
 have:¬(k:Int)=MS n inj j:=by unfold MS;split<;>(try split)<;>omega
 rw[if_neg this,zc,Pb]
theorem AmO(n:Nt)(inj:Int)(k:Nat){ts:List (Int×Int)}(h:(DE n)[k]?=some ts)(hk:k<n.nodes.length)(he:(k:Int)=inj){x:Rat}(hx:(FS n inj k ts ts.length)[n.s.toNat]?=some x):(FS n inj k ts ts.length).set n.s.toNat (x+1)=ET n inj (k+1) ((1+n.s).toNat+k):=by
 rw[Xa n inj k h hk];refine Rg λj=>?_
 rw[Ke];have hl:(FS n inj k ts ts.length).length=n.s.toNat+1:=by simp[FS]
 by_cases hj:n.s.toNat=j
 ·subst hj
  rw[if_pos rfl,if_pos O',ya,Pa O'];simp only[FS,ya,Pa (show n.s.toNat<n.s.toNat+1 by omega),Ja,ue,Pb]at hx⊢;have:(k:Int)=MS n inj n.s.toNat:=by unfold MS;rw[if_neg O',if_neg O'];exact he
  rw[if_pos this,hx]
 ·rw[if_neg hj]
  by_cases h2:j<n.s.toNat+1
  ·simp only[FS,ya,Pa h2,Ja,Pb]
   have:¬(k:Int)=MS n inj j:=by unfold MS;rw[if_pos O'];omega
   rw[if_neg this,zc]
  ·rw[Ic O',Ic K']
theorem Ahl(c f:Int):rb c (pw f)=((c:Int):Rat)/((pw f:Int):Rat):=by
 obtain⟨d,hd⟩:=Jd (show 0<=pw f by have:=G2 f;omega);rw[hd,He,Qg];rfl
theorem sO(n:Nt)(inj:Int)(k:Nat)(ts:List (Int×Int))(t j:Nat)(hj:j<n.s.toNat+1):(FS n inj k ts t)[j]?=some (EU (FW n inj k j) (ts.take t)/((pw n.c.f:Int):Rat)):=by
 simp only[FS,ya,Pa hj,Ja]
theorem AnS(n:Nt)(inj:Int)(k:Nat){ts:List (Int×Int)}{t j:Nat}{e:Int×Int}(he:ts[t]?=some e)(hj:j<n.s.toNat+1) :
  (FS n inj k ts (t+1))[j]?=some (EU (FW n inj k j) (ts.take t)/((pw n.c.f:Int):Rat)+((e.2:Int):Rat)/((pw n.c.f:Int):Rat)*(FW n inj k j).getD e.1.toNat 0):=by
 rw[sO n inj k ts (t+1) j hj,Zg he];congr 1;simp only[yb];grind
theorem AnT(n:Nt)(inj:Int)(k:Nat)(ts:List (Int×Int)){m:Nat}(hm:n.s.toNat=m):DF (m+1) (-1)=FS n inj k ts 0:=by
 rw[FS,hm,DF];refine ka λj _=>?_
 rw[if_neg O',xb,EU,yb,oc]
theorem AjU(N:aw L)(n:Nat)(j:Int)(hn:n<=65536):NS L 135 [.int .i64 (n:Int),.int .i64 j] 3 ((DF n j).map eQ):=by
 have hO:=NY N.tob7 0 O';have hI:=NY N.tob7 1 O';refine NS.x N.P1 rfl rfl ?_;(repeat' (apply AE<;>conv=>whnf))
 refine DG (λi=>n-i) (λ(i:Nat)=>i<=n) (λi=>[(6,.int .i64 i),(5,.row 5 0 3 0 i)]) (λi=>[(5,5,.rw 3 ((DF i j).map eQ))]) 0 O' ?_;intro i p1 ih;have hlen:=cS i j;by_cases hi:i<n
 ·have tf:=An4 i j
  by_cases hj:(i:Int)=j
  ·rw[if_pos hj]at tf
   repeat' (first|apply AG<;>intro hc<;>try omega|apply CT|apply AE|refine AD (hI) ?_)<;>conv=>whnf
   refine DH (enc:=eQ) ((1:Int):Rat) rfl hlen.symm rfl O' O' ?_;conv=>whnf
   repeat' (first|apply AR;omega|fail)<;>conv=>whnf
   rw[show(DF i j++[((1:Int):Rat)]).length=i+1 by simp[hlen],show DF i j++[((1:Int):Rat)]=DF (i+1) j from tf.symm];exact BF [(5,18)] (ih (i+1) O' O')
  ·rw[if_neg hj]at tf
   repeat' (first|apply AG<;>intro hc<;>try omega|apply CT|apply AE|refine AD (hO) ?_)<;>conv=>whnf
   refine DH (enc:=eQ) ((0:Int):Rat) rfl hlen.symm rfl O' O' ?_;conv=>whnf
   repeat' (first|apply AR;omega|fail)<;>conv=>whnf
   rw[show(DF i j++[((0:Int):Rat)]).length=i+1 by simp[hlen],show DF i j++[((0:Int):Rat)]=DF (i+1) j from tf.symm];exact BF [(5,22)] (ih (i+1) O' O')
 ·obtain rfl:i=n:=O'
  clear ih;repeat' (first|apply AG<;>intro hc<;>try omega|apply AE)<;>conv=>whnf
  exact⟨rfl,rfl,by simp[hlen],rfl,MM _⟩
theorem zY(N:au L)(n:Nt)(inj:Int)(hv:DN n=true)(gq:VG (DE n))(fg:n.nodes.length<=5)(oz:DJ inj) :
  Ev L 163 [.agg (B2 n),.int .i64 inj] (.sl false ((H2 n inj n.nodes.length).map λr=>[AV.sl false (r.map eQ)])):=by
 rw[C1]at hv;obtain⟨h1,h2,h3,h4,h5,h6⟩:=hv;unfold DJ at oz;have hwf:0<=n.c.f/\n.c.f<=62:=by unfold WV at h2;omega
 have Dp:=G2 n.c.f;have vd:(pw n.c.f).natAbs<=2^24:=by
  have hf:n.c.f<24:=by unfold WV at h2;omega
  have h9:(2:Nat)^n.c.f.toNat<=2^24:=Fa O' O';rw[pw];exact_mod_cast h9
 have e24:(2:Nat)^24=16777216:=rfl;obtain⟨m,hm⟩:∃m:Nat,n.s=m:=⟨n.s.toNat,(Kb O').symm⟩;have rk:n.s.toNat=m:=O'
 have ix:(1+n.s).toNat=m+1:=O'
 have hZ:∀j:Int,NS L 135 [.int .i64 ((m:Int)+1),.int .i64 j] 3 ((DF (m+1) j).map eQ):=λj=>AjU N.toaw (m+1) j O'
 have cz:ET n inj 0 0=DF (m+1) (if inj<0 then n.s else -1):=by rw[AmN n inj O',rk]
 have Qt:∀i:Nat,i<m->ET n inj 0 (i+1)=DF (m+1) (i:Int):=λi hi=>by rw[AmM n inj i O' O',rk]
 rw[hm]at cz;refine Ev.x N.J0 rfl rfl ?_;refine Aem 6 ?_;conv=>whnf
 refine Ael 5 5 rfl ?_;repeat' (first|apply AG<;>intro hc<;>try omega|apply AR;omega|apply AE)<;>conv=>whnf
 all_goals rw[hm]
 rw[if_neg O']at cz;rotate_left
 rw[if_pos O']at cz;rotate_left
 all_goals
  refine cY (enc:=eQ) (m+1) (hZ _) (by simp[DF]) ?_;rw[<-cz];conv=>whnf
  refine A4 (by rw[xa,WT,rk]) ?_;refine ZM (ll:=[]) (r:=ET n inj 0 0) (en:=eQ) rfl Z' Z' ?_;conv=>whnf
  skip
  try refine BB (ch:=[(6,.int .i64 0),(5,.row 20 0 1 0 1),(2,.ptr 2 0 0 0),(0+1,.int .i64 inj)]) (M':=[(20,5,.mx (E2 3 eQ ([]++[ET n inj 0 0]))),(2,2,.bx [.int .i64 n.d.b,.int .i64 n.d.f,.int .i64 n.d.r,.int .i64 n.d.o,.int .i64 n.c.b,.int .i64 n.c.f,.int .i64 n.c.r,.int .i64 n.c.o,.int .i64 m,.sl n.qn (n.nodes.map QZ),.sl n.qx (n.next.map AZ),.int .i64 n.out])]) [(20,29)] E' ?_
  refine DG (λi=>m-i) (λ(i:Nat)=>i<=m) (λi=>[(6,.int .i64 i),(5,.row 20 0 1 0 (1+i))]) (λi=>[(20,5,.mx (E2 3 eQ ((Oa (1+i)).map (ET n inj 0))))]) 0 O' ?_;intro i p1 ih;have hlr:((Oa (1+i)).map (ET n inj 0)).length=1+i:=Z'
  by_cases hi:i<m
  ·have Qt:=Qt i hi
   have hsc:(Oa (1+i)).map (ET n inj 0)++[ET n inj 0 (i+1)]=(Oa (1+(i+1))).map (ET n inj 0):=by
    rw[show 1+(i+1)=(1+i)+1 by omega,Dc,Cc,wg,pd i 1]
   repeat' (first|apply AG<;>intro hc<;>try omega|apply AR;omega|apply AE)<;>conv=>whnf
   refine cY (enc:=eQ) (m+1) (hZ _) (by simp[DF]) ?_;rw[<-Qt];conv=>whnf
   refine A4 (by rw[xa,WT,rk]) ?_;refine ZM (r:=ET n inj 0 (i+1)) (en:=eQ) hlr.symm O' O' ?_;rw[hsc,show((Oa (1+(i+1))).map (ET n inj 0)).length=1+(i+1)by simp];conv=>whnf
   repeat' (first|apply AR;omega|fail)<;>conv=>whnf
   exact BF [(20,43)] (ih (i+1) O' O')
  obtain rfl:i=m:=O'
  clear ih;rw[show(Oa (1+i)).map (ET n inj 0)=H2 n inj 0 by rw[H2,ix,pd]];have k7:(DE n).length=n.nodes.length:=by simp[DE]
  repeat' (first|apply AG<;>intro hc<;>try omega|apply AE)<;>conv=>whnf
  refine EA (λk=>n.nodes.length-k) (λ(k:Nat)=>k<=n.nodes.length) (λk=>[(7,.int .i64 k),(5,.row 20 0 1 0 (i+1+k))]) (λk=>[(20,5,.mx (E2 3 eQ (H2 n inj k)))]) [] [] 0 (by first|exact E'|(rw[pd 1 i];exact E')) O' ?_;intro k p2 ih;have il:=jH n inj k;by_cases hk:k<n.nodes.length
  ·obtain⟨nd,hnd⟩:=N' n.nodes k hk
   have uc:n.nodes[(k:Int).toNat]?=some nd:=hnd;have mq:(DE n)[k]?=some nd.ts:=by simp[DE,hnd]
   have Ew:=iL h4 hnd;have hL:nd.ts.length<=5:=gq.len _ (zM mq);have hC:=gq.cf _ (zM mq);repeat' (first|apply AG<;>intro hc<;>try omega|apply AR;omega|apply AP|apply AE)<;>conv=>whnf
   refine cY (enc:=eQ) (i+1) (hZ _) (by simp[DF]) ?_;rw[show DF (i+1) (-1)=FS n inj k nd.ts 0 from AnT n inj k nd.ts rk];conv=>whnf
   refine DG (λt=>nd.ts.length-t) (λ(t:Nat)=>t<=nd.ts.length) (λt=>[(9,.int .i64 t)]) (λt=>[(54,54,.rw 3 ((FS n inj k nd.ts t).map eQ))]) 0 O' ?_;intro t p3 th;by_cases ht:t<nd.ts.length
   ·obtain⟨e,he⟩:=N' nd.ts t ht
    have jb:nd.ts[(t:Int).toNat]?=some e:=he;have Hq:=zM he;have k8:=Da.1 Ew e Hq;simp only[IA,decide_eq_true_eq]at k8;have Gz:=hC e Hq;have hF:=nE N.tob7 e.2 (pw n.c.f) O' O';rw[Ahl]at hF;have Ef:Bt 48 (((e.2:Int):Rat)/((pw n.c.f:Int):Rat)):=(Bt.ofInt Gz).yi Dp vd;repeat' (first|apply AG<;>intro hc<;>try omega|apply AP|refine A5 V' ?_ rfl ?_;omega|apply AE)<;>conv=>whnf
    refine EA (λj=>i+1-j) (λ(j:Nat)=>j<=i+1) (λj=>[(11,.int .i64 j)]) (λj=>[(54,54,.rw 3 (((FS n inj k nd.ts (t+1)).take j++(FS n inj k nd.ts t).drop j).map eQ))]) [] [] 0 (by first|exact E'|(rw[xb,Pc,Bd];exact E')) O' ?_;intro j p4 jh;have Az:(FS n inj k nd.ts (t+1)).length=i+1:=by simp[FS,rk]
    have fi:(FS n inj k nd.ts t).length=i+1:=by simp[FS,rk]
    have ux:((FS n inj k nd.ts (t+1)).take j++(FS n inj k nd.ts t).drop j).length=i+1:=by rw[ga,za,Od];omega
    by_cases hj:j<i+1
    ·have Ki:=vX n inj k j h2 gq O' fg
     have u6:=lM n inj k j O';have o7:=AnS n inj k he (show j<n.s.toNat+1 by omega);have gk:=sO n inj k nd.ts t j O';obtain⟨x,hx⟩:=N' (ET n inj k e.1.toNat) j (by rw[WT];omega);have Le:(FW n inj k j).getD e.1.toNat 0=x:=by
      rw[ET,ya,Pa O',Ja,ue]at hx;exact hx
     have lg:Bt 117150 x:=by rw[<-Le];exact Ki.getD _
     rw[Le]at o7;have Cm:Bt 586000 (EU (FW n inj k j) (nd.ts.take t)/((pw n.c.f:Int):Rat)):=by
      have a1:=Ki.sum (nd.ts.take t) (j:=24) (λe he=>Bt.ofInt (hC e (tb he)));have a2:Bt 585900 (EU (FW n inj k j) (nd.ts.take t)):=a1.le (by
       have:(nd.ts.take t).length<=5:=by rw[za];omega
       omega)
      exact(a2.yi Dp vd).le O'
     have Ky:(H2 n inj k)[e.1.toNat]?=some (ET n inj k e.1.toNat):=by
      rw[H2,ya,Pa O'];rfl
     have lz:((FS n inj k nd.ts (t+1)).take j++(FS n inj k nd.ts t).drop j)[j]?=some (EU (FW n inj k j) (nd.ts.take t)/((pw n.c.f:Int):Rat)):=by
      rw[Fb J',za,Ed O',Qc,ie,Gd];exact gk
     have bz:=AlJ (b:=FS n inj k nd.ts t) o7 O';have Ik:=WT n inj k e.1.toNat;generalize EU (FW n inj k j) (nd.ts.take t)/((pw n.c.f:Int):Rat)=sm at*;have hM:=V4 N.tob7 Ef lg O' O';have hA:=Q1 N.tob7 Cm (Ef.mul lg) O' O';repeat' (first|apply AG<;>intro hc<;>try omega|apply A4;omega|refine ID ?_ (λ_ _=>?_);omega|apply B7;omega|refine VE ?_ (λ_=>rfl) (λv hv=>?_);omega|apply AE|refine AD (hF) ?_)<;>conv=>whnf
     cases lz.symm.trans hv;skip
     refine Ae3 O' (λr hr=>?_);cases Ky.symm.trans hr;conv=>whnf
     skip
     refine A4 H' ?_;conv=>whnf
     refine Ae1 Ky ?_;conv=>whnf
     repeat' (first|refine VE ?_ (λ_=>rfl) (λv hv=>?_);omega|fail)<;>conv=>whnf
     cases hx.symm.trans hv;repeat' (first|apply A4;omega|refine AD (hM) ?_|refine AD (hA) ?_)<;>conv=>whnf
     refine H4 (enc:=eQ) (sm+((e.2:Int):Rat)/((pw n.c.f:Int):Rat)*x) rfl (λ_=>rfl) O' ?_;conv=>whnf
     rw[bz];repeat' (first|apply AR;omega|fail)<;>conv=>whnf
     exact BF [] (jh (j+1) O' O')
    ·obtain rfl:j=i+1:=O'
     clear jh;rw[zT O',Lc O',mb];repeat' (first|apply AG<;>intro hc<;>try omega|apply AR;omega|apply AE)<;>conv=>whnf
     exact BF [] (th (t+1) O' O')
   ·obtain rfl:t=nd.ts.length:=O'
    clear th;have hI:=NY N.tob7 1 O';have fi:(FS n inj k nd.ts nd.ts.length).length=i+1:=by simp[FS,rk]
    have Im:=AmQ n inj k mq hk;have Ii:=jH n inj (k+1);have gk:=sO n inj k nd.ts nd.ts.length i O';have Ki:=vX n inj k i h2 gq O' fg;have Cm:Bt 586000 (EU (FW n inj k i) (nd.ts.take nd.ts.length)/((pw n.c.f:Int):Rat)):=by
     have a1:=Ki.sum (nd.ts.take nd.ts.length) (j:=24) (λe he=>Bt.ofInt (hC e (tb he)));have a2:Bt 585900 (EU (FW n inj k i) (nd.ts.take nd.ts.length)):=a1.le (by
      have:(nd.ts.take nd.ts.length).length<=5:=by rw[za];omega
      omega)
     exact(a2.yi Dp vd).le O'
    have Ik:=WT n inj (k+1) ((1+n.s).toNat+k);by_cases tz:(k:Int)=inj
    ·all_goals try omega
     all_goals
      have hri:=AmO n inj k mq hk tz (x:=EU (FW n inj k i) (nd.ts.take nd.ts.length)/((pw n.c.f:Int):Rat)) (by rw[rk];exact gk);rw[rk]at hri;generalize EU (FW n inj k i) (nd.ts.take nd.ts.length)/((pw n.c.f:Int):Rat)=sm at*;have hA:=Q1 N.tob7 Cm (Bt.ofInt (k:=0) (z:=1) Y') O' O';repeat' (first|apply AG<;>intro hc<;>try omega|apply A4;omega|apply AP|refine A5 V' ?_ rfl ?_;omega|refine VE ?_ (λ_=>rfl) (λv hv=>?_);omega|apply AE|refine AD (hI) ?_)<;>conv=>whnf
      cases gk.symm.trans hv;repeat' (first|apply A4;omega|refine AD (hA) ?_)<;>conv=>whnf
      refine H4 (enc:=eQ) (sm+1) rfl (λ_=>rfl) O' ?_;conv=>whnf
      rw[hri];refine A4 H' ?_;refine ZM (r:=ET n inj (k+1) ((1+n.s).toNat+k)) (en:=eQ) O' O' O' ?_;rw[<-Im,Ii,ix];conv=>whnf
      repeat' (first|apply AR;omega|fail)<;>conv=>whnf
      exact BF [(20,123)] (ih (k+1) O' O')
    ·rw[AmP n inj k mq hk tz]
     repeat' (first|apply AG<;>intro hc<;>try omega|apply AP|refine A5 V' ?_ rfl ?_;omega|apply AE)<;>conv=>whnf
     refine A4 H' ?_;refine ZM (r:=ET n inj (k+1) ((1+n.s).toNat+k)) (en:=eQ) O' O' O' ?_;rw[<-Im,Ii,ix];conv=>whnf
     repeat' (first|apply AR;omega|fail)<;>conv=>whnf
     exact BF [(20,123)] (ih (k+1) O' O')
  ·obtain rfl:k=n.nodes.length:=O'
   clear ih;repeat' (first|apply AG<;>intro hc<;>try omega|apply AP|apply AE)<;>conv=>whnf
   refine VH (λ_=>rfl) rfl O' ?_;conv=>whnf
   refine AW rfl ?_;simp only[AY,true_and];exact L2 (λr=>by simp only[BK,AY,and_true,true_and];exact MM r) _
abbrev eV(r:o_):w_:=[.sl false (r.map eQ)]
def EV(n:Nt)(R:P'):HX where
 a:=n.next.map λe=>(R.getD e.toNat []).take n.s.toNat
 b:=n.next.map λe=>(R.getD e.toNat []).getD n.s.toNat 0
 c:=(R.getD n.out.toNat []).take n.s.toNat
 d:=(R.getD n.out.toNat []).getD n.s.toNat 0
theorem zZ(N:au L)(n:Nt)(R:P')(hv:DN n=true)(hR:(R.length:Int)=1+n.s+n.nodes.length)(hr:∀r∈R,r.length=n.s.toNat+1) :
  Ev L 164 [.agg (B2 n),.sl false (R.map eV)] (.agg (eS (EV n R))):=by
 rw[C1]at hv;obtain⟨h1,h2,h3,h4,h5,h6⟩:=hv;have ik:∀e∈n.next,0<=e/\e<=n.s+n.nodes.length:=λe he=>by simpa using Da.1 h5 e he
 obtain⟨m,hm⟩:∃m:Nat,n.s=m:=⟨n.s.toNat,(Kb O').symm⟩;have rk:n.s.toNat=m:=O'
 obtain⟨ro,zn⟩:=N' R n.out.toNat;have ACr:=hr ro (zM zn);obtain⟨x,hx⟩:=N' ro m;have ve:ro[(m:Int).toNat]?=some x:=hx;have fb:(EV n R).c=ro.take m:=by simp only[EV,ua,zn,rk,Qb]
 have rh:(EV n R).d=x:=by simp only[EV,ua,zn,rk,Qb,hx]
 have na:(EV n R).a.length=m:=by simp[EV];omega
 have lf:(EV n R).b.length=m:=by simp[EV];omega
 refine Ev.x N.PZ rfl rfl ?_;repeat' (first|refine A5 V' ?_ rfl ?_;omega|apply AE)<;>conv=>whnf
 rw[hm];refine QS (λ_=>rfl) O' ?_;conv=>whnf
 repeat' (first|refine A5 V' ?_ rfl ?_;omega|fail)<;>conv=>whnf
 refine EE (λi _=>m-i) (λ(i:Nat)(f3:Bool)=>i<=m/\f3=decide (i=0)) (λi f3=>[(6,.int .i64 i)]) (λi f3=>bif f3 then[]else[(5,5,.bx ([.row 45 0 1 0 i,.row 62 0 3 0 i,.sl false ((ro.take m).map eQ)]++eQ x)),(45,45,.rw 1 (((EV n R).a.take i).map eV)),(62,62,.rw 3 (((EV n R).b.take i).map eQ))]) 0 true ⟨O',rfl⟩ ?_;intro i f3 ⟨p1,p2⟩ ih;by_cases hi:i<m
 ·obtain⟨e,he⟩:=N' n.next i
  have hx2:n.next[(i:Int).toNat]?=some e:=he
  have hen:=ik e (zM he);obtain⟨re,Pr⟩:=N' R e.toNat;have Di:=hr re (zM Pr);obtain⟨y,hy⟩:=N' re m;have Be:re[(m:Int).toNat]?=some y:=hy;have ha:(EV n R).a[i]?=some (re.take m):=by simp only[EV,ya,he,Ja,ua,Pr,rk,Qb]
  have hb:(EV n R).b[i]?=some y:=by simp only[EV,ya,he,Ja,ua,Pr,rk,Qb,hy]
  have hta:((EV n R).a.take i).length=i:=by rw[za];omega
  have Ip:((EV n R).b.take i).length=i:=by rw[za];omega
  have Qe:((EV n R).a.take (i+1)).length=i+1:=by rw[za];omega
  have Qf:((EV n R).b.take (i+1)).length=i+1:=by rw[za];omega
  have hsa:=sQ ha;have hsb:=sQ hb;cases f3
  ·repeat' (first|apply AG<;>intro hc<;>try omega|refine A5 V' ?_ rfl ?_;omega|apply AE)<;>conv=>whnf
   refine QS (λ_=>rfl) O' ?_;conv=>whnf
   (repeat' (apply CT<;>conv=>whnf))
   refine DH (enc:=eV) (re.take m) rfl hta.symm rfl O' O' ?_;rw[<-hsa,Qe];conv=>whnf
   repeat' (first|refine A5 V' ?_ rfl ?_;omega|apply CT)<;>conv=>whnf
   refine DH (enc:=eQ) y rfl Ip.symm rfl O' O' ?_;rw[<-hsb,Qf];conv=>whnf
   repeat' (first|apply AR;omega|fail)<;>conv=>whnf
   exact BF [(45,1000045),(62,1000062)] (ih (i+1) false O' ⟨O',Z'⟩)
  ·obtain rfl:i=0:=by simpa using p2.symm
   repeat' (first|apply AG<;>intro hc<;>try omega|refine A5 V' ?_ rfl ?_;omega|apply AE)<;>conv=>whnf
   refine QS (λ_=>rfl) O' ?_;conv=>whnf
   (repeat' (apply CT<;>conv=>whnf))
   refine MH (enc:=eV) (re.take m) rfl rfl O' ?_;rw[show[re.take m]=(EV n R).a.take (0+1)by rw[hsa];rfl];conv=>whnf
   repeat' (first|refine A5 V' ?_ rfl ?_;omega|apply CT)<;>conv=>whnf
   refine MH (enc:=eQ) y rfl rfl O' ?_;rw[show[y]=(EV n R).b.take (0+1)by rw[hsb];rfl];conv=>whnf
   repeat' (first|apply AR;omega|fail)<;>conv=>whnf
   exact BF [] (ih (0+1) false O' ⟨O',Z'⟩)
 ·obtain rfl:i=m:=O'
  clear ih;rw[zT (show(EV n R).a.length<=i by omega),zT (show(EV n R).b.length<=i by omega)];cases f3
  ·repeat' (first|apply AG<;>intro hc<;>try omega|apply AE)<;>conv=>whnf
   refine C6 (enc:=eV) (λ_=>rfl) rfl na.symm ?_;conv=>whnf
   refine C6 (enc:=eQ) (λ_=>rfl) rfl lf.symm ?_;conv=>whnf
   exact AW (by rw[<-rh,<-fb];rfl) (eG _)
  ·obtain rfl:i=0:=by simpa using p2.symm
   have Ap:(EV n R).a=[]:=Ge na;have jn:(EV n R).b=[]:=Ge lf;repeat' (first|apply AG<;>intro hc<;>try omega|apply AE)<;>conv=>whnf
   exact AW (by rw[<-rh,<-fb,eS,Ap,jn];rfl) (eG _)
theorem AgQ(n:Nt)(inj:Int)(j:Nat)(hj:j<n.s.toNat):FW n inj n.nodes.length j=G4 n ((j:Int)+1) (-1):=by
 have k7:(DE n).length=n.nodes.length:=by simp[DE]
 rw[FW,<-k7,Pb,MS,Y9,if_pos hj,if_pos hj];rfl
theorem AgP(n:Nt)(inj:Int):FW n inj n.nodes.length n.s.toNat=if inj<0 then G4 n 0 (-1)else G4 n (-1) inj:=by
 have k7:(DE n).length=n.nodes.length:=by simp[DE]
 rw[FW,<-k7,Pb];unfold MS Y9;rw[if_neg (yh _),if_neg (yh _)];by_cases h:inj<0
 ·simp only[if_pos h];rfl
 ·simp only[if_neg h];rfl
theorem jI(n:Nt)(inj:Int){m:Nat}(hm:m<(1+n.s).toNat+n.nodes.length):(H2 n inj n.nodes.length).getD m []=ET n inj n.nodes.length m:=by
 rw[ua,H2,ya,Pa hm];rfl
theorem Xc(n:Nt)(inj:Int)(m:Nat):(ET n inj n.nodes.length m).take n.s.toNat=(Oa n.s.toNat).map λ(j:Nat)=>(G4 n ((j:Int)+1) (-1)).getD m 0:=by
 rw[ET,<-List.map_take,Dc,List.take_append_of_le_length Z',zT Z'];refine ka λj hj=>?_
 rw[AgQ n inj j (Gb.1 hj)]
theorem Xb(n:Nt)(inj:Int)(m:Nat):(ET n inj n.nodes.length m).getD n.s.toNat 0=(if inj<0 then G4 n 0 (-1)else G4 n (-1) inj).getD m 0:=by
 rw[ET,ua,ya,Pa O',Ja,Qb,AgP]
theorem Zj(n:Nt)(inj:Int)(hv:DN n=true):EV n (H2 n inj n.nodes.length)=if inj<0 then FP n else IY n inj:=by
 rw[C1]at hv;obtain⟨h1,h2,h3,h4,h5,h6⟩:=hv;have ik:∀e∈n.next,0<=e/\e<=n.s+n.nodes.length:=λe he=>by simpa using Da.1 h5 e he
 have ea:(EV n (H2 n inj n.nodes.length)).a=(FP n).a:=by
  simp only[EV,FP];refine ka λe he=>?_
  have:=ik e he
  rw[jI n inj O',Xc]
 have ec:(EV n (H2 n inj n.nodes.length)).c=(FP n).c:=by
  simp only[EV,FP];rw[jI n inj O',Xc]
 have eb:(EV n (H2 n inj n.nodes.length)).b=n.next.map λe=>(if inj<0 then G4 n 0 (-1)else G4 n (-1) inj).getD e.toNat 0:=by
  simp only[EV];refine ka λe he=>?_
  have:=ik e he
  rw[jI n inj O',Xb]
 have ed:(EV n (H2 n inj n.nodes.length)).d=(if inj<0 then G4 n 0 (-1)else G4 n (-1) inj).getD n.out.toNat 0:=by
  simp only[EV];rw[jI n inj O',Xb]
 generalize EV n (H2 n inj n.nodes.length)=S at*;obtain⟨a,b,c,d⟩:=S;simp only at ea eb ec ed;subst ea eb ec ed;split<;>rfl
theorem yI(I:a8 L)(N:au L)(n:Nt)(hv:DN n=true)(gq:VG (DE n))(fg:n.nodes.length<=5):Ev L 165 [.agg (B2 n)] (.j5 [.agg (eS (FP n)),.int .i64 0]):=by
 have hV:=V9 n I N.tok9;rw[hv]at hV;have hR:=zY N n (-1) hv gq fg (by unfold DJ;omega);have h3:=(C1 n).1 hv;have hS:=zZ N n (H2 n (-1) n.nodes.length) hv (by rw[jH];omega) (λr hr=>by
  obtain⟨m,_,rfl⟩:=sa.1 hr;exact WT _ _ _ _)
 rw[Zj n (-1) hv,if_pos O']at hS;refine Ev.x N.UT rfl rfl ?_;repeat' (first|apply AE|refine AD (hV) ?_|refine AD (hR) ?_|refine AD (hS) ?_)<;>conv=>whnf
 refine AW rfl ?_;simp only[AY,BK,and_true];exact eG (FP n)
theorem Aiz(I:a8 L)(N:au L)(n:Nt)(node:Int)(hv:DN n=true)(gq:VG (DE n))(fg:n.nodes.length<=5)(hnI:DJ node):Ev L 166 [.agg (B2 n),.int .i64 node] (gO n node):=by
 have hV:=V9 n I N.tok9;rw[hv]at hV;have h3:=(C1 n).1 hv;have hIn:=MR I node 0 ((n.nodes.length:Int)-1);refine Ev.x N.US rfl rfl ?_;by_cases ig:0<=node/\node<n.nodes.length
 ·have hR:=zY N n node hv gq fg hnI
  have hS:=zZ N n (H2 n node n.nodes.length) hv (by rw[jH];omega) (λr hr=>by
   obtain⟨m,_,rfl⟩:=sa.1 hr;exact WT _ _ _ _)
  rw[Zj n node hv,if_neg O']at hS;rw[decide_eq_true O']at hIn;repeat' (first|apply BS;omega|apply AP|apply AE|refine AD (hV) ?_|refine AD (hIn) ?_|refine AD (hR) ?_|refine AD (hS) ?_)<;>conv=>whnf
  rw[gO,if_pos ig];refine AW rfl ?_;simp only[AY,BK,and_true];exact eG (IY n node)
 ·rw[decide_eq_false O']at hIn
  repeat' (first|apply BS;omega|apply AP|apply AE|refine AD (hV) ?_|refine AD (hIn) ?_)<;>conv=>whnf
  rw[gO,if_neg ig];exact AW rfl (AgC 1)
end Go.e9

namespace Go.e9
open Go.ChangeShapes Go.WideShapes Go.ChangeAt Go.RowKit
inductive Ty where
 |int (k:IntKind)
 |bool
 |sl (e:Ty)
 |nil
 |cons (a r:Ty)
def Ty.cells:Ty->Nat
 |.int _=>1 |.bool=>1 |.sl _=>1
 |.nil=>0
 |.cons a r=>a.cells+r.cells
def LV(l:Bool):Ty->w_->Prop
 |.int k,cs=>∃n,cs=[.int k n]/\(Lit.int k n).wf=true
 |.bool,cs=>∃b,cs=[.bool b]
 |.sl e,cs=>∃es,cs=[.sl l es]/\es.length<=maxLen/\∀x∈es,LV l e x
 |.nil,cs=>cs=[]
 |.cons a r,cs=>∃x y,cs=x++y/\LV l a x/\LV l r y
abbrev RU:=LV true
theorem LV.len{l:Bool}:∀{ty:Ty}{cs:w_},LV l ty cs->cs.length=ty.cells
 |.int _,cs,h=>by obtain⟨n,rfl,_⟩:=h;rfl
 |.bool,cs,h=>by obtain⟨n,rfl⟩:=h;rfl
 |.sl _,cs,h=>by obtain⟨n,rfl,_⟩:=h;rfl
 |.nil,cs,h=>by rw[show cs=[]from h];rfl
 |.cons a r,cs,h=>by obtain⟨x,y,rfl,h1,h2⟩:=h;simp[Ty.cells,LV.len h1,LV.len h2]
def ND(P:Program):Nat->TypeId->Ty->Bool
 |0,_,_=>false
 |n+1,t,ty=>match P.underlying t,ty with
  |some (.int k),.int k'=>decide (k=k')
  |some .bool,.bool=>true
  |some (.slice e),.sl nk=>ND P n e nk&&(P.cellsOf e == nk.cells&&decide (0<nk.cells))
  |some (.struct fs),ty=>go (ND P n) fs.toList 0 ty&&P.cellsOf t == ty.cells
  |_,_=>false
where
 go (ok:TypeId->Ty->Bool):List Field->Nat->Ty->Bool
  |[],_,.nil=>true
  |f::fs,off,.cons a r=>(f.offset == off&&(ok f.type a&&P.cellsOf f.type == a.cells))&&go ok fs (off+a.cells) r
  |_,_,_=>false
section
variable {H:Type} {enc:TypeId × Value->H} {P:Program} {w:World} {base:Nat} {spare:Nat->Bool} {held:Bool} {R:Bool->Nat->Prop}
def JO(w:World)(R:Bool->Nat->Prop)(as:w_)(cs:List Value):Prop:=as.length=cs.length/\∀(j:Nat)(a:AV)(c:Value),as[j]?=some a->cs[j]?=some c->Rd w R a c
theorem JO.one{a:AV}{c:Value}(h:Rd w R a c):JO w R [a] [c]:=by
 refine⟨rfl,λj a' c' h1 h2=>?_⟩;cases j with
 |zero=>simp at h1 h2;subst h1 h2;exact h
 |succ j=>simp at h1
theorem JO.append{as bs:w_}{cs ds:List Value}(h1:JO w R as cs)(h2:JO w R bs ds):JO w R (as++bs) (cs++ds):=by
 refine⟨by simp[h1.1,h2.1],λj a c ha hc=>?_⟩;by_cases hj:j<as.length
 ·rw[dd hj]at ha
  rw[dd (by rw[<-h1.1];exact hj)]at hc;exact h1.2 j a c ha hc
 ·rw[Fb O']at ha
  rw[Fb (by rw[<-h1.1];omega),<-h1.1]at hc;exact h2.2 _ a c ha hc
theorem uO(a:Addr)(i:Nat)(h:a.spot=none):a.add i=⟨a.block,a.off+i,none⟩:=by
 obtain⟨b,o,s⟩:=a;simp only at h;subst h;exact JA b o i
theorem Yf{l:Bool}(hR:∀b,b<w.heap.size->R l b)(m:Nat)(ih:∀(ty:Ty)(t:TypeId)(cs:List Value)(fuel:Nat)(x:DataW H×List MemPlace),ND P m t ty=true->DataW.trod enc P w base spare held fuel t cs=some x->∃as,LV l ty as/\JO w R as cs)
  (n:Nat) (cs:List Value):∀(fs:List Field)(off:Nat)(ty:Ty),ND.go P (ND P m) fs off ty=true->(∀f∈fs,∃y,DataW.trod enc P w base spare held n f.type ((cs.drop f.offset).take (P.cellsOf f.type))=some y)->off+ty.cells=cs.length->∃as,LV l ty as/\JO w R as (cs.drop off)
 |[],off,ty,k8,_,hl=>by
  cases ty<;>simp only[ND.go,ug]at k8;simp only[Ty.cells]at hl;exact⟨[],rfl,by rw[Lc O'];exact⟨rfl,λj a c h=>by simp at h⟩⟩
 |f::fs,off,ty,k8,hf,hl=>by
  cases ty<;>simp only[ND.go,ug,Ld,beq_iff_eq]at k8;rename_i a r;obtain⟨⟨h1,h2,h3⟩,h4⟩:=k8;simp only[Ty.cells]at hl;obtain⟨y,hy⟩:=hf f La;rw[h1,h3]at hy;obtain⟨as1,g1,g2⟩:=ih a f.type _ n y h2 hy;obtain⟨as2,g3,g4⟩:=Yf hR m ih n cs fs (off+a.cells) r h4 (λf' h'=>hf f' (Ma _ h')) O';refine⟨as1++as2,⟨as1,as2,rfl,g1,g3⟩,?_⟩;have:=g2.append g4
  rwa [show(cs.drop off).take a.cells++cs.drop (off+a.cells)=cs.drop off by rw[<-List.drop_drop,Dd]]at this
theorem qH{l:Bool}(hR:∀b,b<w.heap.size->R l b):∀(m:Nat)(ty:Ty)(t:TypeId)(cs:List Value)(fuel:Nat)(x:DataW H×List MemPlace),ND P m t ty=true->DataW.trod enc P w base spare held fuel t cs=some x->∃as,LV l ty as/\JO w R as cs
 |0,_,_,_,_,_,h,_=>by simp[ND]at h
 |m+1,ty,t,cs,fuel,x,k8,h=>by
  have ih:=qH hR m;simp only[ND]at k8;split at k8
  ·rename_i k k' hu
   obtain rfl:k=k':=by simpa using k8
   obtain⟨n,rfl,_,hw⟩:=DataW.trod_int hu h;exact⟨[.int k n],⟨n,rfl,hw⟩,JO.one (.int k n)⟩
  ·rename_i hu
   cases fuel with
   |zero=>simp[DataW.trod]at h
   |succ fuel=>
    unfold DataW.trod at h;rw[hu]at h;split at h<;>simp_all
    exact⟨_,⟨_,rfl⟩,JO.one (.bool _)⟩
  ·rename_i e nk hu
   simp only[Ld,beq_iff_eq,decide_eq_true_eq]at k8;obtain⟨h1,h2,h3⟩:=k8;rcases DataW.trod_slice hu h with⟨rfl,_⟩|⟨a,len,cap,elems,rest,n,_,rfl,_,hb,hl,hm,hlen,fc,_,_⟩
   ·exact⟨[.sl l []],⟨[],rfl,Z',Z'⟩,JO.one (.jl l none 0)⟩
   ·have each:∀i,i<len->∃as gj,LV l nk as/\JO w R as gj/\gj.length=nk.cells/\∀j,j<nk.cells->w.cell? ((a.add (i*nk.cells)).add j)=gj[j]? := by
     intro i hi;have:=fc i hi
     rw[h2,zE O',Option.bind_eq_some_iff]at this;obtain⟨gj,hc,ht⟩:=this;obtain⟨as,g1,g2⟩:=ih nk e gj n _ h1 ht;obtain⟨_,q1,q2⟩:=World.cells?_some hc;exact⟨as,gj,g1,g2,q1,q2⟩
    by_cases h0:len=0
    ·subst h0
     exact⟨[.sl l []],⟨[],rfl,Z',Z'⟩,JO.one (.jl l (some a) cap)⟩
    ·have Bb:a.spot=none:=by
      obtain⟨as,gj,_,_,q1,q2⟩:=each 0 O';have:=q2 0 h3
      rw[zE O']at this;simpa [Addr.add]using World.cell?_spot this
     have hblk:a.block<w.heap.size:=by
      obtain⟨as,gj,_,_,q1,q2⟩:=each 0 O';have:=q2 0 h3
      rw[zE O']at this;simpa [Addr.add]using RZ this
     have pick:∃f:Nat->List AV×List Value,∀i,i<len->LV l nk (f i).1/\JO w R (f i).1 (f i).2/\(f i).2.length=nk.cells/\∀j,j<nk.cells->w.cell? ((a.add (i*nk.cells)).add j)=(f i).2[j]? := by
      refine⟨λi=>if hi:i<len then(Classical.choose (each i hi),Classical.choose (Classical.choose_spec (each i hi)))else([],[]),λi hi=>?_⟩;simp only[hi,dif_pos];exact Classical.choose_spec (Classical.choose_spec (each i hi))
     obtain⟨f,hf⟩:=pick;have o5:∀i e',((Oa len).map λi=>(f i).1)[i]?=some e'->i<len/\e'=(f i).1:=by
      intro i e' he;rw[ya]at he;by_cases hi:i<len
      ·rw[Pa hi]at he
       simp at he;exact⟨hi,he.symm⟩
      ·rw[Ic (by simpa using hi)]at he
       cases he
     refine⟨[.sl l ((Oa len).map λi=>(f i).1)],⟨_,rfl,by simp;omega,λx hx=>?_⟩,JO.one ?_⟩
     ·obtain⟨i,hi,rfl⟩:=sa.1 hx
      exact(hf i (Gb.1 hi)).1
     ·obtain⟨ab,ao,as⟩:=a
      simp only at Bb;subst Bb;have Av:((Oa len).map λi=>(f i).1).length=len:=Z'
      have:=Rd.sl (w:=w) (R:=R) l ((Oa len).map λi=>(f i).1) ab ao nk.cells cap (λi j=>((f i).2[j]?).getD default) (by intro e;have:=congrArg ph e;simp at this;omega) h3 (hR ab hblk) (by rw[Av];exact hl)
       (λe' he=>by
        obtain⟨i,hi,rfl⟩:=sa.1 he;exact(hf i (Gb.1 hi)).1.len)
       (λi e' he j c hc=>by
        obtain⟨hi,rfl⟩:=o5 i e' he;obtain⟨g1,g2,g3,g4⟩:=hf i hi;have hj:j<nk.cells:=by
         have:=(zS hc).1
         rwa [g1.len]at this
        have h5:=g4 j hj;rw[uO ⟨ab,ao,none⟩ (i*nk.cells) rfl,uO _ _ rfl]at h5;simp only at h5;rw[show ao+(i*nk.cells+j)=ao+i*nk.cells+j by omega,h5,zE O'];rfl)
       (λi e' he j c hc=>by
        obtain⟨hi,rfl⟩:=o5 i e' he;obtain⟨g1,g2,g3,g4⟩:=hf i hi;have hj:j<nk.cells:=by
         have:=(zS hc).1
         rwa [g1.len]at this
        have h6:(f i).2[j]?=some ((f i).2[j]' O'):=zE _;rw[h6];exact g2.2 j c _ hc h6)
      rwa [Av]at this
  ·rename_i fs hu
   simp only[Ld,beq_iff_eq]at k8;obtain⟨h1,h2⟩:=k8;obtain⟨xs,n,_,_,hl,hlen,hf⟩:=DataW.trod_struct hu h;have:=Yf hR m ih n cs fs.toList 0 _ h1 (λf ot=>by
    obtain⟨i,hi,rfl⟩:=List.getElem_of_mem ot;have h5:=hf i fs.toList[i] Z';rw[h5,zE (by simpa [hlen]using hi)];exact⟨_,rfl⟩) (by rw[hl,h2];omega)
   simpa using this
  ·exact absurd k8 Z'
theorem qI{S:Nat->Prop}{ty:Ty}{t:TypeId}{v:Value}{d:DataW H}{ps:List MemPlace}{m:Nat}(k8:ND P m t ty=true)(hv:v.cells.toList=[v])(h:DataW.Trod enc P w base spare held t v d ps) :
  ∃a,RU ty [a]/\CA w.heap.size S ⟨λ_ _=>none,Own.emp,w⟩ a v:=by
 obtain⟨fuel,hf⟩:=h;rw[hv]at hf;obtain⟨as,h1,h2⟩:=qH (R:=safe w.heap.size S ⟨λ_ _=>none,Own.emp,w⟩) (λb hb=>Or.inr (Or.inr ⟨rfl,hb⟩)) m ty t [v] fuel _ k8 hf;obtain⟨a,rfl⟩:∃a,as=[a]:=by
  have:=h2.1
  match as,this with
  |[a],_=>exact⟨a,rfl⟩
 exact⟨a,h1,.one (.rd (h2.2 0 a v rfl rfl))⟩
theorem Ame{S:Nat->Prop}{ty:Ty}{t:TypeId}{cs:Array Value}{d:DataW H}{ps:List MemPlace}{m:Nat}(k8:ND P m t ty=true)(h:DataW.Trod enc P w base spare held t (.agg cs) d ps) :
  ∃as,RU ty as/\CA w.heap.size S ⟨λ_ _=>none,Own.emp,w⟩ (.agg as) (.agg cs):=by
 obtain⟨fuel,hf⟩:=h;obtain⟨as,h1,h2⟩:=qH (R:=safe w.heap.size S ⟨λ_ _=>none,Own.emp,w⟩) (λb hb=>Or.inr (Or.inr ⟨rfl,hb⟩)) m ty t cs.toList fuel _ k8 hf;refine⟨as,h1,?_⟩;have:=CA.agg (B:=w.heap.size) (S:=S) (m:=⟨λ_ _=>none,Own.emp,w⟩) as cs.toList ⟨h2.1,λj c v hc hv=>.rd (h2.2 j c v hc hv)⟩
 simpa using this
end
theorem Af8{B:Nat}{S:Nat->Prop}{m:M}:∀(j:Nat)(c:AV)(v:Value),([]:w_)[j]?=some c->([]:List Value)[j]?=some v->CA B S m c v:=λj c v h=>by simp at h
theorem dU{B:Nat}{S:Nat->Prop}{m:M}{a:AV}{u:Value}{as:w_}{us:List Value}(h:CA B S m a u)(hr:∀(j:Nat)(c:AV)(v:Value),as[j]?=some c->us[j]?=some v->CA B S m c v) :
  ∀(j:Nat)(c:AV)(v:Value),(a::as)[j]?=some c->(u::us)[j]?=some v->CA B S m c v
 |0,c,v,h1,h2=>by simp at h1 h2;subst h1 h2;exact h
 |j+1,c,v,h1,h2=>hr j c v (by simpa using h1) (by simpa using h2)
theorem Ali{I:E0}{P:Program}{num:Nat->Nat}{L:Lib}(hP:XN I P num L){f:Nat}{vs:w_}(h:Ev L f vs (.bool true)){S:Nat->Prop}{w:World}{us:List Value}(hw:I.ok w)(hl:vs.length=us.length)
  (ha:∀(j:Nat)(c:AV)(v:Value),vs[j]?=some c->us[j]?=some v->CA w.heap.size S ⟨λ_ _=>none,Own.emp,w⟩ c v) :
  Calls P (num f) us.toArray w λe w'=>e = .returned (.bool true)/\Below w.heap.size w w':=by
 obtain⟨n,hn⟩:=h;refine((vD hP n).pure f vs _ hn S w us hw hl ha).mono ?_;rintro e w' ⟨u,rfl,hb,y7,_⟩
 refine⟨?_,hb.toBelow⟩;cases y7 with
 |ca su=>cases su with
  |one ck=>cases ck with
   |rd ko=>cases ko;rfl
end Go.e9

namespace Go.e9
abbrev tI:Ty := .int .i64
theorem pY(x:Rat):x.num<0↔x<0:=by rw[<-Bh,Ig,Eh]
theorem Z1(x:Rat):B1 x=if x<0 then -x else x:=by
 unfold B1;by_cases h:x<0
 ·rw[if_pos h,if_pos ((pY x).2 h)]
 ·rw[if_neg h,if_neg (λe=>h ((pY x).1 e))]
theorem kV(x:Rat):0<=B1 x:=by
 rw[Z1];split
 ·grind
 ·grind
theorem kU(x y:Rat):B1 (x*y)=B1 x*B1 y:=by
 have pp:∀a b:Rat,0<=a->0<=b->0<=a*b:=λa b=>gf
 rw[Z1,Z1,Z1];by_cases hx:x<0
 ·by_cases hy:y<0
  ·have h:=pp (-x) (-y) A' A'
   rw[if_pos hx,if_pos hy,if_neg (by rw[Rat.not_lt];grind)];grind
  ·have h:=pp (-x) y A' A'
   rw[if_pos hx,if_neg hy];by_cases h0:x*y<0
   ·rw[if_pos h0];grind
   ·rw[if_neg h0];grind
 ·by_cases hy:y<0
  ·have h:=pp x (-y) A' A'
   rw[if_neg hx,if_pos hy];by_cases h0:x*y<0
   ·rw[if_pos h0];grind
   ·rw[if_neg h0];grind
  ·have h:=pp x y A' A'
   rw[if_neg hx,if_neg hy,if_neg A']
theorem kW{x:Rat}(h:0<=x):B1 x=x:=by
 rw[Z1,if_neg A']
def BM:o_->Rat
 |[]=>0
 |x::l=>B1 x+BM l
theorem Wm(x:Rat):∀l,BM (l++[x])=BM l+B1 x
 |[]=>by simp only[Pc,BM];grind
 |y::l=>by
  simp only[Ie,BM,Wm x l];grind
theorem Xw:∀l,0<=BM l
 |[]=>by simp[BM]
 |x::l=>by
  have h1:=kV x;have h2:=Xw l;simp only[BM];grind
theorem jL{c:Rat}(hc:0<=c):∀l,BM (l.map (· * c))=BM l*c
 |[]=>by simp only[List.map_nil,BM];grind
 |x::l=>by
  simp only[cd,BM,jL hc l,kU,kW hc];grind
def JI(m x:Rat):Rat:=if m<B1 x then B1 x else m
def C0(l:o_):Rat:=l.foldl JI 0
theorem Aki(l:o_)(x:Rat):C0 (l++[x])=JI (C0 l) x:=by rw[C0,ag];rfl
theorem Ake(m x:Rat):m<=JI m x/\B1 x<=JI m x:=by
 unfold JI;split<;>exact⟨A',A'⟩
theorem Akf{c:Rat}(hc:0<c)(m x:Rat):JI (m*c) (x*c)=JI m x*c:=by
 unfold JI;rw[kU,kW (show 0<=c by grind)];by_cases h:m<B1 x
 ·rw[if_pos h,if_pos ((Hf hc).2 h)]
 ·rw[if_neg h,if_neg (λh1=>h ((Hf hc).1 h1))]
theorem Tq{c:Rat}(hc:0<c):∀(l:o_)(m:Rat),(l.map (· * c)).foldl JI (m*c)=l.foldl JI m*c
 |[],_=>rfl
 |x::l,m=>by rw[cd,Bc,Bc,Akf hc,Tq hc l]
theorem Akh{c:Rat}(hc:0<c)(l:o_):C0 (l.map (· * c))=C0 l*c:=by
 have:=Tq hc l 0
 rwa [oc]at this
theorem Tp:∀(l:o_)(m:Rat),m<=l.foldl JI m/\∀x∈l,B1 x<=l.foldl JI m
 |[],m=>⟨eh,λx h=>by cases h⟩
 |y::l,m=>by
  obtain⟨h1,h2⟩:=Tp l (JI m y);obtain⟨h3,h4⟩:=Ake m y;refine⟨qh h3 h1,λx hx=>?_⟩;rcases ef.1 hx with rfl|hx
  ·exact qh h4 h1
  ·exact h2 x hx
theorem Akg(l:o_):0<=C0 l:=(Tp l 0).1
def ES(a:P'):Bool:=a.all λr=>decide (BM r<=1/2)
def CI(n:Nat)(a:P'):Nat->P'
 |0=>a
 |k+1=>IJ (CI n a k) (CI n a k) n
theorem W5{n:Nat}{a:P'}(h:Sq n a):∀k,Sq n (CI n a k)
 |0=>h
 |k+1=>Sq.mul (W5 h k).l _
def CH(c:Rat)(a:P'):P':=a.map λr=>r.map (· * c)
theorem Wq(c:Rat)(a:P'):(CH c a).length=a.length:=by simp[CH]
theorem jM{n:Nat}(c:Rat){a:P'}(h:∀r∈a,r.length=n):∀r∈CH c a,r.length=n:=λr hr=>by
 obtain⟨s,hs,rfl⟩:=sa.1 hr;rw[xa];exact h s hs
theorem Wr{n:Nat}(c:Rat){a:P'}(h:Sq n a):Sq n (CH c a):=⟨by rw[Wq,h.l],jM c h.r⟩
theorem Ani{c:Rat}{a:P'}{i:Nat}{r:o_}(h:a[i]?=some r):(CH c a)[i]?=some (r.map (· * c)):=by rw[CH,ya,h];rfl
theorem Aj9(r:o_)(c:Rat)(j:Nat):(r.map (· * c)).getD j 0=r.getD j 0*c:=by
 rw[ua,ua,ya];cases r[j]? with
 |none=>simp[oc]
 |some x=>rfl
theorem AgS(c:Rat)(a:P')(j:Nat):DW (CH c a) j=(DW a j).map (· * c):=by
 rw[DW,DW,CH,Jb,Jb];exact ka λr _=>Aj9 r c j
theorem mI(c d:Rat)(u v:o_):BT (u.map (· * c)) (v.map (· * d))=BT u v*(c*d):=by
 rw[mH,mG,mH,mG];grind
theorem AlU(c d:Rat)(a b:P')(n:Nat):IJ (CH c a) (CH d b) n=CH (c*d) (IJ a b n):=by
 show(a.map λr=>r.map (· * c)).map (λr=>GN r (CH d b) n)=(a.map λr=>GN r b n).map (λr=>r.map (· * (c*d)));rw[Jb,Jb];refine ka λr _=>?_
 show GN (r.map (· * c)) (CH d b) n=(GN r b n).map (· * (c*d));rw[GN,GN,Jb];refine ka λj _=>?_
 show BT (r.map (· * c)) (DW (CH d b) j)=BT r (DW b j)*(c*d);rw[AgS,mI]
theorem AlX(c d:Rat)(a:P')(v:o_):GO (CH c a) (v.map (· * d))=(GO a v).map (· * (c*d)):=by
 show(a.map λr=>r.map (· * c)).map (λr=>BT r (v.map (· * d)))=(a.map λr=>BT r v).map (· * (c*d));rw[Jb,Jb];exact ka λr _=>mI c d r v
def D9(D:Rat):Nat->Rat
 |0=>D
 |i+1=>D9 D i*D9 D i
theorem mC{D:Rat}(h:0<D):∀i,0<D9 D i
 |0=>h
 |i+1=>Oc (mC h i) (mC h i)
theorem Adj(n:Nat)(a:P')(D:Rat)(i:Nat):IJ (CH (D9 D i) (CI n a i)) (CH (D9 D i) (CI n a i)) n=CH (D9 D (i+1)) (CI n a (i+1)):=AlU _ _ _ _ _
theorem Sc{s D:Rat}(hD:0<D):s*D+s*D<=D↔s<=1/2:=by
 have e:s*D+s*D=(s+s)*D:=A'
 have h1:(s+s)*D<=1*D↔s+s<=1:=⟨λh=>Rat.le_of_mul_le_mul_right h hD,λh=>Rat.mul_le_mul_of_nonneg_right h A'⟩;rw[Kf]at h1;rw[e,h1];constructor<;>intro h<;>grind
theorem Yx{k:Nat}{x:Rat}(hx:Bt k x){S:Nat}{z:Int}(hz:x*(S:Rat)=(z:Rat)){M:Nat}(hS:S<=2^M):Wh (k+M) (x*(S:Rat)):=by
 refine⟨z,hz,?_⟩;have h1:=WH x;have h2:((z*(x.den:Int):Int):Rat)=((x.num*(S:Int):Int):Rat):=by
  rw[tc,tc,<-h1,<-hz,Ba,Ba];grind
 have h3:=congrArg Int.natAbs (Mg.1 h2);rw[ff,ff,Ob,Ob]at h3;have h4:z.natAbs<=z.natAbs*x.den:=df _ x.den_pos;rw[De];exact vb h4 (by rw[h3];exact ob hx.1 hS)
theorem Am5(S:Nat)(x:Rat):((S:Rat)*x).den ∣ x.den:=by
 refine lV (z:=S*x.num) ?_;have h:=WH x;rw[tc,<-h,Ba];grind
theorem Xl{k:Nat}:∀(l:o_)(S:Nat),0<S->Bs k l->∃S':Nat,l.foldl cE (S:Rat)=(S':Rat)/\0<S'/\S'<=S*2^(l.length*k)/\S ∣ S'/\∀x∈l,∃z:Int,x*(S':Rat)=(z:Rat)
 |[],S,h,_=>⟨S,rfl,h,Z',Nat.dvd_refl S,λx hx=>by cases hx⟩
 |x::l,S,h,hb=>by
  have h1:=Am5 S x;have hx:=hb x La;have h2:((S:Rat)*x)*((((S:Rat)*x).den:Nat):Rat)=(((S:Rat)*x).num:Rat):=WH _;have h3:=Nat.le_of_dvd x.den_pos h1;have h4:=((S:Rat)*x).den_pos;generalize ((S:Rat)*x).num=u at h2;obtain⟨S',e,p1,p2,p3,p4⟩:=Xl l (S*((S:Rat)*x).den) (Jh h h4) λy hy=>hb y (Ma _ hy)
  refine⟨S',by rw[Bc,<-e,cE,Lb],p1,?_,Nat.dvd_trans (Nat.dvd_mul_right _ _) p3,λy hy=>?_⟩
  ·have h5:S*((S:Rat)*x).den<=S*2^k:=Nat.mul_le_mul_left S (vb h3 hx.2)
   have h6:=zR (2^(l.length*k)) h5;rw[Hb,Ib,De,Je (2^(l.length*k)),<-zh];exact vb p2 h6
  ·rcases ef.1 hy with rfl|hy
   ·obtain⟨t,rfl⟩:=p3
    refine⟨u*(t:Int),?_⟩;rw[Lb,Lb,tc,<-h2,Ba];grind
   ·exact p4 y hy
theorem rL{k:Nat}{l:o_}(hb:Bs k l):∃S:Nat,HN l=(S:Rat)/\0<S/\S<=2^(l.length*k)/\∀x∈l,∃z:Int,x*(S:Rat)=(z:Rat):=by
 obtain⟨S,e,h1,h2,_,h3⟩:=Xl l 1 O' hb;exact⟨S,e,h1,by rwa [Lh]at h2,h3⟩
theorem Ahf(S:Nat)(x:Rat):((S:Rat)/(x.den:Rat)).den=((S:Rat)*x).den:=by
 have rh:(x.den:Rat)≠0:=λe=>by
  have:((x.den:Nat):Rat)=((0:Nat):Rat):=e
  have:=vf.1 this
  have:=x.den_pos
  omega
 have hx:=WH x;refine Nat.dvd_antisymm ?_ ?_
 ·-- e=(S x).den: e S num/d whole,so d ∣ e S
  have h1:=WH ((S:Rat)*x);generalize hE:((S:Rat)*x).den=E at*;generalize ((S:Rat)*x).num=u at h1;have h2:(((E*S:Nat):Int)*x.num:Int)=u*(x.den:Int):=by
   refine Mg.1 ?_;rw[tc,tc,<-hx,<-h1,Ba,Ba,Lb];grind
  have h3:x.den ∣ E*S*x.num.natAbs:=by
   have h4:(x.den:Int) ∣ ((E*S:Nat):Int)*x.num:=⟨u,by rw[h2,nh]⟩;have:=Int.natAbs_dvd_natAbs.2 h4
   rw[ff,Ob,Ob]at this;exact this
  obtain⟨t,ht⟩:=Nat.Coprime.dvd_of_dvd_mul_right (Nat.Coprime.symm x.reduced) h3;refine lV (z:=t) ?_;have h5:((E*S:Nat):Rat)=((x.den*t:Nat):Rat):=congrArg _ ht;rw[Lb,Lb]at h5;rw[yb,<-xe,h5,Ba];have:=gd _ rh
  grind
 ·have h1:=WH ((S:Rat)/(x.den:Rat))
  generalize ((S:Rat)/(x.den:Rat)).num=u at h1;generalize ((S:Rat)/(x.den:Rat)).den=E at*;refine lV (z:=u*x.num) ?_;rw[tc,<-h1,<-hx,yb];have:=gd _ rh
  grind
def G5(a:P')(b:o_):Nat->o_
 |0=>b
 |k+1=>GO a (G5 a b k)
theorem sZ{a:P'}{b:o_}{n:Nat}(ha:a.length=n)(hb:b.length=n):∀k,(G5 a b k).length=n
 |0=>hb
 |k+1=>by rw[G5,pN,ha]
theorem Ag1{a:P'}:ES a=true ↔ ∀r∈a,BM r<=1/2:=by
 rw[ES,Da];exact⟨λh r hr=>by simpa using h r hr,λh r hr=>by simpa using h r hr⟩
theorem sK{f:Nat->Rat}(h:∀j,0<=f j):∀n,0<=H9 f n
 |0=>eh
 |n+1=>by
  have h1:=sK h n;have h2:=h n;simp only[H9];grind
def N1(a:P')(b:o_)(k:Nat):Rat:=C0 (G5 a b k)
def K5(a:P')(b c:o_)(k:Nat):Rat:=B1 (BT c (G5 a b k))
def HO(S:HX)(p:Nat):Rat:=B1 S.d+(H9 (K5 S.a S.b S.c) (p+p)+BM S.c*H9 (λj=>N1 S.a S.b (p+j)) p)
theorem vA{k:Nat}{x:Rat}{S:Nat}(hS:0<S)(Gi:S<=2^k)(h:Wh k (x*(S:Rat))):Bt k x:=by
 obtain⟨z,hz,hk⟩:=h;have h0:(S:Rat)≠0:=λe=>by
  have:((S:Nat):Rat)=((0:Nat):Rat):=e
  have:=vf.1 this
  omega
 have e:x=mkRat z S:=by
  rw[Qg,<-hz,yb,xe,gd _ h0,Ee]
 rw[e];exact Bt.mk hk Gi
theorem Yw{k l n:Nat}{a:P'}{v:o_}(ha:∀r∈a,∀x∈r,Wh k x)(hl:∀r∈a,r.length=n)(hv:∀x∈v,Wh l x):∀x∈GO a v,Wh (k+l+n) x:=λx hx=>by
 obtain⟨r,hr,rfl⟩:=sa.1 hx;have:=Wh.dot (ha r hr) hv
 rwa [hl r hr]at this
theorem jN{n k:Nat}{a:P'}(hs:Sq n a)(hb:Ms k a):∃S:Nat,HN a.flatten=(S:Rat)/\0<S/\S<=2^(n*n*k)/\∀r∈CH (S:Rat) a,∀x∈r,Wh (k+n*n*k) x:=by
 have hl:a.flatten.length=n*n:=by
  have:∀(a:P'),(∀r∈a,r.length=n)->a.flatten.length=a.length*n:=by
   intro a;induction a with
   |nil=>intro _;simp
   |cons r a ih=>
    intro h;rw[Mc,ga,ih λx hx=>h x (Ma _ hx),h r La,Hb,Ib,pd]
  rw[this a hs.r,hs.l]
 have Ck:Bs k a.flatten:=λx hx=>by
  obtain⟨r,hr,hx⟩:=Ec.1 hx;exact hb r hr x hx
 obtain⟨S,e,h1,h2,h3⟩:=rL Ck;rw[hl]at h2;refine⟨S,e,h1,h2,λr hr x hx=>?_⟩;obtain⟨s,hs,rfl⟩:=sa.1 hr;obtain⟨y,hy,rfl⟩:=sa.1 hx;obtain⟨z,hz⟩:=h3 y (Ec.2 ⟨s,hs,hy⟩);exact Yx (hb s hs y hy) hz h2
theorem oT{n k:Nat}{b:o_}(hl:b.length=n)(hb:Bs k b):∃S:Nat,HN b=(S:Rat)/\0<S/\S<=2^(n*k)/\∀x∈b.map (· * (S:Rat)),Wh (k+n*k) x:=by
 obtain⟨S,e,h1,h2,h3⟩:=rL hb;rw[hl]at h2;refine⟨S,e,h1,h2,λx hx=>?_⟩;obtain⟨y,hy,rfl⟩:=sa.1 hx;obtain⟨z,hz⟩:=h3 y hy;exact Yx (hb y hy) hz h2
def F4(a:P')(b:o_)(D E:Rat)(j:Nat):o_:=(G5 a b j).map (· * (E*D^j))
theorem tD(a:P')(b:o_)(D E:Rat):F4 a b D E 0=b.map (· * E):=by
 rw[F4,dc,Ee];rfl
theorem tC(a:P')(b:o_)(D E:Rat)(j:Nat):F4 a b D E (j+1)=GO (CH D a) (F4 a b D E j):=by
 rw[F4,F4,AlX,G5];refine ka λx _=>?_
 rw[Cb];grind
def XG(n k j:Nat):Nat:=(k+n*k)+j*((k+n*n*k)+n)
theorem Aed{n k:Nat}{a:P'}{b:o_}{D E:Nat}(hs:Sq n a)(hA:∀r∈CH (D:Rat) a,∀x∈r,Wh (k+n*n*k) x)(hB:∀x∈b.map (· * (E:Rat)),Wh (k+n*k) x):∀j,∀x∈F4 a b D E j,Wh (XG n k j) x
 |0=>by
  rw[tD];intro x hx;exact(hB x hx).le (by rw[XG];omega)
 |j+1=>by
  rw[tC];intro x hx;refine(Yw hA (jM _ hs.r) (Aed hs hA hB j) x hx).le ?_;simp only[XG,Ib];omega
theorem Amn(D j:Nat):(D:Rat)^j=((D^j:Nat):Rat):=by
 induction j with
 |zero=>rfl
 |succ j ih=>rw[Cb,ih,Hd,Lb]
theorem Yv{n k:Nat}{a:P'}{b:o_}(hs:Sq n a)(hb:b.length=n)(ha:Ms k a)(nq:Bs k b)(j:Nat):Bs (XG n k j) (G5 a b j):=by
 obtain⟨D,_,d1,d2,d3⟩:=jN hs ha;obtain⟨E,_,e1,e2,e3⟩:=oT hb nq;have hw:=Aed hs d3 e3 j;intro x hx;refine vA (S:=E*D^j) (Jh e1 (Ph d1)) ?_ ?_
 ·have h1:D^j<=2^(n*n*k*j):=by rw[Oh];exact zg d2 j
  refine vb (ob e2 h1) ?_;rw[<-De];refine Fa O' ?_;rw[XG,Ih,Ih,Je (n*n*k) j];omega
 ·refine hw _ (sa.2 ⟨x,hx,?_⟩)
  rw[Amn,Lb]
def GP(n:Nat)(a:P')(i:Nat):Prop:=ES (CI n a i)=true/\∀j,j<i->ES (CI n a j)=false
theorem GP.uniq{n i j:Nat}{a:P'}(hi:GP n a i)(hj:GP n a j):i=j:=by
 rcases Nat.lt_trichotomy i j with h|h|h
 ·have:=hj.2 i h
  rw[hi.1]at this;cases this
 ·exact h
 ·have:=hi.2 j h
  rw[hj.1]at this;cases this
def FU(k:Nat):Nat->Nat
 |0=>17*k
 |i+1=>FU k i+FU k i+4
theorem Ze{k:Nat}:∀i,i<=7->FU k i<=2176*k+508:=by
 intro i hi;have h1:FU k 0=17*k:=rfl;have e1:FU k 1=FU k 0+FU k 0+4:=rfl;have e2:FU k 2=FU k 1+FU k 1+4:=rfl;have e3:FU k 3=FU k 2+FU k 2+4:=rfl;have e4:FU k 4=FU k 3+FU k 3+4:=rfl;have e5:FU k 5=FU k 4+FU k 4+4:=rfl;have e6:FU k 6=FU k 5+FU k 5+4:=rfl;have e7:FU k 7=FU k 6+FU k 6+4:=rfl;obtain rfl|rfl|rfl|rfl|rfl|rfl|rfl|rfl:i=0\/i=1\/i=2\/i=3\/i=4\/i=5\/i=6\/i=7:=O'
 all_goals omega
theorem Aof{k l n:Nat}{a b:P'}(ha:∀r∈a,∀x∈r,Wh k x)(hl:∀r∈a,r.length=n)(hb:∀r∈b,∀x∈r,Wh l x):∀r∈IJ a b n,∀x∈r,Wh (k+l+n) x:=λr hr x hx=>by
 obtain⟨s,hs,rfl⟩:=sa.1 hr;obtain⟨j,_,rfl⟩:=sa.1 hx;have hc:∀x∈DW b j,Wh l x:=λx hx=>by
  obtain⟨t,ht,rfl⟩:=sa.1 hx;rw[ua];cases e:t[j]? with
  |none=>exact Wh.zero l
  |some y=>exact hb t ht y (zM e)
 have:=Wh.dot (ha s hs) hc
 rwa [hl s hs]at this
theorem jT{n k:Nat}{a:P'}{D:Nat}(hs:Sq n a)(hn:n<=4)(hA:∀r∈CH (D:Rat) a,∀x∈r,Wh (k+n*n*k) x):∀i,∀r∈CH (D9 (D:Rat) i) (CI n a i),∀x∈r,Wh (FU k i) x
 |0=>λr hr x hx=>(hA r hr x hx).le (by
   show k+n*n*k<=17*k;have:n*n<=4*4:=ob hn hn
   have:=zR k this
   omega)
 |i+1=>λr hr x hx=>by
  rw[<-Adj]at hr;exact(Aof (jT hs hn hA i) (jM _ (W5 hs i).r) (jT hs hn hA i) r hr x hx).le (by simp only[FU];omega)
theorem mD{D M:Nat}(hD:D<=2^M):∀i,Wh (2^i*M) (D9 (D:Rat) i)
 |0=>⟨(D:Int),by rw[D9,Ba],by rw[Nat.pow_zero,Lh];simpa using hD⟩
 |i+1=>((mD hD i).mul (mD hD i)).le (by rw[Hd,Kh,Hh];exact ib _)
theorem wX(D:Nat):∀i,D9 (D:Rat) i=((D^2^i:Nat):Rat)
 |0=>by simp[D9]
 |i+1=>by
  rw[D9,wX D i,<-Lb,<-De,Hd,Kh]
theorem Ag2{n i:Nat}{a:P'}{D:Rat}(hD:0<D):(∀r∈CH (D9 D i) (CI n a i),BM r+BM r<=D9 D i)↔ES (CI n a i)=true:=by
 have hp:=mC hD i;rw[Ag1];constructor
 ·intro h r hr
  have:=h _ (sa.2 ⟨r,hr,rfl⟩)
  rw[jL A']at this;exact(Sc hp).1 this
 ·intro h r hr
  obtain⟨s,hs,rfl⟩:=sa.1 hr;rw[jL A'];exact(Sc hp).2 (h s hs)
theorem RL{k:Nat}:∀{l:o_},Bs k l->Bt (l.length*(k+1)) (BM l)
 |[],_=>Bt.zero _
 |x::l,h=>by
  have h1:=RL (l:=l) λy hy=>h y (Ma _ hy)
  have h2:Bt k (B1 x):=by
   unfold B1;split
   ·exact(h x La).Jj
   ·exact h x La
  refine(h2.add h1).le ?_;rw[Hb,Ib];omega
theorem JQ{k:Nat}{x:Rat}(h:Bt k x):Bt k (B1 x):=by
 unfold B1;split
 ·exact h.Jj
 ·exact h
theorem Akd{k:Nat}{m x:Rat}(hm:Bt k m)(hx:Bt k x):Bt k (JI m x):=by
 unfold JI;split
 ·exact JQ hx
 ·exact hm
theorem Q5{k:Nat}{l:o_}(h:Bs k l):Bt k (C0 l):=by
 have:∀(l:o_)(m:Rat),Bt k m->Bs k l->Bt k (l.foldl JI m):=by
  intro l;induction l with
  |nil=>intro m hm _;exact hm
  |cons x l ih=>
   intro m hm h;exact ih _ (Akd hm (h x La)) λy hy=>h y (Ma _ hy)
 exact this l 0 (Bt.zero k) h
theorem qK(D:Rat)(a:Nat):∀b:Nat,D^(a+b)=D^a*D^b
 |0=>by rw[Gd,dc,Ee]
 |b+1=>by rw[<-xh,Cb,qK D a b,Cb,xe]
def GM(D:Rat)(f:Nat->Rat):Nat->Rat
 |0=>0
 |m+1=>GM D f m*D+f m
theorem nX{D c:Rat}{f F:Nat->Rat}(h:∀j,f j=F j*(c*D^j)):∀m,GM D f m*D=c*D^m*H9 F m
 |0=>by simp only[GM,H9];grind
 |m+1=>by
  have:=nX h m
  rw[GM,ah,this,h m,Cb,H9];grind
theorem aX{D:Rat}{f:Nat->Rat}{d k:Nat}(hD:Bt d D):∀m,(∀j,j<m->Bt k (f j))->Bt (m*(d+k+1)) (GM D f m)
 |0,_=>Bt.zero _
 |m+1,h=>by
  have h1:=aX hD m λj hj=>h j O'
  refine((h1.mul hD).add (h m O')).le ?_;rw[Ib];omega
theorem Aoo{a:P'}{b:o_}{D E:Rat}(hD:0<D)(hE:0<E)(j:Nat):C0 (F4 a b D E j)=N1 a b j*(E*D^j):=Akh (Oc hE (by
 induction j with
 |zero=>rw[dc];decide
 |succ j ih=>rw[Cb];exact Oc ih hD)) _
theorem AnR{S:HX}{D E O:Rat}{p:Nat}(hp:1<=p)(hD:0<D)(hE:0<E)(hO:0<O) :
  (GM D (λj=>B1 (BT (S.c.map (· * O)) (F4 S.a S.b D E j))) (p+p)+BM (S.c.map (· * O))*GM D (λj=>C0 (F4 S.a S.b D E (p+j))) p)/(D^(p+p-1)*(E*O))=H9 (K5 S.a S.b S.c) (p+p)+BM S.c*H9 (λj=>N1 S.a S.b (p+j)) p:=by
 have Ia:∀j:Nat,0<D^j:=λj=>by
  induction j with
  |zero=>rw[dc];decide
  |succ j ih=>rw[Cb];exact Oc ih hD
 have h1:=nX (D:=D) (c:=O*E) (f:=λj=>B1 (BT (S.c.map (· * O)) (F4 S.a S.b D E j))) (F:=K5 S.a S.b S.c) (λj=>by
  show B1 (BT (S.c.map (· * O)) (F4 S.a S.b D E j))=_;rw[F4,mI,kU,K5,kW (show 0<=O*(E*D^j)from by have:=Oc hO (Oc hE (Ia j));grind)];grind) (p+p)
 have h2:=nX (D:=D) (c:=E*D^p) (f:=λj=>C0 (F4 S.a S.b D E (p+j))) (F:=λj=>N1 S.a S.b (p+j)) (λj=>by
  show C0 (F4 S.a S.b D E (p+j))=_;rw[Aoo hD hE,qK];grind) p
 have h3:BM (S.c.map (· * O))=BM S.c*O:=jL A' _;generalize GM D (λj=>B1 (BT (S.c.map (· * O)) (F4 S.a S.b D E j))) (p+p)=u at*;generalize GM D (λj=>C0 (F4 S.a S.b D E (p+j))) p=t at*;generalize H9 (K5 S.a S.b S.c) (p+p)=F at*;generalize H9 (λj=>N1 S.a S.b (p+j)) p=G at*;rw[h3];have h4:D^(p+p)=D^(p+p-1)*D:=by rw[<-Cb];congr 1;omega
 have h5:D^(p+p)=D^p*D^p:=qK _ _ _;have hq:=Ia (p+p-1);have hz:=Ia p;generalize D^(p+p-1)=L at*;generalize D^(p+p)=M at*;generalize D^p=P at*;have q6:L*(E*O)≠0:=by
  have:=Oc hq (Oc hE hO)
  grind
 have key:(u+BM S.c*O*t)*D=(F+BM S.c*G)*(L*(E*O))*D:=by
  have e1:u*D=O*E*(L*D)*F:=by rw[h1,h4]
  have e2:t*D=E*(L*D)*G:=by rw[h2,<-h4,h5];grind
  have:(u+BM S.c*O*t)*D=u*D+BM S.c*O*(t*D):=A'
  rw[this,e1,e2];grind
 have Fz:D≠0:=A'
 have:=AlW Fz key
 rw[this,yb,xe,gd _ q6,Ee]
theorem Wk{α:Type}{enc:α->w_}{p:α->Prop}:∀{es:v_},(∀x∈es,∃y,x=enc y/\p y)->∃l:List α,es=l.map enc/\∀y∈l,p y
 |[],_=>⟨[],rfl,Z'⟩
 |e::es,h=>by
  obtain⟨y,rfl,hy⟩:=h e La;obtain⟨l,rfl,hl⟩:=Wk (enc:=enc) (p:=p) λx hx=>h x (Ma _ hx)
  exact⟨y::l,rfl,by simpa using⟨hy,hl⟩⟩
theorem Sd{α:Type}{enc:α->w_}{p:α->Prop}{e:Ty}{cs:w_}(he:∀x,RU e x->∃y,x=enc y/\p y)(h:RU (.sl e) cs):∃l:List α,cs=[.sl true (l.map enc)]/\l.length<9223372036854775808/\∀y∈l,p y:=by
 obtain⟨es,rfl,hl,hx⟩:=h;obtain⟨l,rfl,hp⟩:=Wk (enc:=enc) (p:=p) λx hm=>he x (hx x hm)
 refine⟨l,rfl,?_,hp⟩;have:maxLen=9223372036854775807:=rfl
 simp at hl;omega
theorem Aod{n:Int}(h:(Lit.int .i64 n).wf=true):DJ n:=by
 simp only[Lit.wf,Ld,decide_eq_true_eq]at h;have h1:IntKind.i64.min = -9223372036854775808:=rfl;have h2:IntKind.i64.max=9223372036854775807:=rfl;rw[h1,h2]at h;unfold DJ;constructor<;>omega
theorem YJ{cs:w_}(h:RU tI cs):∃n,cs=AZ n/\DJ n:=by obtain⟨n,rfl,hw⟩:=h;exact⟨n,rfl,Aod hw⟩
theorem aV{cs:w_}(h:RU (.sl tI) cs):∃l:List Int,cs=[.sl true (l.map AZ)]/\l.length<9223372036854775808/\LZ l:=Sd (λ_=>YJ) h
abbrev tWr:Ty := .cons (.sl tI) (.cons (.sl tI) .nil)
theorem Aky{cs:w_}(h:RU tWr cs):∃w,cs=fK w/\(LZ w.1.2/\LZ w.2.2):=by
 obtain⟨_,_,rfl,h1,_,_,rfl,h2,rfl⟩:=h;obtain⟨l1,rfl,_,a1⟩:=aV h1;obtain⟨l2,rfl,_,a2⟩:=aV h2;exact⟨((true,l1),(true,l2)),rfl,a1,a2⟩
abbrev tR:Ty := .cons tI (.cons tI (.cons tI (.cons (.sl tWr) (.cons (.sl tI) (.cons tI (.cons .bool .nil))))))
theorem Akx{cs:w_}(h:RU tR cs):∃r:Rw,cs=fJ r/\DJ r.data/\DJ r.y9/\DJ r.l9/\DJ r.out/\LZ r.next/\(∀w∈r.nodes,LZ w.1.2/\LZ w.2.2)/\r.nodes.length<9223372036854775808:=by
 obtain⟨_,_,rfl,h1,_,_,rfl,h2,_,_,rfl,h3,_,_,rfl,h4,_,_,rfl,h5,_,_,rfl,h6,_,_,rfl,⟨b,rfl⟩,rfl⟩:=h;obtain⟨a,rfl,i1⟩:=YJ h1;obtain⟨c,rfl,i2⟩:=YJ h2;obtain⟨s,rfl,i3⟩:=YJ h3;obtain⟨nodes,rfl,l4,i4⟩:=Sd (enc:=fK) (λ_=>Aky) h4;obtain⟨next,rfl,l5,i5⟩:=aV h5;obtain⟨o,rfl,i6⟩:=YJ h6;exact⟨⟨a,c,s,true,nodes,true,next,o,b⟩,rfl,i1,i2,i3,i6,i5,i4,l4⟩
end Go.e9

namespace Go.e9
open F
attribute [local irreducible] AA AF AX AC B4 AU A7 A8 BV BI B0 DS BG A1 BU CB AB A2 AH pw CG B3 CR DK C2 CO CJ BL CY C3 C4 CX C7
variable {L:Lib}
abbrev eM(m:P'):v_:=m.map λr=>[AV.sl false (r.map eQ)]
theorem lI(m:P'):DR (eM m):=L2 (λr=>by simp only[BK,AY,and_true,true_and];exact MM r) m
theorem vL(m:P'):AY (.sl false (eM m)):=by
 simp only[AY,true_and];exact lI m
theorem AgO{n:Nt}(hb:DN n=true){nd:Nd}(h:nd∈n.nodes){t:Int×Int}(ht:t∈nd.ts):-16777216<=t.2/\t.2<=16777216:=by
 obtain⟨h1,h2,h3,h4,h5,h6⟩:=(C1 n).1 hb;obtain⟨i,hi⟩:=List.getElem?_of_mem h;have:=Da.1 (iL h4 hi) t ht
 simp only[IA,decide_eq_true_eq]at this;have yj:=h2;unfold WV at yj;have e:=RI (n:=n.c.f) (m:=23) O';have e2:pw 23=8388608:=by unfold pw;rfl
 have e3:=G2 n.c.f;rcases this with⟨_,_,h|h⟩
 ·omega
 ·have:=AeX h;omega
theorem Al0(r:Rw):(EL r).nodes.length<=4:=by simp[EL,NB];omega
theorem Tz(r:Rw){nd:Nd}(h:nd∈(EL r).nodes):nd.ts.length<=4:=by
 simp only[EL,NB,Jb,sa]at h;obtain⟨k,_,rfl⟩:=h;simp only[zi,bJ];split
 ·simp[RN];omega
 ·simp
theorem Al1(r:Rw):VG (DE (EL r)):=by
 constructor
 ·intro ts h
  obtain⟨nd,h1,rfl⟩:=sa.1 h;exact Nat.le_succ_of_le (Tz r h1)
 ·intro ts h t ht
  obtain⟨nd,h1,rfl⟩:=sa.1 h;have:=AgO (Vj r) h1 ht
  have e:(2:Nat)^24=16777216:=rfl;omega
end Go.e9

namespace Go.e9
open F
attribute [local irreducible] AA AF AX AC B4 AU A7 A8 BV BI B0 DS BG A1 BU CB AB A2 AH pw CG B3 CR DK C2 CO CJ BL CY C3 C4 CX C7
variable {L:Lib}
set_option maxRecDepth 8000
abbrev IX(q:Bool)(m:P'):v_:=m.map λr=>[AV.sl q (r.map eQ)]
def cw(n:Nat)(v:o_):List (Option Rat):=ja (n-v.length) none++v.map some
theorem Ahi:dg 1=[1]:=by rw[K0 Y'];simp[FX]
theorem Amt(x:Rat):qv false (dg x.num.natAbs) (dg x.den)=B1 x:=by
 unfold B1;split
 ·rename_i h
  have:=GD (-x)
  rw[Jf,Hg,fh,show decide (-x.num<0)=false from decide_eq_false O']at this;exact this
 ·rename_i h
  have:=GD x
  rw[show decide (x.num<0)=false from decide_eq_false h]at this;exact this
theorem fP(N:bp L){x:Rat}{k:Nat}(hx:Bt k x)(hk:k<2199023255552):Ev L 256 [.agg (eQ x)] (.agg (eQ (B1 x))):=by
 have hs:=hx.sm hk;have hT:=zU N.toa6 false false false (dg x.num.natAbs) (dg x.den) (hs.1.le O') (hs.2.le O');rw[Amt]at hT;refine Ev.x N.TJ rfl rfl ?_;repeat' (first|apply AE|refine AD (hT) ?_)<;>conv=>whnf
 exact AW rfl (DY _)
theorem Aie(z:Int):eQ (z:Rat)=[.bool (decide (z<0)),.sl false ((dg z.natAbs).map AJ),.sl false [[.int .u32 1]]]:=by
 simp only[eQ,rQ,Rat.num_intCast,Rat.den_intCast,Ahi];rfl
theorem AlZ{T:P'}{n i:Nat}(hl:T.length=n)(hi:i<n):(mz T n i)[i]?=some none:=by
 have jd:(E2 3 eQ (T.take i)).length=i:=by simp only[E2,xa,za];omega
 have:=Tr (z:=(none:p_)) (l:=E2 3 eQ (T.take i)) (m:=n) O'
 rw[jd]at this;exact this
theorem lU{k:Nat}{x:Rat}(h:Bt k x):Bt k ((x.den:Nat):Rat):=by
 refine⟨?_,?_⟩
 ·rw[xf,Ob];exact h.2
 ·rw[sf];exact de
theorem Ahe(x:Rat):((x.den:Nat):Rat)≠0:=λe=>by
 have:((x.den:Nat):Rat)=((0:Nat):Rat):=e
 have:=vf.1 this
 have:=x.den_pos
 omega
theorem yY(N:v7 L){x:Rat}{k:Nat}(hx:Bt k x)(hk:k<2199023255552):Ev L 294 [.agg (eQ x)] (.agg (eQ ((x.den:Nat):Rat))):=by
 have hT:=AjN N.toa6 hx hk;have u6:=DY ((x.den:Nat):Rat);have e:eQ ((x.den:Nat):Rat)=[.bool false,.sl false ((dg x.den).map AJ),.sl false [[.int .u32 1]]]:=by
  rw[<-Ba,Aie,Ob,show decide (((x.den:Nat):Int)<0)=false by simp]
 rw[e]at u6⊢;refine Ev.x N.TH rfl rfl ?_;repeat' (first|refine JP rfl ?_|apply AE|refine AD (hT) ?_)<;>conv=>whnf
 exact AW rfl u6
theorem mY(N:v7 L)(q q':Bool)(ls:P')(k:Nat)(hb:Ms k ls)(hl:ls.flatten.length<=64)(ub:ls.length<=1000)(hk:k<=1000000):Ev L 295 [.sl q (IX q' ls)] (.agg (eQ (HN ls.flatten))):=by
 have hO:=JG N.toa6 1 O';rw[show((1:Int):Rat)=1 from rfl]at hO;have key:∀(i j:Nat)(r:o_)(x:Rat),ls[i]?=some r->r[j]?=some x->∃S:Nat,HN ((ls.take i).flatten++r.take j)=(S:Rat)/\Bt (64*k) (S:Rat)/\HN ((ls.take i).flatten++r.take (j+1))=(S:Rat)*(((S:Rat)/((x.den:Nat):Rat)).den:Nat):=by
  intro i j r x hr hx;have fe:=(zS hx).1;have hlen:((ls.take i).flatten++r.take j).length<=64:=by
   have e:ls.flatten=(ls.take i).flatten++(r++(ls.drop (i+1)).flatten):=by
    have h1:=(zS hr);obtain⟨h1,h2⟩:=h1;conv=>lhs;rw[<-Dd i ls,ze,Db h1,h2,Mc]
   rw[e,ga,ga]at hl;rw[ga,za];omega
  have Cm:Bs k ((ls.take i).flatten++r.take j):=λy hy=>by
   rcases Ce.1 hy with hy|hy
   ·obtain⟨s,hs,hy⟩:=Ec.1 hy
    exact hb s (tb hs) y hy
   ·exact hb r (zM hr) y (tb hy)
  obtain⟨S,e,h1,h2,_⟩:=rL Cm;refine⟨S,e,⟨?_,?_⟩,?_⟩
  ·rw[xf,Ob]
   exact vb h2 (Fa O' (zR k hlen))
  ·rw[sf];exact de
  ·rw[zb,hx,db,<-Kc,Am6,e,cE,Ahf]
 refine Ev.x N.NF rfl rfl ?_;repeat' (first|apply AP|apply AE|refine AD (hO) ?_)<;>conv=>whnf
 refine EA (λi=>ls.length-i) (λ(i:Nat)=>i<=ls.length) (λi=>[(13,.int .i64 i)]) (λi=>[(3,3,.bx (eQ (HN (ls.take i).flatten)))]) [] [] 0 (by rw[show HN (ls.take 0).flatten=1 from rfl];exact E') O' ?_;intro i p1 ih;by_cases hi:i<ls.length
 ·obtain⟨r,hr⟩:=N' ls i hi
  have uz:ls[(i:Int).toNat]?=some r:=hr;have te:=hb r (zM hr);have il:r.length<=64:=by
   have e:ls.flatten=(ls.take i).flatten++(r++(ls.drop (i+1)).flatten):=by
    obtain⟨h1,h2⟩:=zS hr;conv=>lhs;rw[<-Dd i ls,ze,Db h1,h2,Mc]
   rw[e,ga,ga]at hl;omega
  have jc:(ls.take (i+1)).flatten=(ls.take i).flatten++r:=by
   rw[zb,hr,ze];simp
  repeat' (first|apply AG<;>intro hc<;>try omega|apply AP|refine A5 V' ?_ rfl ?_;omega|apply AE)<;>conv=>whnf
  refine EA (λj=>r.length-j) (λ(j:Nat)=>j<=r.length) (λj=>[(19,.int .i64 j)]) (λj=>[(3,3,.bx (eQ (HN ((ls.take i).flatten++r.take j))))]) [] [] 0 (by rw[xb,mb];exact E') O' ?_;intro j r1 jh;by_cases hj:j<r.length
  ·obtain⟨x,hx⟩:=N' r j hj
   have ve:r[(j:Int).toNat]?=some x:=hx;obtain⟨S,e,hS,e2⟩:=key i j r x hr hx;have Ez:=te.at hx;have Bz:=yY N Ez O';have hq:=hS.vi (lU Ez);have hDv:=mQ N.toa6 hS (lU Ez) O' O' (Ahe x);have Ca:=yY N hq O';have hM:=K4 N.toa6 hS (lU hq) O' O';rw[<-e2]at hM;rw[e];generalize (S:Rat)/((x.den:Nat):Rat)=y at*;generalize ((x.den:Nat):Rat)=d at*;generalize (S:Rat)=s at*;generalize ((y.den:Nat):Rat)=d2 at*;repeat' (first|apply AG<;>intro hc<;>try omega|apply AR;omega|refine A5 V' ?_ rfl ?_;omega|apply AE|refine AD (Bz) ?_|refine AD (hDv) ?_|refine AD (Ca) ?_|refine AD (hM) ?_)<;>conv=>whnf
   exact BF [] (jh (j+1) O' O')
  obtain rfl:j=r.length:=O'
  clear jh;rw[zT (ib _),<-jc];repeat' (first|apply AG<;>intro hc<;>try omega|apply AR;omega|apply AE)<;>conv=>whnf
  exact BF [] (ih (i+1) O' O')
 obtain rfl:i=ls.length:=O'
 clear ih;rw[zT (ib _)];repeat' (first|apply AG<;>intro hc<;>try omega|apply AE)<;>conv=>whnf
 exact AW rfl (DY _)
theorem mZ(N:v7 L)(q:Bool)(v:o_)(c:Rat)(k l:Nat)(hv:Bs k v)(hc:Bt l c)(hk:k<1099511627776)(hl:l<1099511627776)(hn:v.length<=1000000):Ev L 296 [.sl q (v.map eQ),.agg (eQ c)] (.sl false ((v.map (· * c)).map eQ)):=by
 refine Ev.x N.PH rfl rfl ?_;repeat' (first|apply AP|apply AE)<;>conv=>whnf
 refine FJ (enc:=eO) none v.length rfl rfl O' ?_;conv=>whnf
 (repeat' (apply AP<;>conv=>whnf))
 refine EA (λi=>v.length-i) (λ(i:Nat)=>i<=v.length) (λi=>[(12,.int .i64 i)]) (λi=>[(9,9,.rw 3 ((ED ((v.map (· * c)).take i) v.length).map eO))]) [] [] 0 (by first|exact E'|(rw[xb,<-aR];exact E')) O' ?_;intro i p1 ih;have dp:((v.map (· * c)).take i).length=i:=by rw[za,xa];omega
 have Kv:=SC (l:=(v.map (· * c)).take i) (m:=v.length) O';by_cases hi:i<v.length
 ·obtain⟨x,hx⟩:=N' v i hi
  have ve:v[(i:Int).toNat]?=some x:=hx;have hy:(v.map (· * c))[i]?=some (x*c):=by rw[ya,hx];rfl
  have hs:=YF (l:=(v.map (· * c)).take i) (m:=v.length) (x:=x*c) O';rw[dp,<-KQ hy]at hs;have hM:=K4 N.toa6 (hv.at hx) hc O' O';generalize ED ((v.map (· * c)).take i) v.length=F0 at*;generalize x*c=y at*;repeat' (first|apply AG<;>intro hc<;>try omega|apply A4;omega|refine A5 V' ?_ rfl ?_;omega|apply AE|refine AD (hM) ?_)<;>conv=>whnf
  refine H4 (enc:=eO) (some y) rfl (λe=>by cases e<;>rfl) O' ?_;conv=>whnf
  rw[hs];repeat' (first|apply AR;omega|fail)<;>conv=>whnf
  exact BF [] (ih (i+1) O' O')
 obtain rfl:i=v.length:=O'
 clear ih;have ux:(v.map (· * c)).length=v.length:=xa _;rw[zT O',aQ ux];repeat' (first|apply AG<;>intro hc<;>try omega|(refine C6 (λ_=>rfl) rfl ?_ ?_;(first|rfl|simp))|apply AE)<;>conv=>whnf
 exact AW rfl (by simp only[AY,true_and];exact MM _)
abbrev KC(q:Bool)(x:Rat):w_:=rQ q q (decide (x.num<0)) (dg x.num.natAbs) (dg x.den)
theorem AjK(N:a6 L)(q:Bool){x:Rat}{k:Nat}(hx:Bt k x)(hk:k<2199023255552):Ev L 97 [.agg (KC q x)] (.int .i64 (w6 x.num)):=by
 have hs:=hx.sm hk;have:=zQ N (decide (x.num<0)) q q (dg x.num.natAbs) (dg x.den) (hs.1.le O') (hs.2.le O')
 rwa [GD]at this
theorem yT(N:a6 L)(q:Bool){x y:Rat}{k l:Nat}(hx:Bt k x)(hy:Bt l y)(hk:k<2199023255552)(hl:l<2199023255552):Ev L 99 [.agg (eQ x),.agg (KC q y)] (.agg (eQ (x*y))):=by
 have h1:=hx.sm hk;have h2:=hy.sm hl;have:=zP N 68719476736 O' (decide (x.num<0)) (decide (y.num<0)) false false q q (dg x.num.natAbs) (dg x.den) (dg y.num.natAbs) (dg y.den) h1.1 h1.2 h2.1 h2.2
 rwa [GD,GD]at this
theorem zA(N:v7 L)(q1 q2 qb:Bool)(a b:o_)(k l:Nat)(hl:a.length=b.length)(ha:Bs k a)(hb:Bs l b)(hn:a.length<=64)(hk:k<=1000000000)(pc:l<=1000000000):Ev L 297 [.sl q1 (a.map eQ),.sl q2 (b.map (KC qb))] (.agg (eQ (BT a b))):=by
 have hO:=JG N.toa6 0 O';rw[show((0:Int):Rat)=0 from rfl]at hO;refine Ev.x N.PB rfl rfl ?_;repeat' (first|apply AP|apply AE|refine AD (hO) ?_)<;>conv=>whnf
 refine EA (λi=>a.length-i) (λ(i:Nat)=>i<=a.length) (λi=>[(10,.int .i64 i)]) (λi=>[(5,5,.bx (eQ (BT (a.take i) (b.take i))))]) [] [] 0 (by rw[show BT (a.take 0) (b.take 0)=0 from rfl];exact E') O' ?_;intro i p1 ih;by_cases hi:i<a.length
 ·obtain⟨x,hx⟩:=N' a i hi
  obtain⟨y,hy⟩:=N' b i;have ve:a[(i:Int).toNat]?=some x:=hx;have Be:b[(i:Int).toNat]?=some y:=hy;have xu:=nJ N.toa6 (ha.at hx) O';have Gi:=AjK N.toa6 qb (hb.at hy) O';have hM:=yT N.toa6 qb (ha.at hx) (hb.at hy) O' O';have hd:Bt (64*(k+l+1)) (BT (a.take i) (b.take i)):=by
   refine((ha.take i).dot (hb.take i)).le (zR _ ?_);rw[za];omega
  have hA:=KD N.toa6 hd ((ha.at hx).mul (hb.at hy)) O' O';rw[<-aG hx hy]at hA;have hz:x=0\/y=0->BT (a.take i) (b.take i)=BT (a.take (i+1)) (b.take (i+1)):=λh=>by
   rw[aG hx hy];rcases h with h|h<;>rw[h]<;>grind
  by_cases h1:x=0
  ·have s1:w6 x.num=0:=cF.2 h1
   rw[s1]at xu;rw[hz (Or.inl h1)];clear hA hz hd;repeat' (first|apply AG<;>intro hc<;>try omega|apply AR;omega|refine A5 V' ?_ rfl ?_;omega|apply AE|refine AD (xu) ?_)<;>conv=>whnf
   exact BF [] (ih (i+1) O' O')
  ·have s1:w6 x.num≠0:=λh=>h1 (cF.1 h)
   generalize w6 x.num=g1 at*;by_cases h2:y=0
   ·have s2:w6 y.num=0:=cF.2 h2
    rw[s2]at Gi;rw[hz (Or.inr h2)];clear hA hz hd;repeat' (first|apply AG<;>intro hc<;>try omega|apply AR;omega|refine A5 V' ?_ rfl ?_;omega|apply AE|refine AD (xu) ?_|refine AD (Gi) ?_)<;>conv=>whnf
    exact BF [] (ih (i+1) O' O')
   ·have s2:w6 y.num≠0:=λh=>h2 (cF.1 h)
    generalize w6 y.num=g2 at*;clear hz hd;generalize BT (a.take i) (b.take i)=w at*;generalize x*y=p at*;repeat' (first|apply AG<;>intro hc<;>try omega|apply AR;omega|refine A5 V' ?_ rfl ?_;omega|apply AE|refine AD (xu) ?_|refine AD (Gi) ?_|refine AD (hM) ?_|refine AD (hA) ?_)<;>conv=>whnf
    exact BF [] (ih (i+1) O' O')
 obtain rfl:i=a.length:=O'
 clear ih;rw[fI rfl];repeat' (first|apply AG<;>intro hc<;>try omega|apply AE)<;>conv=>whnf
 exact AW rfl (DY _)
theorem yZ(N:v7 L)(q1 q2:Bool)(a b:o_)(k l:Nat)(hl:a.length=b.length)(ha:Bs k a)(hb:Bs l b)(hn:a.length<=64)(hk:k<=1000000000)(pc:l<=1000000000):Ev L 297 [.sl q1 (a.map eQ),.sl q2 (b.map eQ)] (.agg (eQ (BT a b))):=zA N q1 q2 false a b k l hl ha hb hn hk pc
theorem Ai7(N:v7 L)(q1 q2 q3:Bool)(a:P')(v:o_)(n k l:Nat)(hs:Sq n a)(hv:v.length=n)(ha:Ms k a)(hb:Bs l v)(hn:n<=4)(hk:k<=1000000000)(hl:l<=1000000000):Ev L 298 [.sl q1 (IX q3 a),.sl q2 (v.map eQ)] (.sl false ((GO a v).map eQ)):=by
 have na:=hs.l;have ux:(GO a v).length=n:=by rw[pN];exact na
 refine Ev.x N.O9 rfl rfl ?_;repeat' (first|apply AP|apply AE)<;>conv=>whnf
 refine FJ (enc:=eO) none n rfl O' O' ?_;conv=>whnf
 (repeat' (apply AP<;>conv=>whnf))
 refine EA (λi=>n-i) (λ(i:Nat)=>i<=n) (λi=>[(12,.int .i64 i)]) (λi=>[(9,9,.rw 3 ((ED ((GO a v).take i) n).map eO))]) [] [] 0 (by first|exact E'|(rw[xb,<-aR];exact E')) O' ?_;intro i p1 ih;have dp:((GO a v).take i).length=i:=by rw[za];omega
 have Kv:=SC (l:=(GO a v).take i) (m:=n) O';by_cases hi:i<n
 ·obtain⟨r,hr⟩:=N' a i
  have uz:a[(i:Int).toNat]?=some r:=hr;have il:=hs.at hr;have hy:(GO a v)[i]?=some (BT r v):=by rw[GO,ya,hr];rfl
  have o7:=YF (l:=(GO a v).take i) (m:=n) (x:=BT r v) O';rw[dp,<-KQ hy]at o7;have hD:=λq q'=>yZ N q q' r v k l O' (ha.at hr) hb O' hk hl
  generalize ED ((GO a v).take i) n=F0 at*;generalize BT r v=y at*;repeat' (first|apply AG<;>intro hc<;>try omega|apply A4;omega|refine A5 V' ?_ rfl ?_;omega|apply AE|refine AD (hD _ _) ?_)<;>conv=>whnf
  refine H4 (enc:=eO) (some y) rfl (λe=>by cases e<;>rfl) O' ?_;conv=>whnf
  rw[o7];repeat' (first|apply AR;omega|fail)<;>conv=>whnf
  exact BF [] (ih (i+1) O' O')
 obtain rfl:i=n:=O'
 clear ih;rw[zT O',aQ ux];repeat' (first|apply AG<;>intro hc<;>try omega|apply AE)<;>conv=>whnf
 refine C6 (enc:=eQ) (λ_=>rfl) rfl ux.symm ?_;conv=>whnf
 exact AW rfl (by simp only[AY,true_and];exact MM _)
theorem AiE(N:aw L)(m:P')(b:o_)(q1 q2 q3:Bool)(n k s:Nat)(hs:Sq n m)(hb:b.length=n)(hm:Ms k m)(nq:Bs s b)(hn:n<=4)(hK:4*(k+s+1)+k+s<2199023255552):Ev L 138 [.sl q1 (IX q3 m),.sl q2 (b.map eQ)] (.sl false ((GO m b).map eQ)):=by
 have ux:=hs.l;have mf:=pN m b;refine Ev.x N.PX rfl rfl ?_;(repeat' (apply AE<;>conv=>whnf))
 refine DG (λj=>m.length-j) (λ(j:Nat)=>j<=m.length) (λj=>[(6,.int .i64 j),(5,.row 138005 0 3 0 j)]) (λj=>[(138005,138005,.rw 3 (((GO m b).take j).map eQ))]) 0 O' ?_;intro j r1 jh;have hlen:((GO m b).take j).length=j:=by rw[za];omega
 by_cases hj:j<m.length
 ·obtain⟨r,hr⟩:=N' m j hj
  have uz:m[(j:Int).toNat]?=some r:=hr;have il:=hs.at hr;have Jx:=λq q'=>yF N r b q q' k s O' (hm.at hr) nq (by rw[il];have:=zR (k+s+1) hn;omega) O'
  have hy:(GO m b)[j]?=some (BT r b):=by rw[GO,ya,hr];rfl
  have Hl:((GO m b).take (j+1)).length=j+1:=by rw[za];omega
  repeat' (first|apply AG<;>intro hc<;>try omega|apply AP|refine A5 V' ?_ rfl ?_;omega|apply CT|apply AE|refine AD (Jx _ _) ?_)<;>conv=>whnf
  refine DH (enc:=eQ) (BT r b) rfl hlen.symm rfl O' O' ?_;conv=>whnf
  repeat' (first|apply AR;omega|fail)<;>conv=>whnf
  rw[<-AnV hy,Hl];exact BF [(138005,138021)] (jh (j+1) O' O')
 obtain rfl:j=m.length:=O'
 clear jh;rw[zT O'];repeat' (first|apply AG<;>intro hc<;>try omega|apply AP|apply AE)<;>conv=>whnf
 refine C6 (enc:=eQ) (λ_=>rfl) rfl mf.symm ?_;conv=>whnf
 exact AW rfl (by simp only[AY,true_and];exact MM _)
theorem Aj0{z:Int}{d:Nat}(h:d≠0):(mkRat z d).floor=z/(d:Int):=by
 rw[Rat.floor_def];have hx:=Rat.den_nz (mkRat z d);have e:mkRat (mkRat z d).num (mkRat z d).den=mkRat z d:=Rat.mkRat_self _;rw[Rat.mkRat_eq_iff hx h]at e;generalize (mkRat z d).num=p at*;generalize (mkRat z d).den=q at*;have h1:p/(q:Int)=(p*(d:Int))/((q:Int)*d):=(qf p (q:Int) O').symm;have h2:z/(d:Int)=(z*(q:Int))/((d:Int)*q):=(qf z (d:Int) O').symm;rw[h1,h2,e,nh (q:Int) d]
theorem Aj1{a d:Nat}(h:d≠0):(-(a:Int))/(d:Int) = -((if 0<a%d then a/d+1 else a/d:Nat):Int):=by
 have h1:=Nat.div_add_mod a d;have h2:=eg a (gg h);generalize a/d=q at*;generalize a%d=r at*;split
 ·refine((Bf (r:=(d:Int)-r) O').2 ⟨?_,O',O'⟩).1
  rw[<-h1,Fh];push_cast
  rw[Int.mul_add];omega
 ·obtain rfl:r=0:=O'
  refine((Bf (r:=0) O').2 ⟨?_,O',O'⟩).1;rw[<-h1,Fh];push_cast
  omega
theorem AiQ(N:eu L)(n:Bool)(m d:u_)(hm:Sm 549755813880 m)(hd:Sm 549755813880 d)(h0:val d≠0) :
  ∃r:Int,∀q1 q2,Ev L 383 [.agg (rZ q1 n m),.agg (rZ q2 false d)] (.j5 [.agg (eZ (zv n m/(val d:Int))),.agg (eZ r),.int .i64 0]):=by
 have hD:=λq q'=>fS N.toc6 m d q q' hm.1 hd.1 (by have:=hm.2;omega) (by have:=hd.2;omega) h0
 have z0:=IU (val m/val d);have z1:=IU (val m%val d);have sq:Sm 549755813880 (dg (val m/val d)):=hm.low (Lg _ _);have sr:Sm 549755813880 (dg (val m%val d)):=hm.low (Nat.mod_le _ _);have k7:=eg (val m) (gg h0);have u6:∀a b:Int,AY (.j5 [.agg (eZ a),.agg (eZ b),.int .i64 0]):=λa b=>by
  simp only[AY,BK,and_true,true_and];exact⟨C8 _,C8 _⟩
 have aq:∀(x a:Nat)(b c:Bool)(u v:Int),x=u.natAbs->a=v.natAbs->b=decide (u<0)->c=decide (v<0)->AH (.j5 [.agg [.bool b,.sl false ((dg x).map AJ)],.agg [.bool c,.sl false ((dg a).map AJ)],.int .i64 0]) (.j5 [.agg (eZ u),.agg (eZ v),.int .i64 0]):=λx a b c u v e1 e2 e3 e4=>by
  rw[e1,e2,e3,e4];exact AW rfl (u6 _ _)
 cases n with
 |false=>
  refine⟨((val m%val d:Nat):Int),λq1 q2=>?_⟩;rw[FI,<-Ng];generalize val m/val d=Q at*;generalize val m%val d=R at*;refine Ev.x N.K6 rfl rfl ?_;repeat' (first|apply AG<;>intro hc<;>try omega|apply AE|refine AD (hD _ _) ?_)<;>conv=>whnf
  refine EZ 1000 N.CS rfl rfl ?_;(repeat' (apply AE<;>conv=>whnf))
  all_goals (refine⟨rfl,?_⟩;(conv=>whnf);skip)
  refine EZ 1000 N.CS rfl rfl ?_;(repeat' (apply AE<;>conv=>whnf))
  all_goals (refine⟨rfl,?_⟩;(conv=>whnf);skip)
  exact aq _ _ _ _ _ _ O' O' (GF O') (GF O')
 |true=>
  have hA:=λq q'=>yU N.toc6 (dg (val m/val d)) [1] q q' sq.1 (IV O') (by have:=sq.2;omega) Z'
  rw[BQ,show val [1]=1 from rfl]at hA;have hS:=λq q'=>mV N.toc6 d (dg (val m%val d)) q q' hd.1 sr.1 (by have:=hd.2;omega) (by have:=sr.2;omega)
  rw[BQ]at hS;have z2:=IU (val m/val d+1);rw[OH,Aj1 h0];by_cases hr:0<val m%val d
  ·refine⟨((val d-val m%val d:Nat):Int),λq1 q2=>?_⟩
   rw[if_pos hr];generalize val m/val d=Q at*;generalize val m%val d=R at*;refine Ev.x N.K6 rfl rfl ?_;repeat' (first|apply AG<;>intro hc<;>try omega|apply AP|refine JP rfl ?_|apply AE|refine AD (hD _ _) ?_|refine AD (hA _ _) ?_|refine AD (hS _ _) ?_)<;>conv=>whnf
   refine EZ 1000 N.CS rfl rfl ?_;repeat' (first|apply AG<;>intro hc<;>try omega|apply AP|apply AE)<;>conv=>whnf
   all_goals (refine⟨rfl,?_⟩;(conv=>whnf);skip)
   refine EZ 1000 N.CS rfl rfl ?_;(repeat' (apply AE<;>conv=>whnf))
   all_goals (refine⟨rfl,?_⟩;(conv=>whnf);skip)
   exact aq _ _ _ _ _ _ O' O' (MC O') (GF O')
  ·refine⟨0,λq1 q2=>?_⟩
   rw[if_neg hr];generalize val m/val d=Q at*;generalize val m%val d=R at*;by_cases hq:Q=0
   ·refine Ev.x N.K6 rfl rfl ?_
    repeat' (first|apply AG<;>intro hc<;>try omega|apply AP|apply AE|refine AD (hD _ _) ?_)<;>conv=>whnf
    refine EZ 1000 N.CS rfl rfl ?_;repeat' (first|apply AG<;>intro hc<;>try omega|apply AP|apply AE)<;>conv=>whnf
    all_goals (refine⟨rfl,?_⟩;(conv=>whnf);skip)
    refine EZ 1000 N.CS rfl rfl ?_;(repeat' (apply AE<;>conv=>whnf))
    all_goals (refine⟨rfl,?_⟩;(conv=>whnf);skip)
    exact aq _ _ _ _ _ _ O' O' (GF O') (GF O')
   ·refine Ev.x N.K6 rfl rfl ?_
    repeat' (first|apply AG<;>intro hc<;>try omega|apply AP|apply AE|refine AD (hD _ _) ?_)<;>conv=>whnf
    refine EZ 1000 N.CS rfl rfl ?_;repeat' (first|apply AG<;>intro hc<;>try omega|apply AP|apply AE)<;>conv=>whnf
    all_goals (refine⟨rfl,?_⟩;(conv=>whnf);skip)
    refine EZ 1000 N.CS rfl rfl ?_;(repeat' (apply AE<;>conv=>whnf))
    all_goals (refine⟨rfl,?_⟩;(conv=>whnf);skip)
    exact aq _ _ _ _ _ _ O' O' (MC O') (GF O')
theorem AiM(N:eu L){x:Rat}{k:Nat}(hx:Bt k x)(hk:k<2199023255552):Ev L 384 [.agg (eQ x)] (.agg (eZ x.floor)):=by
 have hs:=hx.sm hk;obtain⟨n',m',d',w,hr,s1,s2,s3,s4,s5⟩:=NZ N.toa6 (decide (x.num<0)) (dg x.num.natAbs) (dg x.den) 68719476736 O' hs.1 hs.2;rw[GD]at s5;have wj:=V5 N.toa6 d';obtain⟨r,hD⟩:=AiQ N n' m' d' (s1.le O') (s2.le O') s3;rw[<-Aj0 s3,<-s5]at hD;generalize x.floor=f at*;refine Ev.x N.TL rfl rfl ?_;repeat' (first|apply IC|apply RT|apply AE|refine AD (hr) ?_|refine AD (wj) ?_|refine AD (hD _ _) ?_)<;>conv=>whnf
 exact AW rfl (D8 _)
theorem vM(v:Int)(b:Bool):AY (.j5 [.int .i64 v,.bool b]):=by simp[AY,BK]
theorem Ue{q:Rat}:q.num<0↔q<0:=by rw[<-Bh,Ig,Eh]
theorem Uf{q:Rat}:0<q.num↔0<q:=by
 have h:=Ue (q := -q);rw[Jf]at h;constructor
 ·intro h1
  have:=h.1 O'
  grind
 ·intro h1
  have:=h.2 A'
  omega
theorem Am9{m:Int}{x:Rat}:w6 ((m:Rat)-x).num<=0↔m<=x.floor:=by
 rw[Rat.le_floor_iff];have h1:w6 ((m:Rat)-x).num<=0↔((m:Rat)-x).num<=0:=by
  unfold w6;split
  ·omega
  ·split<;>omega
 rw[h1,<-Dh,Uf];constructor<;>intro h<;>grind
theorem Xr{m:Int}{x:Rat}:0<w6 (x-(m:Rat)).num↔(m:Rat)<x:=by
 have h1:0<w6 (x-(m:Rat)).num↔0<(x-(m:Rat)).num:=by
  unfold w6;split
  ·omega
  ·split<;>omega
 rw[h1,Uf];constructor<;>intro h<;>grind
theorem Xq{m:Int}{x:Rat}:w6 (x-(m:Rat)).num<0↔x<(m:Rat):=by
 have h1:w6 (x-(m:Rat)).num<0↔(x-(m:Rat)).num<0:=by
  unfold w6;split
  ·omega
  ·split<;>omega
 rw[h1,Ue];constructor<;>intro h<;>grind
end Go.e9

namespace Go.e9
open F
attribute [local irreducible] AA AF AX AC B4 AU A7 A8 BV BI B0 DS BG A1 BU CB AB A2 AH pw CG B3 CR DK C2 CO CJ BL CY C3 C4 CX C7
variable {L:Lib}
set_option maxRecDepth 8000
theorem Wn{l:o_}{i:Nat}{x:Rat}(h:l[i]?=some x):BM (l.take (i+1))=BM (l.take i)+B1 x:=by rw[KQ h,Wm]
theorem zC(N:v7 L)(q:Bool)(v:o_)(k:Nat)(hv:Bs k v)(hn:v.length<=1000)(hk:k<=1000000000):Ev L 300 [.sl q (v.map eQ)] (.agg (eQ (BM v))):=by
 have hO:=JG N.toa6 0 O';rw[show((0:Int):Rat)=0 from rfl]at hO;refine Ev.x N.PI rfl rfl ?_;repeat' (first|apply AP|apply AE|refine AD (hO) ?_)<;>conv=>whnf
 refine EA (λi=>v.length-i) (λ(i:Nat)=>i<=v.length) (λi=>[(9,.int .i64 i)]) (λi=>[(3,3,.bx (eQ (BM (v.take i))))]) [] [] 0 (by rw[show BM (v.take 0)=0 from rfl];exact E') O' ?_;intro i p1 ih;by_cases hi:i<v.length
 ·obtain⟨x,hx⟩:=N' v i hi
  have ve:v[(i:Int).toNat]?=some x:=hx;have hA:=fP N.tobp (hv.at hx) O';have hz:Bt (1000*(k+1)) (BM (v.take i)):=(RL (hv.take i)).le (zR _ J');have hP:=KD N.toa6 hz (JQ (hv.at hx)) O' O';rw[<-Wn hx]at hP;generalize BM (v.take i)=w at*;generalize B1 x=y at*;repeat' (first|apply AG<;>intro hc<;>try omega|apply AR;omega|refine A5 V' ?_ rfl ?_;omega|apply AE|refine AD (hA) ?_|refine AD (hP) ?_)<;>conv=>whnf
  exact BF [] (ih (i+1) O' O')
 obtain rfl:i=v.length:=O'
 clear ih;rw[zT (ib _)];repeat' (first|apply AG<;>intro hc<;>try omega|apply AE)<;>conv=>whnf
 exact AW rfl (DY _)
theorem Sa{l:o_}{i:Nat}{x:Rat}(h:l[i]?=some x):C0 (l.take (i+1))=JI (C0 (l.take i)) x:=by rw[KQ h,Aki]
theorem WU{x y:Rat}:0<w6 (x-y).num↔y<x:=by
 have h:=rN (x-y).num;have e1:(x-y).num<0↔x<y:=by rw[pY];constructor<;>intro h<;>grind
 have e2:(x-y).num=0↔x=y:=by rw[Rat.num_eq_zero];constructor<;>intro h<;>grind
 rcases h with⟨h1,h2⟩|⟨h1,h2⟩|⟨h1,h2⟩
 ·have:=e1.1 h2
  rw[h1];constructor
  ·intro h;omega
  ·intro h;grind
 ·have:=e2.1 h2
  rw[h1];constructor
  ·intro h;omega
  ·intro h;grind
 ·have h3:¬x<y:=λh=>by have:=e1.2 h;omega
  have h4:¬x=y:=λh=>by have:=e2.2 h;omega
  rw[h1];constructor
  ·intro _;grind
  ·intro _;omega
theorem Aja(N:v7 L)(q:Bool)(v:o_)(k:Nat)(hv:Bs k v)(hn:v.length<=1000000)(hk:k<=1000000000000):Ev L 301 [.sl q (v.map eQ)] (.agg (eQ (C0 v))):=by
 have hO:=JG N.toa6 0 O';rw[show((0:Int):Rat)=0 from rfl]at hO;refine Ev.x N.PE rfl rfl ?_;repeat' (first|apply AP|apply AE|refine AD (hO) ?_)<;>conv=>whnf
 refine EA (λi=>v.length-i) (λ(i:Nat)=>i<=v.length) (λi=>[(10,.int .i64 i)]) (λi=>[(3,3,.bx (eQ (C0 (v.take i))))]) [] [] 0 (by rw[show C0 (v.take 0)=0 from rfl];exact E') O' ?_;intro i p1 ih;by_cases hi:i<v.length
 ·obtain⟨x,hx⟩:=N' v i hi
  have ve:v[(i:Int).toNat]?=some x:=hx;have hA:=fP N.tobp (hv.at hx) O';have hC:=mP N.tocp (JQ (hv.at hx)) (Q5 (hv.take i)) O' O';have hg:=WU (x:=B1 x) (y:=C0 (v.take i));have hs:C0 (v.take (i+1))=if C0 (v.take i)<B1 x then B1 x else C0 (v.take i):=Sa hx
  by_cases h:C0 (v.take i)<B1 x
  ·rw[if_pos h]at hs
   have h1:=hg.2 h;rw[<-hs]at hA hC h1;generalize w6 (C0 (v.take (i+1))-C0 (v.take i)).num=g at*;repeat' (first|apply AG<;>intro hc<;>try omega|apply AR;omega|refine A5 V' ?_ rfl ?_;omega|apply AE|refine AD (hA) ?_|refine AD (hC) ?_)<;>conv=>whnf
   exact BF [] (ih (i+1) O' O')
  ·rw[if_neg h]at hs
   have h1:¬0<w6 (B1 x-C0 (v.take i)).num:=λe=>h (hg.1 e)
   rw[<-hs]at hC h1⊢;clear hg h hs;generalize w6 (B1 x-C0 (v.take (i+1))).num=g at*;generalize B1 x=y at*;repeat' (first|apply AG<;>intro hc<;>try omega|apply AR;omega|refine A5 V' ?_ rfl ?_;omega|apply AE|refine AD (hA) ?_|refine AD (hC) ?_)<;>conv=>whnf
   exact BF [] (ih (i+1) O' O')
 obtain rfl:i=v.length:=O'
 clear ih;rw[zT (ib _)];repeat' (first|apply AG<;>intro hc<;>try omega|apply AE)<;>conv=>whnf
 exact AW rfl (DY _)
theorem Ai8(N:v7 L)(q q':Bool)(a:P')(D:Rat)(n k l:Nat)(hs:Sq n a)(ha:Ms k a)(hD:Bt l D)(hn:n<=16)(hk:k<=1000000000)(hl:l<=1000000000):Ev L 302 [.sl q (IX q' a),.agg (eQ D)] (.bool (decide (∀r∈a,BM r+BM r<=D))):=by
 have na:=hs.l;refine Ev.x N.PA rfl rfl ?_;repeat' (first|apply AP|apply AE)<;>conv=>whnf
 refine DG (λi=>n-i) (λ(i:Nat)=>i<=n/\∀r∈a.take i,BM r+BM r<=D) (λi=>[(10,.int .i64 i)]) (λ_=>[]) 0 ⟨O',λr hr=>by cases hr⟩ ?_;intro i ⟨p1,p2⟩ ih;by_cases hi:i<n
 ·obtain⟨r,hr⟩:=N' a i
  have uz:a[(i:Int).toNat]?=some r:=hr;have il:=hs.at hr;have hT:=λq=>zC N q r k (ha.at hr) O' hk
  have hz:Bt (16*(k+1)) (BM r):=(RL (ha.at hr)).le (zR _ O');have hP:=KD N.toa6 hz hz O' O';have hC:=mP N.tocp (hz.add hz) hD O' O';have hg:=WU (x:=BM r+BM r) (y:=D);by_cases h:D<BM r+BM r
  ·have jj:¬∀r∈a,BM r+BM r<=D:=λe=>by
    have:=e r (zM hr)
    grind
   have:=hg.2 h
   rw[decide_eq_false jj];clear jj p2 ih hz h hg;generalize w6 (BM r+BM r-D).num=g at*;generalize BM r+BM r=w at*;generalize BM r=z at*;repeat' (first|apply AG<;>intro hc<;>try omega|refine A5 V' ?_ rfl ?_;omega|apply AE|refine AD (hT _) ?_|refine AD (hP) ?_|refine AD (hC) ?_)<;>conv=>whnf
   exact E9 rfl
  ·have Qp:∀r∈a.take (i+1),BM r+BM r<=D:=λs hs=>by
    rw[KQ hr]at hs;rcases Ce.1 hs with hs|hs
    ·exact p2 s hs
    ·obtain rfl:=xg.1 hs
     grind
   have:¬0<w6 (BM r+BM r-D).num:=λe=>h (hg.1 e)
   clear p2 hz h hg;generalize w6 (BM r+BM r-D).num=g at*;generalize BM r+BM r=w at*;generalize BM r=z at*;repeat' (first|apply AG<;>intro hc<;>try omega|apply AR;omega|refine A5 V' ?_ rfl ?_;omega|apply AE|refine AD (hT _) ?_|refine AD (hP) ?_|refine AD (hC) ?_)<;>conv=>whnf
   exact BF [] (ih (i+1) O' ⟨O',Qp⟩)
 obtain rfl:i=n:=O'
 clear ih;rw[zT O']at p2;rw[decide_eq_true p2];repeat' (first|apply AG<;>intro hc<;>try omega|apply AE)<;>conv=>whnf
 exact E9 rfl
theorem Uw{α:Type}{a b:List α}{j:Nat}{y:α}(hl:a.length=b.length)(hy:a[j]?=some y):(a.take j++b.drop j).set j y=a.take (j+1)++b.drop (j+1):=by
 have h:=(zS hy).1;rw[Jc _ _ J',za,Ed O',Qc,Db O',je,zb,hy,db,Kc];rfl
def JD(Q:P')(n j:Nat):List (p_):=Q.map λr=>some (3,(ED (r.take j) n).map eO)
def MO(Q:P')(n j m:Nat):List (p_):=(JD Q n (j+1)).take m++(JD Q n j).drop m
theorem QW(Q:P')(n j:Nat):(JD Q n j).length=Q.length:=by simp[JD]
theorem AgX(Q:P')(n j:Nat):MO Q n j 0=JD Q n j:=by simp[MO]
theorem AgU(Q:P')(n j:Nat):MO Q n j Q.length=JD Q n (j+1):=by
 rw[MO,zT (by rw[QW];exact ib _),Lc (by rw[QW];exact ib _),mb]
theorem AgV{Q:P'}{n j m:Nat}(h:m<=Q.length):(MO Q n j m).length=Q.length:=by
 rw[MO,ga,za,Od,QW,QW];omega
theorem AgT{Q:P'}{n j m:Nat}{r:o_}(hr:Q[m]?=some r):(MO Q n j m)[m]?=some (some (3,(ED (r.take j) n).map eO)):=by
 have h:=(zS hr).1;rw[MO,Fb (by rw[za,QW];omega),za,QW,Ed O',Qc,ie,Gd,JD,ya,hr];rfl
theorem AgW{Q:P'}{n j m:Nat}{r:o_}(hr:Q[m]?=some r):(MO Q n j m).set m (some (3,(ED (r.take (j+1)) n).map eO))=MO Q n j (m+1):=by
 have h:=(zS hr).1;exact Uw (by rw[QW,QW]) (by rw[JD,ya,hr];rfl)
theorem Ae2{R:List (p_)}{i z:Nat}{es:v_}{K:Nat->v_->Prop}(h:R[i]?=some (some (z,es)))(hk:K z es):B3 R i K:=by
 unfold B3;exact⟨z,es,h,hk⟩
theorem AgY{Q:P'}{n:Nat}(h:∀r∈Q,r.length=n):JD Q n n=E2 3 eQ Q:=by
 refine ka λr hr=>?_
 have:=h r hr
 rw[zT O',aQ this]
theorem Ajb(N:v7 L)(q q':Bool)(a:P')(n k:Nat)(hs:Sq n a)(ha:Ms k a)(hn:n<=4)(hk:k<=1000000000):Ev L 299 [.sl q (IX q' a)] (.sl false (eM (IJ a a n))):=by
 have na:=hs.l;have Gf:Sq n (IJ a a n):=Sq.mul hs.l a;have Nb:∀(i:Nat)(r:o_),a[i]?=some r->(IJ a a n)[i]?=some (GN r a n):=λi r hr=>by rw[IJ,ya,hr];rfl
 have Jz:∀(j:Nat)(r:o_),j<n->(GN r a n)[j]?=some (BT r (DW a j)):=λj r hj=>by rw[GN,ya,Pa hj];rfl
 have Nc:=Gf.l;have Jy:=Gf.r;generalize IJ a a n=Q at*;refine Ev.x N.JV rfl rfl ?_;repeat' (first|apply AP|apply AE)<;>conv=>whnf
 unfold C2;refine⟨⟨O',O',by simp only[E7];omega,O'⟩,?_⟩;rw[Ga,na];conv=>whnf
 skip
 have nc:=QW Q n 0;have Jr:∀i,i<n->(JD Q n 0)[i]?=some (some (3,(ja n (none:Option Rat)).map eO)):=λi hi=>by
  rw[JD,ya,zE O',Ja,xb,aR]
 refine EA (λi=>n-i) (λ(i:Nat)=>i<=n) (λi=>[(15,.int .i64 i)]) (λi=>[(13,13,.mx (fz none ((JD Q n 0).take i) n))]) [] [] 0 (by first|exact E'|(rw[xb,show fz (none:p_) [] n=ja n none by simp[fz]];exact E')) O' ?_;intro i p1 ih;have dp:((JD Q n 0).take i).length=i:=by rw[za];omega
 have jc:=Tt (z:=(none:p_)) (l:=(JD Q n 0).take i) (m:=n) O';by_cases hi:i<n
 ·have vt:=Tu (z:=(none:p_)) (x:=some (3,(ja n (none:Option Rat)).map eO)) (l:=(JD Q n 0).take i) (m:=n) O'
  rw[dp,<-KQ (Jr i hi)]at vt;generalize fz (none:p_) ((JD Q n 0).take i) n=J at*;repeat' (first|apply AG<;>intro hc<;>try omega|apply AE)<;>conv=>whnf
  refine FJ (enc:=eO) none n rfl rfl O' ?_;conv=>whnf
  repeat' (first|apply A4;omega|fail)<;>conv=>whnf
  unfold AX CR;refine⟨Z',O',?_⟩;conv=>whnf
  rw[show 0+((i:Int)).toNat=i by omega,vt];repeat' (first|apply AR;omega|fail)<;>conv=>whnf
  exact BF [] (ih (i+1) O' O')
 have ei:i=n:=O'
 clear ih jc;rw[ei,zT O',Ts O'];repeat' (first|apply AG<;>intro hc<;>try omega|apply AE)<;>conv=>whnf
 refine FJ (enc:=eO) none n rfl rfl O' ?_;conv=>whnf
 skip
 refine EE (λj _=>n-j) (λ(j:Nat)(C:List (Option Rat))=>j<=n/\C.length=n) (λj _=>[(27,.int .i64 j)]) (λj C=>[(25,25,.rw 3 (C.map eO)),(13,13,.mx (JD Q n j))]) 0 (ja n none) ⟨O',Z'⟩ ?_;intro j C ⟨r1,r2⟩ jh;by_cases hj:j<n
 ·have u6:(DW a j).length=n:=by rw[AgR];exact na
  have ABB:((DW a j).map some).length=n:=by rw[xa];exact u6
  repeat' (first|apply AG<;>intro hc<;>try omega|apply AE)<;>conv=>whnf
  refine EA (λi=>n-i) (λ(i:Nat)=>i<=n) (λi=>[(31,.int .i64 i)]) (λi=>[(25,25,.rw 3 ((((DW a j).map some).take i++C.drop i).map eO))]) [] [] 0 (by rw[xb,Bd,Pc];exact E') O' ?_;intro i2 s1 kh;have ux:(((DW a j).map some).take i2++C.drop i2).length=n:=by rw[ga,za,Od];omega
  by_cases wc:i2<n
  ·obtain⟨r,hr⟩:=N' a i2
   have il:=hs.at hr;obtain⟨x,hx⟩:=N' r j;have uz:a[(i2:Int).toNat]?=some r:=hr;have ve:r[(j:Int).toNat]?=some x:=hx;have hcx:((DW a j).map some)[i2]?=some (some x):=by
    rw[ya,DW,ya,hr];simp only[Ja,ua,hx,Qb]
   have o7:=Uw (a:=(DW a j).map some) (b:=C) O' hcx;generalize ((DW a j).map some).take i2++C.drop i2=W at*;repeat' (first|apply AG<;>intro hc<;>try omega|apply A4;omega|refine A5 V' ?_ rfl ?_;omega|apply AE)<;>conv=>whnf
   refine H4 (enc:=eO) (some x) rfl (λe=>by cases e<;>rfl) O' ?_;conv=>whnf
   rw[o7];repeat' (first|apply AR;omega|fail)<;>conv=>whnf
   exact BF [] (kh (i2+1) O' O')
  obtain rfl:i2=n:=O'
  clear kh ux;rw[zT O',Lc O',mb,show((DW a j).map some).map eO=(DW a j).map eQ by rw[Jb];rfl];repeat' (first|apply AG<;>intro hc<;>try omega|apply AE)<;>conv=>whnf
  refine EA (λi=>i2-i) (λ(i:Nat)=>i<=i2) (λi=>[(46,.int .i64 i)]) (λi=>[(13,13,.mx (MO Q i2 j i))]) [] [] 0 (by rw[AgX];exact E') O' ?_;intro i3 s2 lh;have ux:=AgV (Q:=Q) (n:=i2) (j:=j) (m:=i3) O';by_cases Ej:i3<i2
  ·obtain⟨r,hr⟩:=N' a i3
   have il:=hs.at hr;have uz:a[(i3:Int).toNat]?=some r:=hr;have hq:=Nb i3 r hr;have gk:=AgT (n:=i2) (j:=j) hq;have bz:=AgW (n:=i2) (j:=j) hq;have Iz:=Jz j r hj;have Pn:(GN r a i2).length=i2:=Jy _ (zM hq);have htk:((GN r a i2).take j).length=j:=by rw[za];omega
   have vt:=YF (l:=(GN r a i2).take j) (m:=i2) (x:=BT r (DW a j)) O';rw[htk,<-KQ Iz]at vt;have jc:=SC (l:=(GN r a i2).take j) (m:=i2) O';rw[<-vt]at bz;have hD:=λq q'=>yZ N q q' r (DW a j) k k O' (ha.at hr) (Ms.Lw ha j) O' hk hk
   clear hq Iz vt htk Pn;generalize ED ((GN r a i2).take j) i2=W at*;generalize BT r (DW a j)=y at*;generalize MO Q i2 j i3=R0 at*;repeat' (first|apply AG<;>intro hc<;>try omega|apply A4;omega|apply AE)<;>conv=>whnf
   refine dE (r:=some (3,W.map eO)) (by rw[Mb,Ga];exact gk) ?_;conv=>whnf
   repeat' (first|refine A5 V' ?_ rfl ?_;omega|fail)<;>conv=>whnf
   refine C6 (enc:=eQ) (λ_=>rfl) rfl u6.symm ?_;conv=>whnf
   (repeat' (refine AD (hD _ _) ?_<;>conv=>whnf))
   refine A4 H' ?_;conv=>whnf
   skip
   refine Ae2 (z:=3) (es:=W.map eO) (by rw[Mb,Ga];exact gk) ?_;conv=>whnf
   refine H4 (enc:=eO) (some y) rfl (λe=>by cases e<;>rfl) O' ?_;conv=>whnf
   unfold DK;refine⟨by rw[xa,xa,xc],?_⟩;rw[show 0+((i3:Int)).toNat=i3 by omega,bz];conv=>whnf
   repeat' (first|apply AR;omega|fail)<;>conv=>whnf
   exact BF [] (lh (i3+1) O' O')
  obtain rfl:i3=i2:=O'
  clear lh ux;have km:=AgU Q i3 j;rw[Nc]at km;rw[km];repeat' (first|apply AG<;>intro hc<;>try omega|apply AR;omega|apply AE)<;>conv=>whnf
  rw[show(DW a j).map eQ=((DW a j).map some).map eO by rw[Jb];rfl];exact BF [] (jh (j+1) ((DW a j).map some) O' ⟨O',by rw[xa];exact u6⟩)
 have ej:j=n:=O'
 clear jh;rw[ej,AgY Jy];repeat' (first|apply AG<;>intro hc<;>try omega|apply AE)<;>conv=>whnf
 refine VH (λ_=>rfl) rfl O' ?_;conv=>whnf
 exact AW rfl (vL Q)
abbrev IW(q:Bool)(R:P')(D:Rat)(p:Int)(T:Rat):w_:=[.sl false (IX q R)]++eQ D++[.int .i64 p]++eQ T
theorem lH(R:P')(D:Rat)(p:Int)(T:Rat)(e:Int):AY (.j5 [.agg (IW false R D p T),.int .i64 e]):=by
 have h1:=lI R;have h2:=DY D;have h3:=DY T;simp only[AY,BK,true_and,and_true,IW,Ie,Pc]at h1 h2 h3⊢;exact⟨h1,h2.1,h2.2,h3.1,h3.2⟩
theorem RH{i:Nat}(h:i<=6):2^i<=64/\(2^i=64->i=6)/\1<=2^i:=by
 obtain rfl|rfl|rfl|rfl|rfl|rfl|rfl:i=0\/i=1\/i=2\/i=3\/i=4\/i=5\/i=6:=O'
 all_goals decide
theorem qL{D:Rat}{d:Nat}(h:Bt d D):∀j:Nat,Bt (j*d) (D^j)
 |0=>by rw[dc];exact Bt.one _
 |j+1=>by
  rw[Cb];exact((qL h j).mul h).le (by rw[Ib];omega)
theorem iG{S M:Nat}(h:S<=2^M):Bt M (S:Rat):=by
 refine⟨?_,?_⟩
 ·rw[xf,Ob];exact h
 ·rw[sf];exact de
theorem WI{S:Nat}(h:0<S):(0:Rat)<(S:Rat):=by
 have:=Rat.natCast_lt_natCast.2 h
 exact this
theorem Ajc(N:v7 L)(q q':Bool)(a:P')(n k:Nat)(hs:Sq n a)(ha:Ms k a)(hn:n<=4)(hk:k<=100000) :
  ∃v,Ev L 303 [.sl q (IX q' a)] v/\((∃i,i<=6/\GP n a i/\v = .j5 [.agg (IW false (CH (HN a.flatten) a) (HN a.flatten) ((2^i:Nat):Int) (HN a.flatten^(2^i+2^i-1))),.int .i64 0]) \/
   ((∀j,j<=6->ES (CI n a j)=false)/\v = .j5 [.agg [.sl false [],.bool false,.sl false [],.sl false [],.int .i64 0,.bool false,.sl false [],.sl false []],.int .i64 14])):=by
 have na:=hs.l;have nu:n*n<=4*4:=ob hn hn;have ma:n*n*k<=16*k:=zR k nu;have jc:a.flatten.length<=64:=by
  have:∀(a:P'),(∀r∈a,r.length=n)->a.flatten.length=a.length*n:=by
   intro a;induction a with
   |nil=>intro _;simp
   |cons r a ih=>
    intro h;rw[Mc,ga,ih λx hx=>h x (Ma _ hx),h r La,Hb,Ib,pd]
  rw[this a hs.r,na];omega
 have xq:=mY N q q' a k ha jc O' O';have hO:=JG N.toa6 1 O';rw[show((1:Int):Rat)=1 from rfl]at hO;obtain⟨D0,eD,d1,d2,d3⟩:=jN hs ha;have vk:Bt (16*k) (D0:Rat):=iG (vb d2 (Fa O' ma));have hDp:(0:Rat)<(D0:Rat):=WI d1;have hDN:=mD (vb d2 (Fa O' ma));have hRW:=jT hs hn d3;rw[eD]at xq⊢;generalize (D0:Rat)=D at*;clear eD d1 d2 d3;have Ch:(CH D a).length=n:=by rw[Wq];exact na
 have Nh:∀(i:Nat)(r:o_),a[i]?=some r->(CH D a)[i]?=some (r.map (· * D)):=λi r hr=>Ani hr
 have wv:∀i,Sq n (CH (D9 D i) (CI n a i)):=λi=>Wr _ (W5 hs i)
 have yd:∀i,i<=6->Ms 300000000 (CH (D9 D i) (CI n a i)):=λi hi r hr x hx=>((hRW i r hr x hx).le (by have:=Ze (k:=k) i O';omega)).bt
 have bn:∀i,i<=6->Bt 300000000 (D9 D i):=λi hi=>((hDN i).le (by
  have:=(RH hi).1
  have:=zR (16*k) this
  omega)).bt
 have hCt:=λ(i:Nat)(q q':Bool)(hi:i<=6)=>Ai8 N q q' (CH (D9 D i) (CI n a i)) (D9 D i) n 300000000 300000000 (wv i) (yd i hi) (bn i hi) O' O' O'
 have Gn:=λ(i:Nat)(q q':Bool)(hi:i<=6)=>Ajb N q q' (CH (D9 D i) (CI n a i)) n 300000000 (wv i) (yd i hi) hn O'
 have hMD:=λ(i:Nat)(hi:i<=6)=>K4 N.toa6 (bn i hi) (bn i hi) O' O'
 have o7:∀i,IJ (CH (D9 D i) (CI n a i)) (CH (D9 D i) (CI n a i)) n=CH (D9 D (i+1)) (CI n a (i+1)):=λi=>Adj n a D i
 have hci:∀i,(∀r∈CH (D9 D i) (CI n a i),BM r+BM r<=D9 D i)↔ES (CI n a i)=true:=λi=>Ag2 hDp
 have uo:=λ(j:Nat)(hj:j<=128)=>K4 N.toa6 (qL vk j) vk (show j*(16*k)<2199023255552 by
  have:=zR (16*k) hj
  omega) O'
 have Hc:∀(i:Nat)(q q':Bool),i<=6->Ev L 302 [.sl q (IX q' (CH (D9 D i) (CI n a i))),.agg (eQ (D9 D i))] (.bool (ES (CI n a i))):=λi q q' hi=>by
  have:=hCt i q q' hi
  rwa [show decide (∀r∈CH (D9 D i) (CI n a i),BM r+BM r<=D9 D i)=ES (CI n a i)by rw[Bool.eq_iff_iff,decide_eq_true_iff];exact hci i]at this
 have Gm:∀(i:Nat)(q q':Bool),i<=6->Ev L 299 [.sl q (IX q' (CH (D9 D i) (CI n a i)))] (.sl false (eM (CH (D9 D (i+1)) (CI n a (i+1))))):=λi q q' hi=>by
  have:=Gn i q q' hi
  rwa [o7]at this
 have nm:∀i,i<=6->Ev L 99 [.agg (eQ (D9 D i)),.agg (eQ (D9 D i))] (.agg (eQ (D9 D (i+1)))):=hMD;have My:∀j:Nat,j<=128->Ev L 99 [.agg (eQ (D^j)),.agg (eQ D)] (.agg (eQ (D^(j+1)))):=λj hj=>by
  have:=uo j hj
  rwa [<-Cb]at this
 have ym:∀q q':Bool,Ev L 302 [.sl q (IX q' (CH D a)),.agg (eQ D)] (.bool (ES (CI n a 0))):=λq q'=>Hc 0 q q' O'
 have Gg:∀q q':Bool,Ev L 299 [.sl q (IX q' (CH D a))] (.sl false (eM (CH (D9 D 1) (CI n a 1)))):=λq q'=>Gm 0 q q' O'
 have Gc:Ev L 99 [.agg (eQ D),.agg (eQ D)] (.agg (eQ (D9 D 1))):=nm 0 O';clear hCt Gn hMD uo o7 hci yd bn wv hRW hDN;refine Ev.xE N.LF rfl rfl ?_;by_cases h0:n=0
 ·obtain rfl:a=[]:=Qd.1 O'
  have hb:ES (CI n [] 0)=true:=rfl;have oi:=ym false false;rw[hb]at oi;have Me:Ev L 302 [.sl false [],.agg (eQ D)] (.bool true):=oi;have hP0:=My 0 O';rw[dc]at hP0;repeat' (first|apply AP|apply AE|refine AD (xq) ?_|refine AD (hO) ?_)<;>conv=>whnf
  refine I5 ?_;repeat' (first|apply AG<;>intro hc<;>try omega|apply AE)<;>conv=>whnf
  refine I5 ?_;repeat' (first|apply BS;omega|apply GH;omega|apply AE|refine AD (Me) ?_)<;>conv=>whnf
  refine I5 ?_;repeat' (first|apply AG<;>intro hc<;>try omega|apply AR;omega|apply AE|refine AD (hP0) ?_)<;>conv=>whnf
  refine I5 ?_;repeat' (first|apply AG<;>intro hc<;>try omega|apply AE)<;>conv=>whnf
  refine⟨.j5 [.agg (IW false [] D 1 (D^1)),.int .i64 0],?_,Or.inl ⟨0,O',⟨rfl,λj hj=>absurd hj O'⟩,rfl⟩⟩;exact AW rfl (lH [] D 1 (D^1) 0)
 repeat' (first|apply AP|apply AE|refine AD (xq) ?_|refine AD (hO) ?_)<;>conv=>whnf
 refine EE (λi _=>n-i) (λ(i:Nat)(fl:Bool)=>i<=n/\fl=decide (i=0)) (λi _=>[(15,.int .i64 i)]) (λi fl=>bif fl then[]else[(4,4,.bx ([.row 1000 0 1 0 i]++eQ D++[.int .i64 1]++eQ 1)),(1000,26,.rw 1 (((CH D a).take i).map λr=>[AV.sl false (r.map eQ)]))]) 0 true ⟨O',rfl⟩ ?_;intro i fl ⟨p1,p2⟩ ih;have il:((CH D a).take i).length=i:=by rw[za];omega
 by_cases hi:i<n
 ·obtain⟨r,hr⟩:=N' a i
  have uz:a[(i:Int).toNat]?=some r:=hr;have gp:=hs.at hr;have Kd:=λq=>mZ N q r D k (16*k) (ha.at hr) vk O' O' O'
  have gk:=Nh i r hr;generalize r.map (· * D)=w at*;cases fl
  ·have ml:i≠0:=by simpa using p2.symm
   repeat' (first|apply AG<;>intro hc<;>try omega|refine A5 V' ?_ rfl ?_;omega|apply CT|apply AE|refine AD (Kd _) ?_)<;>conv=>whnf
   refine DH (l:=(CH D a).take i) (z:=1) (bytes:=24) (enc:=λr:o_=>[AV.sl false (r.map eQ)]) w rfl il.symm rfl O' O' ?_;conv=>whnf
   repeat' (first|apply AR;omega|fail)<;>conv=>whnf
   rw[<-KQ gk,show((CH D a).take (i+1)).length=i+1 by rw[za];omega];exact BF [(1000,26)] (ih (i+1) false O' ⟨O',Z'⟩)
  ·have ml:i=0:=by simpa using p2.symm
   subst ml;repeat' (first|apply AG<;>intro hc<;>try omega|refine A5 V' ?_ rfl ?_;omega|apply CT|apply AE|refine AD (Kd _) ?_)<;>conv=>whnf
   refine MH (enc:=λr:o_=>[AV.sl false (r.map eQ)]) w rfl rfl O' ?_;conv=>whnf
   repeat' (first|apply AR;omega|fail)<;>conv=>whnf
   rw[show[w]=(CH D a).take (0+1)by rw[KQ gk];rfl];exact BF [(1000,26)] (ih 1 false O' ⟨O',Z'⟩)
 have ei:i=n:=O'
 obtain rfl:fl=false:=by rw[p2];simp;omega
 clear ih p2 il;rw[ei,zT O'];repeat' (first|apply AG<;>intro hc<;>try omega|apply AE)<;>conv=>whnf
 refine EE (λi _=>7-i) (λ(i:Nat)(fl:Bool)=>i<=6/\(fl=true->i=0)/\∀j,j<i->ES (CI n a j)=false) (λi fl=>[(7,bif fl then .row 1000 0 1 0 n else .sl false (eM (CH (D9 D i) (CI n a i))))]) (λi _=>[(8,8,.bx (eQ (D9 D i))),(4,4,.bx ([.row 1000 0 1 0 n]++eQ D++[.int .i64 ((2^i:Nat):Int)]++eQ 1))]) 0 true ⟨O',λ_=>rfl,λj hj=>absurd hj O'⟩ ?_;intro i fl ⟨s1,s2,s3⟩ jh;obtain⟨g1,g2,g3⟩:=RH s1;have Ax:((2^(i+1):Nat):Int)=((2^i:Nat):Int)*2:=by rw[Hd];omega
 have Cq:=λq q'=>Hc i q q' s1
 have mc:=λq q'=>Gm i q q' s1
 have hmi:=nm i s1;cases hb:ES (CI n a i)
 ·rw[hb]at Cq
  by_cases h6:i=6
  ·have e64:((2^i:Nat):Int)=64:=by rw[h6];rfl
   have jm:∀j,j<=6->ES (CI n a j)=false:=λj hj=>by
    by_cases h:j=6
    ·rw[h,<-h6];exact hb
    ·exact s3 j O'
   cases fl
   ·rw[e64]
    repeat' (first|apply AG<;>intro hc<;>try omega|apply AE|refine AD (Cq _ _) ?_)<;>conv=>whnf
    exact⟨_,AW rfl (by simp[AY,BK,DR]),Or.inr ⟨jm,rfl⟩⟩
   ·exact absurd (s2 rfl) O'
  ·have ACb:((2^i:Nat):Int)≠64:=λe=>h6 (g2 O')
   have jk:∀j,j<i+1->ES (CI n a j)=false:=λj hj=>by
    by_cases h:j=i
    ·rw[h];exact hb
    ·exact s3 j O'
   cases fl
   ·generalize 2^i=P at*
    repeat' (first|apply AG<;>intro hc<;>try omega|apply GH;omega|apply AE|refine AD (Cq _ _) ?_|refine AD (mc _ _) ?_|refine AD (hmi) ?_)<;>conv=>whnf
    rw[<-Ax];exact BF [] (jh (i+1) false O' ⟨O',(λh=>by cases h),jk⟩)
   ·obtain rfl:=s2 rfl
    have oi:=ym;rw[hb]at oi;generalize 2^0=P at*;(repeat' (apply AE<;>conv=>whnf))
    refine C6 (enc:=λr:o_=>[AV.sl false (r.map eQ)]) (λ_=>rfl) rfl Ch.symm ?_;conv=>whnf
    repeat' (first|apply AG<;>intro hc<;>try omega|refine AD (oi _ _) ?_)<;>conv=>whnf
    refine C6 (enc:=λr:o_=>[AV.sl false (r.map eQ)]) (λ_=>rfl) rfl Ch.symm ?_;conv=>whnf
    repeat' (first|apply GH;omega|refine AD (Gg _ _) ?_|refine AD (Gc) ?_)<;>conv=>whnf
    rw[<-Ax];exact BF [] (jh (0+1) false O' ⟨O',(λh=>by cases h),jk⟩)
 ·rw[hb]at Cq
  have vu:GP n a i:=⟨hb,s3⟩;have aq:∀r:AV,r = .j5 [.agg (IW false (CH D a) D ((2^i:Nat):Int) (D^(2^i+2^i-1))),.int .i64 0]->((∃i,i<=6/\GP n a i/\r = .j5 [.agg (IW false (CH D a) D ((2^i:Nat):Int) (D^(2^i+2^i-1))),.int .i64 0])\/((∀j,j<=6->ES (CI n a j)=false)/\r = .j5 [.agg [.sl false [],.bool false,.sl false [],.sl false [],.int .i64 0,.bool false,.sl false [],.sl false []],.int .i64 14])):=λr hr=>Or.inl ⟨i,s1,vu,hr⟩
  clear Ax jh;generalize 2^i=P at*;cases fl
  ·repeat' (first|apply BS;omega|apply GH;omega|apply AE|refine AD (Cq _ _) ?_)<;>conv=>whnf
   refine EA (λj=>P+P-1-j) (λ(j:Nat)=>j<=P+P-1) (λj=>[(54,.int .i64 j)]) (λj=>[(4,4,.bx ([.row 1000 0 1 0 n]++eQ D++[.int .i64 (P:Int)]++eQ (D^j)))]) [] [] 0 (by rw[dc];exact E') O' ?_;intro j t1 kh;by_cases hj:j<P+P-1
   ·have hl:=My j O'
    repeat' (first|apply AG<;>intro hc<;>try omega|apply AR;omega|apply AE|refine AD (hl) ?_)<;>conv=>whnf
    exact BF [] (kh (j+1) O' O')
   have ej:j=P+P-1:=O'
   clear kh;rw[ej];repeat' (first|apply AG<;>intro hc<;>try omega|apply AE)<;>conv=>whnf
   refine⟨.j5 [.agg (IW false (CH D a) D (P:Int) (D^(P+P-1))),.int .i64 0],?_,aq _ rfl⟩;conv=>whnf
   refine C6 (enc:=λr:o_=>[AV.sl false (r.map eQ)]) (λ_=>rfl) rfl Ch.symm ?_;conv=>whnf
   exact AW rfl (lH _ _ _ _ 0)
  ·obtain rfl:=s2 rfl
   have oi:=ym;rw[hb]at oi;(repeat' (apply AE<;>conv=>whnf))
   refine C6 (enc:=λr:o_=>[AV.sl false (r.map eQ)]) (λ_=>rfl) rfl Ch.symm ?_;conv=>whnf
   repeat' (first|apply BS;omega|apply GH;omega|refine AD (oi _ _) ?_)<;>conv=>whnf
   refine EA (λj=>P+P-1-j) (λ(j:Nat)=>j<=P+P-1) (λj=>[(54,.int .i64 j)]) (λj=>[(4,4,.bx ([.row 1000 0 1 0 n]++eQ D++[.int .i64 (P:Int)]++eQ (D^j)))]) [] [] 0 (by rw[dc];exact E') O' ?_;intro j t1 kh;by_cases hj:j<P+P-1
   ·have hl:=My j O'
    repeat' (first|apply AG<;>intro hc<;>try omega|apply AR;omega|apply AE|refine AD (hl) ?_)<;>conv=>whnf
    exact BF [] (kh (j+1) O' O')
   have ej:j=P+P-1:=O'
   clear kh;rw[ej];repeat' (first|apply AG<;>intro hc<;>try omega|apply AE)<;>conv=>whnf
   refine⟨.j5 [.agg (IW false (CH D a) D (P:Int) (D^(P+P-1))),.int .i64 0],?_,aq _ rfl⟩;conv=>whnf
   refine C6 (enc:=λr:o_=>[AV.sl false (r.map eQ)]) (λ_=>rfl) rfl Ch.symm ?_;conv=>whnf
   exact AW rfl (lH _ _ _ _ 0)
theorem AkB{D:Rat}{f:Nat->Rat}{p j:Nat}(h:p<=j):GM D f (j+1-p)=GM D f (j-p)*D+f (j-p):=by
 rw[show j+1-p=(j-p)+1 by omega];rfl
abbrev V0(Z:P')(T:Rat):w_:=[.sl false (eM Z)]++eQ T
theorem AgB(Z:P')(T:Rat):AY (.agg (V0 Z T)):=by
 have h1:=lI Z;have h3:=DY T;simp only[AY,BK,true_and,and_true,V0,Ie,Pc]at h1 h3⊢;exact⟨h1,h3.1,h3.2⟩
theorem Ajd(N:v7 L)(qr:Bool)(R:P')(D T:Rat)(z:Nat->o_)(n p kr kd kz:Nat)(hR:Sq n R)(hRb:Ms kr R)(hD:Bt kd D)(lq:∀j,j<=128->Bs kz (z j))(Fc:∀j,(z j).length=n)(hz:∀j,z (j+1)=GO R (z j))
  (hn:n<=4) (hp:1<=p/\p<=64) (k1:kr<=1000000000) (k2:kd<=1000000000) (k3:kz<=1000000000) :
  Ev L 304 [.agg (IW qr R D (p:Int) T),.sl false ((z 0).map eQ)] (.agg (V0 ((Oa (p+p)).map z) (GM D (λm=>C0 (z (p+m))) p))):=by
 have hO:=JG N.toa6 0 O';rw[show((0:Int):Rat)=0 from rfl]at hO;have aq:=AgB ((Oa (p+p)).map z) (GM D (λm=>C0 (z (p+m))) p);have Ay:∀j,(Oa (j+1)).map z=(Oa j).map z++[z j]:=λj=>by rw[Dc,Cc];rfl
 have il:∀j,((Oa j).map z).length=j:=λj=>Z'
 have Ea:∀m,m<=64->Bt (64*(kd+kz+1)) (GM D (λm=>C0 (z (p+m))) m):=λm hm=>(aX hD m λj hj=>Q5 (lq (p+j) O')).le (zR _ hm)
 refine Ev.x N.PD rfl rfl ?_;repeat' (first|apply GH;omega|apply AE|refine AD (hO) ?_)<;>conv=>whnf
 refine EE (λj _=>p+p-j) (λ(j:Nat)(fl:Bool)=>j<=p+p/\fl=decide (j=0)) (λj _=>[(14,.int .i64 j),(6,.sl false ((z (j-1)).map eQ))]) (λj fl=>bif fl then[]else[(5,5,.bx ([.row 1000 0 1 0 j]++eQ (GM D (λm=>C0 (z (p+m))) (j-p)))),(1000,27,.rw 1 (((Oa j).map z).map λr=>[AV.sl false (r.map eQ)]))]) 0 true ⟨O',rfl⟩ ?_;intro j fl ⟨p1,p2⟩ ih;by_cases hj:j<p+p
 ·have hA:=λq1 q2=>Ai7 N q1 q2 qr R (z (j-1)) n kr kz hR (Fc _) hRb (lq _ O') hn k1 k3
  have hG:=λq=>Aja N q (z j) kz (lq j O') (by rw[Fc];omega) O'
  have hs:=Ay j;have hl:=il j;have ij:=il (j+1);cases fl
  ·have Em:j≠0:=by simpa using p2.symm
   have Qu:GO R (z (j-1))=z j:=by rw[<-hz];congr 1;omega
   rw[Qu]at hA;by_cases Ot:p<=j
   ·have h1:=K4 N.toa6 (Ea (j-p) O') hD O' O'
    have h2:=KD N.toa6 ((Ea (j-p) O').mul hD) (Q5 (lq j O')) O' O';have he:GM D (λm=>C0 (z (p+m))) (j-p)*D+C0 (z j)=GM D (λm=>C0 (z (p+m))) (j+1-p):=by
     rw[AkB Ot,show p+(j-p)=j by omega]
    rw[he]at h2;have e1:z (j+1-1)=z j:=rfl;rw[<-e1]at hG hA hs h2 Qu;generalize (Oa j).map z=Z at*;repeat' (first|apply AG<;>intro hc<;>try omega|apply CT|apply AE|refine AD (hA _ _) ?_)<;>conv=>whnf
    refine DH (l:=Z) (z:=1) (bytes:=24) (enc:=λr:o_=>[AV.sl false (r.map eQ)]) (z (j+1-1)) rfl hl.symm rfl O' O' ?_;rw[<-hs,ij];conv=>whnf
    repeat' (first|apply AG<;>intro hc<;>try omega|apply AR;omega|refine AD (h1) ?_|refine AD (hG _) ?_|refine AD (h2) ?_)<;>conv=>whnf
    exact BF [(1000,27)] (ih (j+1) false O' ⟨O',Z'⟩)
   ·have ez:j-p=j+1-p:=O'
    have e1:z (j+1-1)=z j:=rfl;rw[<-e1]at hA hs Qu;rw[ez];generalize (Oa j).map z=Z at*;repeat' (first|apply AG<;>intro hc<;>try omega|apply CT|apply AE|refine AD (hA _ _) ?_)<;>conv=>whnf
    refine DH (l:=Z) (z:=1) (bytes:=24) (enc:=λr:o_=>[AV.sl false (r.map eQ)]) (z (j+1-1)) rfl hl.symm rfl O' O' ?_;rw[<-hs,ij];conv=>whnf
    repeat' (first|apply AG<;>intro hc<;>try omega|apply AR;omega)<;>conv=>whnf
    exact BF [(1000,27)] (ih (j+1) false O' ⟨O',Z'⟩)
  ·have Em:j=0:=by simpa using p2.symm
   subst Em;have ez:GM D (λm=>C0 (z (p+m))) (0+1-p)=0:=by rw[show 0+1-p=0 by omega];rfl
   repeat' (first|apply AG<;>intro hc<;>try omega|apply CT|apply AE)<;>conv=>whnf
   refine MH (enc:=λr:o_=>[AV.sl false (r.map eQ)]) (z 0) rfl rfl O' ?_;conv=>whnf
   repeat' (first|apply AG<;>intro hc<;>try omega|apply AR;omega)<;>conv=>whnf
   rw[show[z 0]=(Oa (0+1)).map z from rfl];rw[<-ez];exact BF [(1000,27)] (ih (0+1) false O' ⟨O',Z'⟩)
 have ej:j=p+p:=O'
 obtain rfl:fl=false:=by rw[p2];simp;omega
 clear ih p2;have hl:=il j;rw[show j-p=p by omega];rw[<-ej]at aq⊢;repeat' (first|apply AG<;>intro hc<;>try omega|(refine C6 (λ_=>rfl) rfl ?_ ?_;(first|rfl|simp))|apply AE)<;>conv=>whnf
 exact AW rfl aq
abbrev QY(m:P'):v_:=m.map λr=>[AV.sl true (r.map (KC true))]
theorem Als(Z:P')(T:Rat):L5 (.agg (V0 Z T)) = .agg ([.sl true (QY Z)]++KC true T):=by
 have hd:∀l:u_,IZ (l.map AJ)=l.map AJ:=λl=>by
  induction l with
  |nil=>rfl
  |cons x l ih=>rw[cd,IZ,ih];rfl
 have hq:∀x:Rat,JJ (eQ x)=KC true x:=λx=>by
  show JJ [.bool _,.sl false _,.sl false _]=_;simp only[JJ,H1,hd]
 have hr:∀r:o_,IZ (r.map eQ)=r.map (KC true):=λr=>by
  induction r with
  |nil=>rfl
  |cons x r ih=>rw[cd,IZ,ih,hq];rfl
 have hz:∀Z:P',IZ (eM Z)=QY Z:=λZ=>by
  induction Z with
  |nil=>rfl
  |cons r Z ih=>
   have Jg:IZ (Z.map λr=>[AV.sl false (r.map eQ)])=Z.map λr=>[AV.sl true (r.map (KC true))]:=ih
   show IZ ([AV.sl false (r.map eQ)]::Z.map λr=>[AV.sl false (r.map eQ)])=_;rw[IZ,Jg];simp only[JJ,H1,hr];rfl
 show AV.agg (JJ (AV.sl false (eM Z)::eQ T))=_;rw[JJ,hq];simp only[H1,hz];rfl
theorem Ai9(N:v7 L)(qr q:Bool)(R:P')(D T U:Rat)(P:Int)(c:o_)(z:Nat->o_)(n m kd kc kz kt:Nat)(hD:Bt kd D)(hc:Bs kc c)(u6:c.length=n)(lq:∀j,j<=128->Bs kz (z j))(Fc:∀j,(z j).length=n)(hT:Bt kt T)
  (hn:n<=4) (hm:m<=128) (k1:kc<=100000000) (k2:kd<=100000000) (k3:kz<=100000000) (k4:kt<=100000000000) :
  Ev L 305 [.agg (IW qr R D P U),.sl q (c.map eQ),.agg ([.sl true (QY ((Oa m).map z))]++KC true T)] (.agg (eQ (GM D (λj=>B1 (BT c (z j))) m+BM c*T))):=by
 have hO:=JG N.toa6 0 O';rw[show((0:Int):Rat)=0 from rfl]at hO;have il:((Oa m).map z).length=m:=Z'
 have hra:∀j,j<m->((Oa m).map z)[j]?=some (z j):=λj hj=>by rw[ya,Pa hj];rfl
 have bn:∀j,j<=128->Bt (4*(kc+kz+1)) (BT c (z j)):=λj hj=>(hc.dot (lq j hj)).le (zR _ O')
 have hH:∀t,t<=128->Bt (128*(kd+4*(kc+kz+1)+1)) (GM D (λj=>B1 (BT c (z j))) t):=λt ht=>(aX hD t λj hj=>JQ (bn j O')).le (zR _ ht)
 have zy:Bt (4*(kc+1)) (BM c):=(RL hc).le (zR _ O');generalize (Oa m).map z=Z at*;refine Ev.x N.PC rfl rfl ?_;repeat' (first|apply AP|apply AE|refine AD (hO) ?_)<;>conv=>whnf
 refine DG (λj=>m-j) (λ(j:Nat)=>j<=m) (λj=>[(14,.int .i64 j)]) (λj=>[(7,7,.bx (eQ (GM D (λj=>B1 (BT c (z j))) j)))]) 0 O' ?_;intro j p1 ih;by_cases hj:j<m
 ·have hr:=hra j hj
  have uz:Z[(j:Int).toNat]?=some (z j):=hr;have h1:=K4 N.toa6 (hH j O') hD O' O';have hd:=λq q'=>zA N q q' true c (z j) kc kz (by rw[u6,Fc]) hc (lq j O') O' O' O'
  have ha:=fP N.tobp (bn j O') O';have h2:=KD N.toa6 ((hH j O').mul hD) (JQ (bn j O')) O' O';have yj:Ev L 98 [.agg (eQ (GM D (λj=>B1 (BT c (z j))) j*D)),.agg (eQ (B1 (BT c (z j))))] (.agg (eQ (GM D (λj=>B1 (BT c (z j))) (j+1)))):=h2;clear h2 bn hH zy;repeat' (first|apply AG<;>intro hc<;>try omega|apply AR;omega|refine A5 V' ?_ rfl ?_;omega|apply AE|refine AD (h1) ?_|refine AD (hd _ _) ?_|refine AD (ha) ?_|refine AD (yj) ?_)<;>conv=>whnf
  exact BF [] (ih (j+1) O' O')
 have ej:j=m:=O'
 clear ih;rw[ej];have hS:=λq=>zC N q c kc hc O' O'
 have h1:=yT N.toa6 true zy hT O' O';have h2:=KD N.toa6 (hH m hm) (zy.mul hT) O' O';repeat' (first|apply AG<;>intro hc<;>try omega|apply AE|refine AD (hS _) ?_|refine AD (h1) ?_|refine AD (h2) ?_)<;>conv=>whnf
 exact AW rfl (DY _)
theorem Amj{Z:P'}{T:Rat}(h:Z≠[]):¬KS (.agg (V0 Z T)):=by
 intro hf;have h1:=hf (.sl false (eM Z)) Z';cases Z with
 |nil=>exact h rfl
 |cons r Z=>
  have h2:=h1 [.sl false (r.map eQ)] Z' (.sl false (r.map eQ)) Z';simp[RF]at h2
theorem Aec{n k j:Nat}(hn:n<=4)(hj:j<=128):XG n k j<=5*k+128*(17*k+4):=by
 have h1:n*n<=4*4:=ob hn hn;have h2:n*n*k<=16*k:=zR k h1;have h3:n*k<=4*k:=zR k hn;have h4:j*((k+n*n*k)+n)<=128*(17*k+4):=ob hj O';rw[XG];omega
theorem Tk(b:o_):[b].flatten=b:=Z'
theorem Aid(x:Rat):eQ (B1 x)=[.bool false,.sl false ((dg x.num.natAbs).map AJ),.sl false ((dg x.den).map AJ)]:=by
 unfold B1;by_cases h:x.num<0
 ·rw[if_pos h]
  show rQ false false (decide ((-x).num<0)) _ _=_;rw[Jf,Hg,fh,show decide (-x.num<0)=false from decide_eq_false O']
 ·rw[if_neg h]
  show rQ false false (decide (x.num<0)) _ _=_;rw[show decide (x.num<0)=false from decide_eq_false h]
theorem fW(N:bk L){x:Rat}{k:Nat}(hx:Bt k x)(hk:k<2199023255552):Ev L 309 [.agg (eQ x)] (.agg (eQ (B1 x))):=by
 have hT:=AjM N.tob7 hx hk;have hs:=hx.rz hk;have hR:=λq=>HY N.tob7 (dg x.num.natAbs) q (EH _) (by have:=hs.1.2;omega)
 rw[BQ]at hR;have hA:∀b q,Ev L 308 [.agg [.bool b,.sl q ((dg x.num.natAbs).map AJ)]] (.agg [.bool false,.sl false ((dg x.num.natAbs).map AJ)]):=λb q=>by
  refine Ev.x N.TW rfl rfl ?_;repeat' (first|apply AE|refine AD (hR _) ?_)<;>conv=>whnf
  exact AW rfl (vK _ _)
 have u6:=DY (B1 x);rw[Aid]at u6⊢;refine Ev.x N.UB rfl rfl ?_;repeat' (first|apply AE|refine AD (hT) ?_|refine AD (hA _ _) ?_)<;>conv=>whnf
 exact AW rfl u6
theorem Ajz(N:bk L)(q q':Bool)(a:P')(n:Nat)(hs:Sq n a)(hn:n<=16):Ev L 310 [.sl q (IX q' a)] (.bool true):=by
 have na:=hs.l;refine Ev.x N.P7 rfl rfl ?_;(repeat' (apply AE<;>conv=>whnf))
 refine DG (λi=>a.length-i) (λ(i:Nat)=>i<=a.length) (λi=>[(3,.int .i64 i)]) (λ_=>[]) 0 O' ?_;intro i p1 ih;by_cases hi:i<a.length
 ·obtain⟨r,hr⟩:=N' a i hi
  have uz:a[(i:Int).toNat]?=some r:=hr;have il:=hs.at hr;repeat' (first|apply AG<;>intro hc<;>try omega|apply AR;omega|apply AP|refine A5 V' ?_ rfl ?_;omega|apply AE)<;>conv=>whnf
  exact BF [] (ih (i+1) O' O')
 obtain rfl:i=a.length:=O'
 clear ih;repeat' (first|apply AG<;>intro hc<;>try omega|apply AP|apply AE)<;>conv=>whnf
 exact E9 rfl
theorem zL(N:bk L)(q:Bool)(v:o_)(k:Nat)(hv:Bs k v)(hn:v.length<=1000)(hk:k<=1000000000):Ev L 311 [.sl q (v.map eQ)] (.agg (eQ (BM v))):=by
 have hO:=NY N.tob7 0 O';rw[show((0:Int):Rat)=0 from rfl]at hO;refine Ev.x N.P5 rfl rfl ?_;repeat' (first|apply AE|refine AD (hO) ?_)<;>conv=>whnf
 refine EA (λi=>v.length-i) (λ(i:Nat)=>i<=v.length) (λi=>[(4,.int .i64 i)]) (λi=>[(3,3,.bx (eQ (BM (v.take i))))]) [] [] 0 (by rw[show BM (v.take 0)=0 from rfl];exact E') O' ?_;intro i p1 ih;by_cases hi:i<v.length
 ·obtain⟨x,hx⟩:=N' v i hi
  have ve:v[(i:Int).toNat]?=some x:=hx;have hA:=fW N (hv.at hx) O';have hz:Bt (1000*(k+1)) (BM (v.take i)):=(RL (hv.take i)).le (zR _ J');have hP:=Q1 N.tob7 hz (JQ (hv.at hx)) O' O';rw[<-Wn hx]at hP;generalize BM (v.take i)=w at*;generalize B1 x=y at*;repeat' (first|apply AG<;>intro hc<;>try omega|apply AR;omega|apply AP|refine A5 V' ?_ rfl ?_;omega|apply AE|refine AD (hA) ?_|refine AD (hP) ?_)<;>conv=>whnf
  exact BF [] (ih (i+1) O' O')
 obtain rfl:i=v.length:=O'
 clear ih;rw[zT (ib _)];repeat' (first|apply AG<;>intro hc<;>try omega|apply AP|apply AE)<;>conv=>whnf
 exact AW rfl (DY _)
theorem Ajt(N:bk L)(q:Bool)(v:o_)(k:Nat)(hv:Bs k v)(hn:v.length<=1000000)(hk:k<=1000000000000):Ev L 312 [.sl q (v.map eQ)] (.agg (eQ (C0 v))):=by
 have hO:=NY N.tob7 0 O';rw[show((0:Int):Rat)=0 from rfl]at hO;refine Ev.x N.P2 rfl rfl ?_;repeat' (first|apply AE|refine AD (hO) ?_)<;>conv=>whnf
 refine EA (λi=>v.length-i) (λ(i:Nat)=>i<=v.length) (λi=>[(4,.int .i64 i)]) (λi=>[(3,3,.bx (eQ (C0 (v.take i))))]) [] [] 0 (by rw[show C0 (v.take 0)=0 from rfl];exact E') O' ?_;intro i p1 ih;by_cases hi:i<v.length
 ·obtain⟨x,hx⟩:=N' v i hi
  have ve:v[(i:Int).toNat]?=some x:=hx;have hA:=fW N (hv.at hx) O';have hC:=aJ N.tob7 (JQ (hv.at hx)) (Q5 (hv.take i)) O' O';have hg:=WU (x:=B1 x) (y:=C0 (v.take i));have hs:C0 (v.take (i+1))=if C0 (v.take i)<B1 x then B1 x else C0 (v.take i):=Sa hx
  by_cases h:C0 (v.take i)<B1 x
  ·rw[if_pos h]at hs
   have h1:=hg.2 h;rw[<-hs]at hA hC h1;generalize w6 (C0 (v.take (i+1))-C0 (v.take i)).num=g at*;repeat' (first|apply AG<;>intro hc<;>try omega|apply AR;omega|apply AP|refine A5 V' ?_ rfl ?_;omega|apply AE|refine AD (hA) ?_|refine AD (hC) ?_)<;>conv=>whnf
   exact BF [] (ih (i+1) O' O')
  ·rw[if_neg h]at hs
   have h1:¬0<w6 (B1 x-C0 (v.take i)).num:=λe=>h (hg.1 e)
   rw[<-hs]at hC h1⊢;clear hg h hs;generalize w6 (B1 x-C0 (v.take (i+1))).num=g at*;generalize B1 x=y at*;repeat' (first|apply AG<;>intro hc<;>try omega|apply AR;omega|apply AP|refine A5 V' ?_ rfl ?_;omega|apply AE|refine AD (hA) ?_|refine AD (hC) ?_)<;>conv=>whnf
   exact BF [] (ih (i+1) O' O')
 obtain rfl:i=v.length:=O'
 clear ih;rw[zT (ib _)];repeat' (first|apply AG<;>intro hc<;>try omega|apply AP|apply AE)<;>conv=>whnf
 exact AW rfl (DY _)
theorem AjA(N:bk L)(q q':Bool)(a:P')(n kk:Nat)(hs:Sq n a)(ha:Ms kk a)(hn:n<=4)(hk:kk<=1000000000):Ev L 313 [.sl q (IX q' a)] (.sl false (eM (IJ a a n))):=by
 have na:=hs.l;have Gf:Sq n (IJ a a n):=Sq.mul hs.l a;have Nb:∀(i:Nat)(r:o_),a[i]?=some r->(IJ a a n)[i]?=some (GN r a n):=λi r hr=>by rw[IJ,ya,hr];rfl
 have Jz:∀(j:Nat)(r:o_),j<n->(GN r a n)[j]?=some (BT r (DW a j)):=λj r hj=>by rw[GN,ya,Pa hj];rfl
 have Nc:=Gf.l;have Jy:=Gf.r;have hO:=NY N.tob7 0 O';rw[show((0:Int):Rat)=0 from rfl]at hO;generalize IJ a a n=Q at*;refine Ev.x N.LJ rfl rfl ?_;repeat' (first|apply AP|apply AE)<;>conv=>whnf
 unfold C2;refine⟨⟨O',O',by simp only[E7];omega,O'⟩,?_⟩;rw[Ga,na];conv=>whnf
 skip
 refine EA (λi=>n-i) (λ(i:Nat)=>i<=n) (λi=>[(4,.int .i64 i)]) (λi=>[(10,10,.mx (mz Q n i))]) [] [] 0 (by first|exact E'|(rw[<-pR Q];exact E')) O' ?_;intro i p1 ih;have Fc:=pP (Q:=Q) p1;by_cases hi:i<n
 ·obtain⟨rr,hr⟩:=N' a i
  have uz:a[(i:Int).toNat]?=some rr:=hr;have il:=hs.at hr;have te:=ha.at hr;have hq:=Nb i rr hr;have o7:=pQ hq hi;have wq:(mz Q n i)[i]?=some none:=AlZ Nc hi;have Pn:(GN rr a n).length=n:=Jy _ (zM hq);have wv:(GN rr a n).take 1=[BT rr (DW a 0)]:=by
   rw[KQ (Jz 0 rr O')];rfl
  have hqj:∀j,j<n->(GN rr a n).take (j+1)=(GN rr a n).take j++[BT rr (DW a j)]:=λj hj=>KQ (Jz j rr hj)
  generalize mz Q n i=R0 at*;generalize GN rr a n=qr at*;repeat' (first|apply AG<;>intro hc<;>try omega|apply AP|apply AE)<;>conv=>whnf
  refine I5 ?_;repeat' (first|apply AG<;>intro hc<;>try omega|apply AP|apply AE|refine AD (hO) ?_)<;>conv=>whnf
  refine EA (λk=>n-k) (λ(k:Nat)=>k<=n) (λk=>[(7,.int .i64 k)]) (λk=>[(6,6,.bx (eQ (BT (rr.take k) ((DW a 0).take k))))]) [] [] 0 (by rw[show BT (rr.take 0) ((DW a 0).take 0)=0 from rfl];exact E') O' ?_;intro k t1 kh;by_cases pc:k<n
  ·obtain⟨x,hx⟩:=N' rr k
   obtain⟨s,fi⟩:=N' a k;have me:=hs.at fi;obtain⟨y,hy⟩:=N' s 0;have ve:rr[(k:Int).toNat]?=some x:=hx;have va:a[(k:Int).toNat]?=some s:=fi;have Be:s[((0:Nat):Int).toNat]?=some y:=hy;have rf:=vZ fi hy;have hM:=V4 N.tob7 (te.at hx) ((ha.at fi).at hy) O' O';have hd:Bt (4*(kk+kk+1)) (BT (rr.take k) ((DW a 0).take k)):=((te.take k).dot ((Ms.Lw ha 0).take k)).le (zR _ J');have hA:=Q1 N.tob7 hd ((te.at hx).mul ((ha.at fi).at hy)) O' O';rw[<-aG hx rf]at hA;generalize BT (rr.take k) ((DW a 0).take k)=w at*;generalize x*y=p at*;repeat' (first|apply AG<;>intro hc<;>try omega|apply AR;omega|apply AP|refine A5 V' ?_ rfl ?_;omega|apply AE|refine AD (hM) ?_|refine AD (hA) ?_)<;>conv=>whnf
   exact BF [] (kh (k+1) O' O')
  have ek:k=n:=O'
  clear kh;rw[ek,fI il];generalize BT rr (DW a 0)=y0 at*;repeat' (first|apply AG<;>intro hc<;>try omega|apply A4;omega|apply AP|apply AE)<;>conv=>whnf
  refine dE (r:=none) (by rw[Mb,Ga];exact wq) ?_;conv=>whnf
  (repeat' (apply CT<;>conv=>whnf))
  refine MH (enc:=eQ) y0 rfl rfl O' ?_;conv=>whnf
  repeat' (first|apply A4;omega|fail)<;>conv=>whnf
  refine A4 rfl ?_;refine ZY (i:=i) O' O' ?_;conv=>whnf
  repeat' (first|apply AR;omega|fail)<;>conv=>whnf
  refine EA (λj=>n-j) (λ(j:Nat)=>1<=j/\j<=n) (λj=>[(5,.int .i64 j)]) (λj=>[(10,10,.mx (R0.set i (some (3,(qr.take j).map eQ))))]) [] [] 1 (by first|exact E'|(rw[wv];exact E')) O' ?_;intro j ⟨r1,r2⟩ jh;have htj:(qr.take j).length=j:=by rw[za];omega
  by_cases hj:j<n
  ·have zo:=hqj j hj
   have Dn:(qr.take (j+1)).length=j+1:=by rw[za];omega
   generalize qr.take j=W at*;repeat' (first|apply AG<;>intro hc<;>try omega|apply AP|apply AE|refine AD (hO) ?_)<;>conv=>whnf
   refine EA (λk=>n-k) (λ(k:Nat)=>k<=n) (λk=>[(7,.int .i64 k)]) (λk=>[(6+1000000,6,.bx (eQ (BT (rr.take k) ((DW a j).take k))))]) [] [] 0 (by rw[show BT (rr.take 0) ((DW a j).take 0)=0 from rfl];exact E') O' ?_;intro k t1 kh;by_cases pc:k<n
   ·obtain⟨x,hx⟩:=N' rr k
    obtain⟨s,fi⟩:=N' a k;have me:=hs.at fi;obtain⟨y,hy⟩:=N' s j;have ve:rr[(k:Int).toNat]?=some x:=hx;have va:a[(k:Int).toNat]?=some s:=fi;have Be:s[((j:Nat):Int).toNat]?=some y:=hy;have rf:=vZ fi hy;have hM:=V4 N.tob7 (te.at hx) ((ha.at fi).at hy) O' O';have hd:Bt (4*(kk+kk+1)) (BT (rr.take k) ((DW a j).take k)):=((te.take k).dot ((Ms.Lw ha j).take k)).le (zR _ J');have hA:=Q1 N.tob7 hd ((te.at hx).mul ((ha.at fi).at hy)) O' O';rw[<-aG hx rf]at hA;generalize BT (rr.take k) ((DW a j).take k)=w at*;generalize x*y=p at*;repeat' (first|apply AG<;>intro hc<;>try omega|apply AR;omega|apply AP|refine A5 V' ?_ rfl ?_;omega|apply AE|refine AD (hM) ?_|refine AD (hA) ?_)<;>conv=>whnf
    exact BF [] (kh (k+1) O' O')
   have ek:k=n:=O'
   clear kh;rw[ek,fI il];generalize BT rr (DW a j)=y0 at*;repeat' (first|apply AG<;>intro hc<;>try omega|apply A4;omega|apply AP|apply AE)<;>conv=>whnf
   refine tW O' O' ?_;conv=>whnf
   (repeat' (apply CT<;>conv=>whnf))
   refine tU O' O' ?_;conv=>whnf
   refine DH (enc:=eQ) y0 rfl (by rw[xa]) rfl O' O' ?_;intro s' v;rw[<-zo,Dn];conv=>whnf
   repeat' (first|apply A4;omega|fail)<;>conv=>whnf
   refine A4 ⟨rfl,by rw[xa];omega⟩ ?_;refine ZY (i:=i) O' (by rw[xc,xc];omega) ?_;rw[show 0+((i:Int)).toNat=i by omega,Oe,Oe];conv=>whnf
   repeat' (first|apply AR;omega|fail)<;>conv=>whnf
   exact BF [] (jh (j+1) O' O')
  have ej:j=n:=O'
  clear jh;rw[ej,zT O',o7];repeat' (first|apply AG<;>intro hc<;>try omega|apply AR;omega|apply AP|apply AE)<;>conv=>whnf
  exact BF [] (ih (i+1) O' O')
 have ei:i=n:=O'
 clear ih;rw[ei,pO O'];repeat' (first|apply AG<;>intro hc<;>try omega|apply AP|apply AE)<;>conv=>whnf
 refine VH (λ_=>rfl) rfl O' ?_;conv=>whnf
 exact AW rfl (vL Q)
theorem Ant{n k:Nat}{a:P'}(hs:Sq n a)(ha:Ms k a)(hn:n<=4)(hk:k<=100000)(i:Nat)(hi:i<=7):Ms 300000000 (CI n a i):=by
 obtain⟨D,_,d1,d2,d3⟩:=jN hs ha;have nu:n*n<=4*4:=ob hn hn;have ma:n*n*k<=16*k:=zR k nu;have hw:=jT hs hn d3 i;have zu:=Ze (k:=k) i hi;have h2:2^i<=2^7:=Fa O' hi;have hdd:D^2^i<=2^(2^i*(16*k)):=by
  have h3:D<=2^(16*k):=vb d2 (Fa O' ma);have:=zg h3 (2^i)
  rwa [<-Oh,Je]at this
 have h4:2^i*(16*k)<=300000000:=vb (zR (16*k) h2) O';have h5:FU k i<=300000000:=O'
 intro r hr x hx;generalize 300000000=K at*;refine vA (S:=D^2^i) (Ph d1) (vb hdd (Fa O' h4)) ?_;have:=hw (r.map (· * D9 (D:Rat) i)) (sa.2 ⟨r,hr,rfl⟩) _ (sa.2 ⟨x,hx,rfl⟩)
 rw[wX]at this;exact this.le h5
theorem zK(N:bk L)(q q':Bool)(a:P')(n k:Nat)(hs:Sq n a)(ha:Ms k a)(hn:n<=4)(hk:k<=100000) :
  ∃v,Ev L 314 [.sl q (IX q' a)] v/\((∃i,i<=6/\GP n a i/\v = .j5 [.int .i64 ((2^i:Nat):Int),.int .i64 0])\/((∀j,j<=6->ES (CI n a j)=false)/\v = .j5 [.int .i64 0,.int .i64 14])):=by
 have na:=hs.l;have hq:=Ajz N q q' a n hs O';have hF:=nE N.tob7 1 2 O' O';have hb:∀i,i<=7->Ms 300000000 (CI n a i):=λi hi=>Ant hs ha hn hk i hi
 have hZ:=λ(i:Nat)(q q':Bool)(hi:i<=6)=>AjA N q q' (CI n a i) n 300000000 (W5 hs i) (hb i O') hn O'
 have hh:Bt 2 (rb 1 2):=Bt.mk (k:=2) (z:=1) (d:=2) Y' Y';have hhe:rb 1 2=1/2:=by decide +kernel
 have hC:∀i r,i<=6->r∈CI n a i->Ev L 127 [.agg (eQ (BM r)),.agg (eQ (rb 1 2))] (.int .i64 (w6 (BM r-1/2).num)):=λi r hi hr=>by
  have hz:Bt (4*(300000000+1)) (BM r):=(RL (hb i O' r hr)).le (zR _ (by rw[(W5 hs i).r r hr];exact hn));have:=aJ N.tob7 hz hh O' O'
  rwa [hhe]at this⊢
 refine Ev.xE N.NM rfl rfl ?_;repeat' (first|apply AE|refine AD (hq) ?_)<;>conv=>whnf
 refine EE (λi _=>7-i) (λ(i:Nat)(fl:Bool)=>i<=7/\(fl=true->i=0)/\∀j,j<i->ES (CI n a j)=false) (λi fl=>[(4,.int .i64 ((2^i:Nat):Int)),(0,bif fl then .sl q (IX q' a)else .sl false (eM (CI n a i)))]) (λ_ _=>[]) 0 true ⟨O',λ_=>rfl,λj hj=>absurd hj O'⟩ ?_;intro i fl ⟨p1,p2,p3⟩ ih;by_cases h7:i=7
 ·have e7:((2^i:Nat):Int)=128:=by rw[h7];rfl
  rw[e7];have jm:∀j,j<=6->ES (CI n a j)=false:=λj hj=>p3 j O'
  repeat' (first|apply AG<;>intro hc<;>try omega|apply AE)<;>conv=>whnf
  exact⟨_,AW rfl (by simp[AY,BK]),Or.inr ⟨jm,rfl⟩⟩
 obtain⟨g1,g2,g3⟩:=RH (i:=i) O';have Ax:((2^(i+1):Nat):Int)=2*((2^i:Nat):Int):=by rw[Hd];omega
 have me:=(W5 hs i).l;have vu:ES (CI n a i)=true->GP n a i:=λh=>⟨h,p3⟩
 have jk:ES (CI n a i)=false->∀j,j<i+1->ES (CI n a j)=false:=λh j hj=>by
  by_cases e:j=i
  ·rw[e];exact h
  ·exact p3 j O'
 have Mf:=λr=>hC i r O'
 have Nj:=λq q'=>hZ i q q' O'
 have Gp:=λq r (hr:r∈CI n a i)=>zL N q r 300000000 (hb i O' r hr) (by rw[(W5 hs i).r r hr];omega) O'
 have aq:∀r:AV,GP n a i->r = .j5 [.int .i64 ((2^i:Nat):Int),.int .i64 0]->((∃i,i<=6/\GP n a i/\r = .j5 [.int .i64 ((2^i:Nat):Int),.int .i64 0])\/((∀j,j<=6->ES (CI n a j)=false)/\r = .j5 [.int .i64 0,.int .i64 14])):=λr h hr=>Or.inl ⟨i,O',h,hr⟩
 have td:∀(m:Nat)(r:o_),(CI n a i)[m]?=some r->ES ((CI n a i).take (m+1))=(ES ((CI n a i).take m)&&decide (BM r<=1/2)):=λm r hr=>by
  rw[KQ hr,ES,ES,Og];simp
 cases fl
 ·skip
  generalize 2^i=P at*;repeat' (first|apply AG<;>intro hc<;>try omega|apply AE)<;>conv=>whnf
  refine EE (λm _=>n-m) (λ(m:Nat)(b:Bool)=>m<=n/\b=ES ((CI n a i).take m)) (λm b=>[(6,.int .i64 m),(5,.bool b)]) (λ_ _=>[]) 0 true ⟨O',rfl⟩ ?_;intro m b ⟨r1,r2⟩ mh;by_cases hm:m<n
  ·obtain⟨r,hr⟩:=N' (CI n a i) m
   have uz:(CI n a i)[(m:Int).toNat]?=some r:=hr;have bu:=zM hr;have ht:=td m r hr;rw[<-r2]at ht;cases b
   ·repeat' (first|apply AG<;>intro hc<;>try omega|apply AR;omega|apply AP|apply AE)<;>conv=>whnf
    exact BF [] (mh (m+1) false O' ⟨O',by rw[ht];rfl⟩)
   ·have xu:=λq=>Gp q r bu
    have oi:=Mf r bu;have hg:=WU (x:=BM r) (y:=1/2);by_cases h:BM r<=1/2
    ·have h1:¬0<w6 (BM r-1/2).num:=λe=>by have:=hg.1 e;grind
     rw[decide_eq_true h]at ht;clear hg;generalize w6 (BM r-1/2).num=g at*;repeat' (first|apply AG<;>intro hc<;>try omega|apply AR;omega|apply AP|refine A5 V' ?_ rfl ?_;omega|apply AE|refine AD (xu _) ?_|refine AD (hF) ?_|refine AD (oi) ?_)<;>conv=>whnf
     exact BF [] (mh (m+1) true O' ⟨O',by rw[ht];rfl⟩)
    ·have h1:0<w6 (BM r-1/2).num:=hg.2 A'
     rw[decide_eq_false h]at ht;clear hg;generalize w6 (BM r-1/2).num=g at*;repeat' (first|apply AG<;>intro hc<;>try omega|apply AR;omega|apply AP|refine A5 V' ?_ rfl ?_;omega|apply AE|refine AD (xu _) ?_|refine AD (hF) ?_|refine AD (oi) ?_)<;>conv=>whnf
     exact BF [] (mh (m+1) false O' ⟨O',by rw[ht];rfl⟩)
  have em:m=n:=O'
  clear mh;rw[em,zT O']at r2;cases b
  ·repeat' (first|apply AG<;>intro hc<;>try omega|apply GH;omega|apply AP|apply AE|refine AD (Nj _ _) ?_)<;>conv=>whnf
   rw[<-Ax];exact BF [] (ih (i+1) false O' ⟨O',(λh=>by cases h),jk r2.symm⟩)
  ·repeat' (first|apply AG<;>intro hc<;>try omega|apply AP|apply AE)<;>conv=>whnf
   exact⟨_,AW rfl (by simp[AY,BK]),aq _ (vu r2.symm) rfl⟩
 ·obtain rfl:=p2 rfl
  have e0:CI n a 0=a:=rfl;rw[e0]at vu jk Mf Nj Gp td me;generalize 2^0=P at*;repeat' (first|apply AG<;>intro hc<;>try omega|apply AE)<;>conv=>whnf
  refine EE (λm _=>n-m) (λ(m:Nat)(b:Bool)=>m<=n/\b=ES (a.take m)) (λm b=>[(6,.int .i64 m),(5,.bool b)]) (λ_ _=>[]) 0 true ⟨O',rfl⟩ ?_;intro m b ⟨r1,r2⟩ mh;by_cases hm:m<n
  ·obtain⟨r,hr⟩:=N' a m
   have uz:a[(m:Int).toNat]?=some r:=hr;have bu:=zM hr;have ht:=td m r hr;rw[<-r2]at ht;cases b
   ·repeat' (first|apply AG<;>intro hc<;>try omega|apply AR;omega|apply AP|apply AE)<;>conv=>whnf
    exact BF [] (mh (m+1) false O' ⟨O',by rw[ht];rfl⟩)
   ·have xu:=λq=>Gp q r bu
    have oi:=Mf r bu;have hg:=WU (x:=BM r) (y:=1/2);by_cases h:BM r<=1/2
    ·have h1:¬0<w6 (BM r-1/2).num:=λe=>by have:=hg.1 e;grind
     rw[decide_eq_true h]at ht;clear hg;generalize w6 (BM r-1/2).num=g at*;repeat' (first|apply AG<;>intro hc<;>try omega|apply AR;omega|apply AP|refine A5 V' ?_ rfl ?_;omega|apply AE|refine AD (xu _) ?_|refine AD (hF) ?_|refine AD (oi) ?_)<;>conv=>whnf
     exact BF [] (mh (m+1) true O' ⟨O',by rw[ht];rfl⟩)
    ·have h1:0<w6 (BM r-1/2).num:=hg.2 A'
     rw[decide_eq_false h]at ht;clear hg;generalize w6 (BM r-1/2).num=g at*;repeat' (first|apply AG<;>intro hc<;>try omega|apply AR;omega|apply AP|refine A5 V' ?_ rfl ?_;omega|apply AE|refine AD (xu _) ?_|refine AD (hF) ?_|refine AD (oi) ?_)<;>conv=>whnf
     exact BF [] (mh (m+1) false O' ⟨O',by rw[ht];rfl⟩)
  have em:m=n:=O'
  clear mh;rw[em,zT O']at r2;cases b
  ·repeat' (first|apply AG<;>intro hc<;>try omega|apply GH;omega|apply AP|apply AE|refine AD (Nj _ _) ?_)<;>conv=>whnf
   rw[<-Ax];exact BF [] (ih (0+1) false O' ⟨O',(λh=>by cases h),jk r2.symm⟩)
  ·repeat' (first|apply AG<;>intro hc<;>try omega|apply AP|apply AE)<;>conv=>whnf
   exact⟨_,AW rfl (by simp[AY,BK]),aq _ (vu r2.symm) rfl⟩
theorem cK{k:Nat}{f:Nat->Rat}:∀m,(∀j,j<m->Bt k (f j))->Bt (m*(k+1)) (H9 f m)
 |0,_=>Bt.zero _
 |m+1,h=>by
  have h1:=cK m λj hj=>h j O'
  refine(h1.add (h m O')).le ?_;rw[Ib];omega
def LO(S:HX)(p k:Nat):Rat:=B1 S.d+(H9 (K5 S.a S.b S.c) k+BM S.c*H9 (λj=>N1 S.a S.b (p+j)) (k-p))
theorem AnP{S:HX}{p k:Nat}(h:k<p):LO S p k+K5 S.a S.b S.c k=LO S p (k+1):=by
 rw[LO,LO,show k+1-p=0 by omega,show k-p=0 by omega];simp only[H9];grind
theorem AnO{S:HX}{p k:Nat}(h:p<=k):LO S p k+K5 S.a S.b S.c k+BM S.c*C0 (G5 S.a S.b k)=LO S p (k+1):=by
 rw[LO,LO,show k+1-p=(k-p)+1 by omega];have e:N1 S.a S.b (p+(k-p))=C0 (G5 S.a S.b k):=by rw[show p+(k-p)=k by omega];rfl
 simp only[H9,e];grind
theorem AnN(S:HX)(p:Nat):LO S p (p+p)=HO S p:=by rw[LO,HO,show p+p-p=p by omega]
theorem AjB(N:bk L)(S:HX)(n k:Nat)(hS:S.Ok n k)(hn:n<=4)(hk:k<=40000) :
  ∃v,Ev L 315 [.agg (eS S)] v/\((∃i,i<=6/\GP n S.a i/\v = .j5 [.agg (eQ (HO S (2^i))),.int .i64 0])\/((∀j,j<=6->ES (CI n S.a j)=false)/\v = .j5 [.agg [.bool false,.sl false [],.sl false []],.int .i64 14])):=by
 have hsd:=AiD N.toaw S n k hS O';have Kt:=hS.la;have Ku:=hS.lb;have jz:=hS.lc;have Gl:Sq n S.a:=⟨hS.la,hS.lr⟩;obtain⟨v,hP,hv⟩:=zK N false false S.a n k Gl hS.ba hn O';refine Ev.xE N.P6 rfl rfl ?_;rcases hv with⟨i,h1,h2,rfl⟩|⟨h1,rfl⟩
 ·obtain⟨g1,_,g3⟩:=RH h1
  have hAd:=fW N hS.bd O';have aq:∀r:AV,r = .j5 [.agg (eQ (HO S (2^i))),.int .i64 0]->((∃i,i<=6/\GP n S.a i/\r = .j5 [.agg (eQ (HO S (2^i))),.int .i64 0])\/((∀j,j<=6->ES (CI n S.a j)=false)/\r = .j5 [.agg [.bool false,.sl false [],.sl false []],.int .i64 14])):=λr hr=>Or.inl ⟨i,h1,h2,hr⟩
  have ri:=AnN S (2^i);generalize 2^i=p at*;have ye:∀j,j<=128->Bs 90000000 (G5 S.a S.b j):=λj hj=>(Yv Gl hS.lb hS.ba hS.bb j).le (by have:=Aec (n:=n) (k:=k) hn hj;omega)
  have mf:∀j,(G5 S.a S.b j).length=n:=sZ Kt Ku;have bn:∀j,j<=128->Bt (4*(k+90000000+1)) (BT S.c (G5 S.a S.b j)):=λj hj=>(hS.bc.dot (ye j hj)).le (zR _ O')
  have lq:Bt (4*(k+1)) (BM S.c):=(RL hS.bc).le (zR _ O');have hKb:∀j,j<=128->Bt 100000000000 (LO S p j):=λj hj=>by
   have q1:=(cK (f:=K5 S.a S.b S.c) (k:=370000000) j λt ht=>(JQ (bn t O')).le O').le (zR _ hj);have q2:=(cK (f:=λt=>N1 S.a S.b (p+t)) (k:=90000000) (j-p) λt ht=>Q5 (ye (p+t) O')).le (zR _ (show j-p<=128 by omega));exact((JQ hS.bd).add (q1.add (lq.mul q2))).le O'
  have Gp:=λq=>zL N q S.c k hS.bc O' O'
  have rh:LO S p 0=B1 S.d:=by rw[LO,show 0-p=0 by omega];simp only[H9];grind
  repeat' (first|apply AG<;>intro hc<;>try omega|apply AP|apply AE|refine AD (hsd) ?_|refine AD (hP) ?_|refine AD (hAd) ?_)<;>conv=>whnf
  refine EA (λj=>p+p-j) (λ(j:Nat)=>j<=p+p) (λj=>[(8,.int .i64 j),(7,.sl false ((G5 S.a S.b j).map eQ))]) (λj=>[(6,6,.bx (eQ (LO S p j)))]) [] [] 0 (by rw[rh];exact E') O' ?_;intro j t1 jh;by_cases hj:j<p+p
  ·have hI:=λq q'=>yF N.toaw S.c (G5 S.a S.b j) q q' k 90000000 (by rw[mf];exact jz) hS.bc (ye j O') (by rw[jz];have:=zR (k+90000000+1) hn;omega) O'
   have hA:=fW N (bn j O') O';have Mz:=Q1 N.tob7 (hKb j O') (JQ (bn j O')) O' O';have hT:=λq1 q2 q3=>AiE N.toaw S.a (G5 S.a S.b j) q1 q2 q3 n k 90000000 Gl (mf j) hS.ba (ye j O') hn O'
   have hT':∀q1 q2 q3,Ev L 138 [.sl q1 (IX q3 S.a),.sl q2 ((G5 S.a S.b j).map eQ)] (.sl false ((G5 S.a S.b (j+1)).map eQ)):=hT;clear hT;by_cases Ot:p<=j
   ·have hG:=λq=>Ajt N q (G5 S.a S.b j) 90000000 (ye j O') (by rw[mf];omega) O'
    have hM:=V4 N.tob7 lq (Q5 (ye j O')) O' O';have hs:=AnO (S:=S) Ot;have hf:K5 S.a S.b S.c j=B1 (BT S.c (G5 S.a S.b j)):=rfl;rw[hf]at hs;have Jx:=Q1 N.tob7 ((hKb j O').add (JQ (bn j O'))) (lq.mul (Q5 (ye j O'))) O' O';rw[hs]at Jx;repeat' (first|apply AG<;>intro hc<;>try omega|apply AR;omega|apply GH;omega|apply AE|refine AD (hI _ _) ?_|refine AD (hA) ?_|refine AD (Mz) ?_|refine AD (Gp _) ?_|refine AD (hG _) ?_|refine AD (hM) ?_|refine AD (Jx) ?_|refine AD (hT' _ _ _) ?_)<;>conv=>whnf
    exact BF [] (jh (j+1) O' O')
   ·have hs:=AnP (S:=S) (p:=p) (k:=j) O'
    have hf:K5 S.a S.b S.c j=B1 (BT S.c (G5 S.a S.b j)):=rfl;rw[hf]at hs;rw[hs]at Mz;repeat' (first|apply AG<;>intro hc<;>try omega|apply AR;omega|apply GH;omega|apply AE|refine AD (hI _ _) ?_|refine AD (hA) ?_|refine AD (Mz) ?_|refine AD (hT' _ _ _) ?_)<;>conv=>whnf
    exact BF [] (jh (j+1) O' O')
  have ej:j=p+p:=O'
  clear jh;rw[ej,ri];repeat' (first|apply AG<;>intro hc<;>try omega|apply GH;omega|apply AE)<;>conv=>whnf
  exact⟨_,AW rfl (eF _ 0),aq _ rfl⟩
 ·repeat' (first|apply AG<;>intro hc<;>try omega|apply AP|apply AE|refine AD (hsd) ?_|refine AD (hP) ?_)<;>conv=>whnf
  exact⟨_,AW rfl (by simp[AY,BK,DR]),Or.inr ⟨h1,rfl⟩⟩
end Go.e9

namespace Go.e9
theorem kM{es:v_}{i j n:Nat}{K:w_->Prop}{cs ds:w_}(h:es[i]?=some cs)(hp:part cs j n=some ds)(hk:K ds):A7 es i j n K:=by
 unfold A7;exact⟨cs,ds,h,hp,hk⟩
end Go.e9

namespace Go.e9
open F
attribute [local irreducible] AA AF AX AC B4 AU A7 A8 BV BI B0 DS BG A1 BU CB AB A2 AH pw CG B3 CR DK C2 CO CJ BL CY C3 C4 CX C7
set_option maxRecDepth 8000
variable {L:Lib}
structure DU(n:Nt):Prop where
 er:DN n=true
 st:n.s<=4
 nl:n.nodes.length<=5
 cf:∀d∈n.nodes,∀t∈d.ts,t.2.natAbs<=2^24
 tl:(∀d∈n.nodes,d.ts.length<=3)\/(n.nodes.length<=1/\∀d∈n.nodes,d.ts.length<=5)\/(n.nodes.length<=4/\∀d∈n.nodes,d.ts.length<=4)
end Go.e9

namespace Go.e9
open F
attribute [local irreducible] AA AF AX AC B4 AU A7 A8 BV BI B0 DS BG A1 BU CB AB A2 AH pw CG B3 CR DK C2 CO CJ BL CY C3 C4 CX C7
variable {L:Lib}
set_option maxRecDepth 8000
def GZ(n:Nt)(fr:Nat):o_:=GC (rb 1 (pw n.c.f)) ((fr:Int)-(n.s+1)) 0 (DF (n.s+1).toNat fr) (DE n)
theorem AjZ{l:o_}{m p:Nat}{x:Rat}(h:l[p]?=some x):(ED l m)[p]?=some (some x):=by
 have hi:=(zS h).1;rw[ED,dd (by rw[xa];exact hi),ya,h];rfl
theorem Th{l:o_}{m p:Nat}{x:Rat}(h:p<l.length):(ED l m).set p (some x)=ED (l.set p x) m:=by
 simp only[ED,xc];rw[Pg,if_pos (by rw[xa];exact h),List.map_set]
theorem An3{m:Nat}{p:Int}(h:(m:Int)<=p):DF m p=ja m 0:=by
 refine Rg λi=>?_
 simp only[DF,ya,Md];by_cases hi:i<m
 ·rw[Pa hi,if_pos hi]
  simp only[Ja];rw[if_neg O']
 ·rw[Ic (by simpa using hi),if_neg hi];rfl
theorem Rr{n:Nt}(hn:DU n){u:Rat}(hu:Bt 24 u){ex:Int}{w:o_}(hw:Bs 0 w):∀j,j<=n.nodes.length->Bs 40000 (GC u ex 0 w ((DE n).take j)):=by
 intro j hj;have fg:=hn.nl;have k7:(DE n).length=n.nodes.length:=by simp[DE]
 have e:0+((DE n).take j).length=j:=by rw[za,k7];omega
 have mem:∀ts∈(DE n).take j,∃d∈n.nodes,d.ts=ts:=λts h=>sa.1 (tb h)
 rcases hn.tl with h|⟨h0,h⟩|⟨h0,h⟩
 ·have h1:=gI (ex:=ex) (m:=3) hu ((DE n).take j) 0 w (λts ht=>by obtain⟨d,hd,rfl⟩:=mem ts ht;exact h d hd) (λts ht=>by obtain⟨d,hd,rfl⟩:=mem ts ht;exact hn.cf d hd) hw
  rw[e]at h1;intro x hx;refine(h1 x hx).le ?_;have:j<=5:=O'
  rcases j with _|_|_|_|_|_|j
  all_goals first|decide|omega
 ·have h1:=gI (ex:=ex) (m:=5) hu ((DE n).take j) 0 w (λts ht=>by obtain⟨d,hd,rfl⟩:=mem ts ht;exact h d hd) (λts ht=>by obtain⟨d,hd,rfl⟩:=mem ts ht;exact hn.cf d hd) hw
  rw[e]at h1;intro x hx;refine(h1 x hx).le ?_;have:j<=1:=O'
  rcases j with _|_|j
  all_goals first|decide|omega
 ·have h1:=gI (ex:=ex) (m:=4) hu ((DE n).take j) 0 w (λts ht=>by obtain⟨d,hd,rfl⟩:=mem ts ht;exact h d hd) (λts ht=>by obtain⟨d,hd,rfl⟩:=mem ts ht;exact hn.cf d hd) hw
  rw[e]at h1;intro x hx;refine(h1 x hx).le ?_;have:j<=4:=O'
  rcases j with _|_|_|_|_|j
  all_goals first|decide|omega
theorem Rt(N:x7 L)(n:Nt)(fr:Nat)(hn:DU n)(hf:(fr:Int)<=n.s+n.nodes.length):AA L [.code F.HK.body] (CU 0 [.agg (B2 n),.int .i64 (fr:Int)]) [] (λtm M=>kR F.HK 3 ((GZ n fr).map eQ) tm M/\QQ F.HK (.sl false ((GZ n fr).map eQ)) tm M):=by
 obtain⟨h1,h2,⟨h3a,h3b,h3c,h3d⟩,h4,h5,h6⟩:=(C1 n).1 hn.er;have yj:=h2;unfold WV at yj;have o7:=hn.st;have fg:=hn.nl;obtain⟨S,hS⟩:∃S:Nat,n.s=(S:Int):=⟨n.s.toNat,O'⟩;obtain⟨T,hT⟩:∃T:Nat,T=S+1+n.nodes.length:=⟨_,rfl⟩;have uq:=JG N.toa6 0 O';have qz:=JG N.toa6 1 O';rw[show((0:Int):Rat)=0 from rfl]at uq;rw[show((1:Int):Rat)=1 from rfl]at qz;have hF:=yE N.tobg 1 (pw n.c.f) O' (by have:=G2 n.c.f;have:=iX (n:=n.c.f) O';omega) (by have:=G2 n.c.f;omega);have hu:Bt 24 (rb 1 (pw n.c.f)):=by
  have e1:=G2 n.c.f;have e2:=RI (n:=n.c.f) (m:=23) O';have e3:pw 23=8388608:=by unfold pw;rfl
  obtain⟨e,he⟩:=Jd (show 0<=pw n.c.f by omega);rw[he]at e2⊢;rw[He];refine Bt.mk Y' ?_;show _<=16777216;omega
 have k7:(DE n).length=n.nodes.length:=by simp[DE]
 have hlen:∀d∈n.nodes,d.ts.length<=5:=λd hd=>by
  rcases hn.tl with h|⟨_,h⟩|⟨_,h⟩<;>have:=h d hd<;>omega
 obtain⟨ex,hex⟩:∃ex:Int,ex=(fr:Int)-(n.s+1):=⟨_,rfl⟩;have hw:(DF (S+1) fr).length=S+1:=cS _ _;have Iu:∀j,j<=n.nodes.length->Bs 40000 (GC (rb 1 (pw n.c.f)) ex 0 (DF (S+1) fr) ((DE n).take j)):=Rr hn hu (Bs.unit _ _ _);have mf:∀j,j<=n.nodes.length->(GC (rb 1 (pw n.c.f)) ex 0 (DF (S+1) fr) ((DE n).take j)).length=S+1+j:=λj hj=>by
  rw[nV,cS,za,k7];omega
 have nb:=Akc (rb 1 (pw n.c.f)) ex (DF (S+1) fr) (DE n);have aq:GZ n fr=GC (rb 1 (pw n.c.f)) ex 0 (DF (S+1) fr) ((DE n).take n.nodes.length):=by
  rw[GZ,hex,<-k7,Pb,hS];rfl
 rw[aq];clear aq;generalize rb 1 (pw n.c.f)=u at*;refine id ?_;repeat' (first|apply AR;omega|apply AP|apply AE)<;>conv=>whnf
 refine FJ (enc:=eO) none T rfl O' O' ?_;conv=>whnf
 skip
 refine EA (λi=>S+1-i) (λ(i:Nat)=>i<=S+1) (λi=>[(24,.int .i64 i)]) (λi=>[(22,22,.rw 3 ((ED (ja i (0:Rat)) T).map eO))]) [] [] 0 (by rw[Df,aR];exact E') O' ?_;intro i p1 ih;by_cases hi:i<S+1
 ·have hs:=YF (l:=ja i (0:Rat)) (m:=T) (x:=0) (by rw[Ha];omega)
  have Kv:=SC (l:=ja i (0:Rat)) (m:=T) (by rw[Ha];omega);rw[Ha,<-Lf]at hs;generalize ED (ja i (0:Rat)) T=F0 at*;repeat' (first|apply AG<;>intro hc<;>try omega|apply A4;omega|apply AE|refine AD (uq) ?_)<;>conv=>whnf
  refine H4 (enc:=eO) (some 0) rfl (λe=>by cases e<;>rfl) O' ?_;conv=>whnf
  rw[hs];repeat' (first|apply AR;omega|fail)<;>conv=>whnf
  exact BF [] (ih (i+1) O' O')
 have ei:i=S+1:=O'
 clear ih;rw[ei];have Kv:=SC (l:=ja (S+1) (0:Rat)) (m:=T) (by rw[Ha];omega);by_cases hfr:fr<S+1;focus
  have Az:=Th (l:=ja (S+1) (0:Rat)) (m:=T) (x:=1) (p:=fr) (by rw[Ha];exact hfr);rw[An5]at Az;generalize ED (ja (S+1) (0:Rat)) T=F0 at*;repeat' (first|apply AG<;>intro hc<;>try omega|apply A4;omega|apply AE|refine AD (qz) ?_)<;>conv=>whnf
  refine H4 (enc:=eO) (some 1) rfl (λe=>by cases e<;>rfl) O' ?_;conv=>whnf
  rw[Az]
 rotate_left
 focus
  rw[<-An3 (m:=S+1) (p:=fr) O']
 all_goals
  generalize DF (S+1) fr=w at*;repeat' (first|apply AG<;>intro hc<;>try omega|refine ID ?_ (λ_ _=>?_);omega|apply AP|apply AE|refine AD (hF) ?_)<;>conv=>whnf
  refine DG (λj=>n.nodes.length-j) (λ(j:Nat)=>j<=n.nodes.length) (λj=>[(47,.int .i64 j)]) (λj=>[(22,22,.rw 3 ((ED (GC u ex 0 w ((DE n).take j)) T).map eO))]) 0 O' ?_;clear p1;intro j p1 ih;by_cases hj:j<n.nodes.length
  ·obtain⟨nd,hnd⟩:=N' n.nodes j hj
   have uc:n.nodes[(j:Int).toNat]?=some nd:=hnd;have mq:(DE n)[j]?=some nd.ts:=by simp[DE,hnd]
   have hbv:=Iu j p1;have js:=mf j p1;have xd:=nb j nd.ts mq;have Ew:=iL h4 hnd;have hL:nd.ts.length<=5:=hlen _ (zM hnd);have hC:=hn.cf _ (zM hnd);generalize hV:GC u ex 0 w ((DE n).take j)=V at*;have hFl:=SC (l:=V) (m:=T) O';have Ml:∀(p:Nat)(x:Rat),V[p]?=some x->(ED V T)[p]?=some (some x):=λp x h=>AjZ h
   have hFs:∀x:Rat,(ED V T).set (S+1+j) (some x)=ED (V++[x]) T:=λx=>by rw[<-js];exact YF O'
   have Mo:∀x y:Rat,(ED (V++[x]) T).set (S+1+j) (some y)=ED (V++[y]) T:=λx y=>by
    rw[Th (by rw[ga,af];omega),<-js,Pg,if_neg O',Qc];rfl
   have Mn:∀x:Rat,(ED (V++[x]) T).length=T:=λx=>SC (by rw[ga,af];omega)
   repeat' (first|apply AG<;>intro hc<;>try omega|apply AP|refine A5 V' ?_ rfl ?_;omega|apply AE|refine AD (uq) ?_)<;>conv=>whnf
   refine EE (λt _=>nd.ts.length-t) (λ(t:Nat)(acc:Rat)=>t<=nd.ts.length/\acc=EU V (nd.ts.take t)) (λt acc=>[(56,.int .i64 t)]) (λt acc=>[(11,11,.bx (eQ acc))]) 0 (0:Rat) ⟨O',rfl⟩ ?_;intro t acc ⟨p3,p4⟩ jh;have zs:Bt 200125 acc:=by
    rw[p4];have a1:=hbv.sum (nd.ts.take t) (j:=24) (λe he=>Bt.ofInt (hC e (tb he)));refine a1.le (vb (zR _ (show(nd.ts.take t).length<=5 by rw[za];omega)) Y')
   by_cases ht:t<nd.ts.length
   ·obtain⟨e,he⟩:=N' nd.ts t ht
    have jb:nd.ts[(t:Int).toNat]?=some e:=he;have Hq:=zM he;have k8:=Da.1 Ew e Hq;simp only[IA,decide_eq_true_eq]at k8;have Gz:=hC e Hq;obtain⟨x,hx⟩:=N' V e.1.toNat;have hx2:=Ml _ _ hx;have Ql:((ED V T).map eO)[0+e.1.toNat]?=some (eO (some x)):=by rw[Mb,ya,hx2];rfl
    have Le:V.getD e.1.toNat 0=x:=by rw[ua,hx];rfl
    have lg:=hbv.at hx;have Dm:=Zg (vals:=V) he;rw[Le]at Dm;have Gj:=nJ N.toa6 lg O';have hE:=JG N.toa6 e.2 (by have:(2:Nat)^24=16777216:=rfl;omega);have hM:=K4 N.toa6 lg (Bt.ofInt Gz) O' O';have hA:=KD N.toa6 zs (lg.mul (Bt.ofInt Gz)) O' O';have z1:=cF (x:=x);generalize w6 x.num=sx at*;generalize ED V T=F0 at*;by_cases q2:sx=0
    ·have nz:=z1.1 q2
     repeat' (first|apply AG<;>intro hc<;>try omega|apply A4;omega|refine A5 V' ?_ rfl ?_;omega|apply AE)<;>conv=>whnf
     refine kM Ql rfl ?_;conv=>whnf
     repeat' (first|apply AG<;>intro hc<;>try omega|apply AR;omega|refine AD (Gj) ?_)<;>conv=>whnf
     have En:=jh (t+1) acc O' ⟨O',by rw[Dm,nz,Rat.mul_zero,zc];exact p4⟩;exact BB [] E' En
    ·repeat' (first|apply AG<;>intro hc<;>try omega|apply A4;omega|refine A5 V' ?_ rfl ?_;omega|apply AE)<;>conv=>whnf
     refine kM Ql rfl ?_;conv=>whnf
     repeat' (first|apply AG<;>intro hc<;>try omega|apply A4;omega|refine AD (Gj) ?_)<;>conv=>whnf
     refine kM Ql rfl ?_;conv=>whnf
     repeat' (first|apply AR;omega|refine AD (hE) ?_|refine AD (hM) ?_|refine AD (hA) ?_)<;>conv=>whnf
     have En:=jh (t+1) (acc+x*((e.2:Int):Rat)) O' ⟨O',by rw[Dm,<-p4,Rat.mul_comm]⟩;exact BB [] E' En
   ·obtain rfl:t=nd.ts.length:=O'
    clear jh;rw[Pb]at p4;have hMu:=K4 N.toa6 zs hu O' O';rw[<-p4]at xd;have s1:=hFs (acc*u);have s2:=Mo (acc*u) 1;have l2:=Mn (acc*u);generalize ED V T=F0 at*;by_cases q5:(j:Int)=ex
    ·have q7:=q5
     first
     |(exfalso;omega)
     |(rw[if_pos q5]at xd
       repeat' (first|apply AG<;>intro hc<;>try omega|apply A4;omega|apply AR;omega|apply AE|refine AD (hMu) ?_)<;>conv=>whnf
       refine VJ (enc:=eO) (S+1+j) (some (acc*u)) O' rfl (λe=>by cases e<;>rfl) O' ?_;rw[s1];generalize ED (V++[acc*u]) T=F1 at*;conv=>whnf
       repeat' (first|apply AG<;>intro hc<;>try omega|apply A4;omega|apply AR;omega|refine AD (qz) ?_)<;>conv=>whnf
       refine VJ (enc:=eO) (S+1+j) (some 1) O' rfl (λe=>by cases e<;>rfl) O' ?_;rw[s2,<-xd];conv=>whnf
       repeat' (first|apply AR;omega|fail)<;>conv=>whnf
       exact BF [] (ih (j+1) O' O'))
    ·rw[if_neg q5]at xd
     repeat' (first|apply AG<;>intro hc<;>try omega|apply A4;omega|apply AR;omega|apply AE|refine AD (hMu) ?_)<;>conv=>whnf
     refine VJ (enc:=eO) (S+1+j) (some (acc*u)) O' rfl (λe=>by cases e<;>rfl) O' ?_;rw[s1,<-xd];conv=>whnf
     repeat' (first|apply AG<;>intro hc<;>try omega|apply AR;omega)<;>conv=>whnf
     exact BF [] (ih (j+1) O' O')
  ·obtain rfl:j=n.nodes.length:=O'
   clear ih;have js:=mf n.nodes.length p1;rw[aQ O'];repeat' (first|apply AG<;>intro hc<;>try omega|apply AE)<;>conv=>whnf
   refine⟨⟨rfl,rfl,by rw[xa];omega,rfl,MM _⟩,?_⟩;conv=>whnf
   refine C6 (enc:=eQ) (λ_=>rfl) rfl O' ?_;conv=>whnf
   exact AW rfl (by simp only[AY,true_and];exact MM _)
theorem AiN(N:x7 L)(n:Nt)(fr:Nat)(hn:DU n)(hf:(fr:Int)<=n.s+n.nodes.length):NS L 351 [.agg (B2 n),.int .i64 (fr:Int)] 3 ((GZ n fr).map eQ):=NS.x N.HK rfl rfl (tG (Rt N n fr hn hf) λ_ _ h=>h.1)
theorem yN(N:x7 L)(n:Nt)(fr:Nat)(hn:DU n)(hf:(fr:Int)<=n.s+n.nodes.length):Ev L 351 [.agg (B2 n),.int .i64 (fr:Int)] (.sl false ((GZ n fr).map eQ)):=Ev.x N.HK rfl rfl (tG (Rt N n fr hn hf) λ_ _ h=>h.2)
theorem AjO(I:a8 L)(N:x7 L)(n:Nt)(hn:DU n):Ev L 349 [.agg (B2 n)] (.bool true):=by
 have hV:=fU n I N.tok9;rw[hn.er]at hV;have:=hn.st
 refine Ev.x N.TI rfl rfl ?_;repeat' (first|apply AG<;>intro hc<;>try omega|apply AE|refine AD (hV) ?_)<;>conv=>whnf
 exact E9 rfl
theorem AiF(N:x7 L)(a b:Rat)(v:Int)(k:Nat)(ha:Bt k a)(hb:Bt k b)(hk:k<=1000000000000)(hv:v.natAbs<=2^24):Ev L 353 [.agg (eQ a++eQ b),.int .i64 v] (.agg (eQ (a*(v:Rat)+b))):=by
 have hO:=JG N.toa6 v (by have:(2:Nat)^24=16777216:=rfl;omega);have hM:=K4 N.toa6 ha (Bt.ofInt hv) O' O';have hA:=KD N.toa6 (ha.mul (Bt.ofInt hv)) hb O' O';refine Ev.x N.TG rfl rfl ?_;repeat' (first|apply AE|refine AD (hO) ?_|refine AD (hM) ?_|refine AD (hA) ?_)<;>conv=>whnf
 exact AW rfl (DY _)
def E8(C:P')(v:Nat):o_:=C.map λc=>c.getD v 0
theorem zB(N:x7 L)(q q':Bool)(C:P')(v:Nat)(hl:C.length<=1000000)(hv:∀c∈C,v<c.length):Ev L 352 [.sl q (IX q' C),.int .i64 (v:Int)] (.sl false ((E8 C v).map eQ)):=by
 refine Ev.x N.PG rfl rfl ?_;repeat' (first|apply AP|apply AE)<;>conv=>whnf
 refine FJ (enc:=eO) none C.length rfl rfl O' ?_;conv=>whnf
 (repeat' (apply AP<;>conv=>whnf))
 refine EA (λi=>C.length-i) (λ(i:Nat)=>i<=C.length) (λi=>[(12,.int .i64 i)]) (λi=>[(9,9,.rw 3 ((ED ((E8 C v).take i) C.length).map eO))]) [] [] 0 (by rw[xb,aR];exact E') O' ?_;intro i p1 ih;have il:(E8 C v).length=C.length:=xa _;have dp:((E8 C v).take i).length=i:=by rw[za,il];omega
 have Kv:=SC (l:=(E8 C v).take i) (m:=C.length) O';by_cases hi:i<C.length
 ·obtain⟨c,hc⟩:=N' C i hi
  have ae:C[(i:Int).toNat]?=some c:=hc;have y7:=hv c (zM hc);obtain⟨x,hx⟩:=N' c v y7;have ve:c[(v:Int).toNat]?=some x:=hx;have hy:(E8 C v)[i]?=some x:=by rw[E8,ya,hc,Ja,ua,hx];rfl
  have hs:=YF (l:=(E8 C v).take i) (m:=C.length) (x:=x) O';rw[dp,<-KQ hy]at hs;generalize ED ((E8 C v).take i) C.length=F0 at*;repeat' (first|apply AG<;>intro hc<;>try omega|apply A4;omega|refine A5 V' ?_ rfl ?_;omega|apply AE)<;>conv=>whnf
  refine H4 (enc:=eO) (some x) rfl (λe=>by cases e<;>rfl) O' ?_;conv=>whnf
  rw[hs];repeat' (first|apply AR;omega|fail)<;>conv=>whnf
  exact BF [] (ih (i+1) O' O')
 obtain rfl:i=C.length:=O'
 clear ih;rw[zT O',aQ il];repeat' (first|apply AG<;>intro hc<;>try omega|apply AE)<;>conv=>whnf
 refine C6 (enc:=eQ) (λ_=>rfl) rfl O' ?_;conv=>whnf
 skip
 exact AW rfl (by simp only[AY,true_and];exact MM _)
def RP(n:Nt)(ts:List (Int×Int)):Bool:=ts.all λt=>decide (t.2%pw n.c.f=0)
def EK(n:Nt)(nd:Nd):Rat:=if RP n nd.ts=true then 0 else if n.d.r=2 then rb 1 2 else 1
theorem Yy{n:Nt}{ts:List (Int×Int)}{i:Nat}{t:Int×Int}(h:ts[i]?=some t):RP n (ts.take (i+1))=(RP n (ts.take i)&&decide (t.2%pw n.c.f=0)):=by
 rw[zb,h,db,RP,Og];simp[RP]
theorem AiW(N:x7 L)(n:Nt)(hn:DU n)(k:Nat)(nd:Nd)(hnd:n.nodes[k]?=some nd):Ev L 350 [.agg (B2 n),.int .i64 (k:Int)] (.agg (eQ (EK n nd))):=by
 obtain⟨h1,h2,⟨h3a,h3b,h3c,h3d⟩,h4,h5,h6⟩:=(C1 n).1 hn.er;have yj:=h2;unfold WV at yj;have uc:n.nodes[(k:Int).toNat]?=some nd:=hnd;have uq:=JG N.toa6 0 O';have qz:=JG N.toa6 1 O';have hF:=yE N.tobg 1 2 O' O' O';rw[show((0:Int):Rat)=0 from rfl]at uq;rw[show((1:Int):Rat)=1 from rfl]at qz;have Ax:=G2 n.c.f;have hC:=hn.cf _ (zM hnd);have tz:=(zS hnd).1;have hL:nd.ts.length<=5:=by
  rcases hn.tl with h|⟨_,h⟩|⟨_,h⟩<;>have:=h _ (zM hnd)<;>omega
 refine Ev.x N.PF rfl rfl ?_;repeat' (first|refine ID ?_ (λ_ _=>?_);omega|apply AP|refine A5 V' ?_ rfl ?_;omega|apply AE)<;>conv=>whnf
 refine EE (λi _=>nd.ts.length-i) (λ(i:Nat)(b:Bool)=>i<=nd.ts.length/\b=RP n (nd.ts.take i)) (λi b=>[(20,.int .i64 i),(6,.bool b)]) (λ_ _=>[]) 0 true ⟨O',by simp[RP]⟩ ?_;intro i b ⟨p1,p2⟩ ih;by_cases hi:i<nd.ts.length
 ·obtain⟨t,ht⟩:=N' nd.ts i hi
  have ny:nd.ts[(i:Int).toNat]?=some t:=ht;have hw:=Yy (n:=n) ht;rw[<-p2]at hw;by_cases hz:t.2%pw n.c.f=0
  ·rw[decide_eq_true hz,Bool.and_true]at hw
   repeat' (first|apply AG<;>intro hc<;>try omega|apply AR;omega|(refine I9 ?_ (λ_ _ _=>?_) (λ_ _ _ _=>?_);omega;all_goals try omega)|refine A5 V' ?_ rfl ?_;omega|apply AE)<;>conv=>whnf
   exact BF [] (ih (i+1) b O' ⟨O',hw.symm⟩)
  ·rw[decide_eq_false hz,Bool.and_false]at hw
   repeat' (first|apply AG<;>intro hc<;>try omega|apply AR;omega|(refine I9 ?_ (λ_ _ _=>?_) (λ_ _ _ _=>?_);omega;all_goals try omega)|refine A5 V' ?_ rfl ?_;omega|apply AE)<;>conv=>whnf
   all_goals exact BF [] (ih (i+1) false O' ⟨O',hw.symm⟩)
 have ei:i=nd.ts.length:=O'
 clear ih;rw[ei,Pb]at p2;cases b
 ·by_cases hr:n.d.r=2
  ·have e:EK n nd=rb 1 2:=by rw[EK,<-p2,if_neg Y',if_pos hr]
   rw[e];repeat' (first|apply AG<;>intro hc<;>try omega|apply AE|refine AD (hF) ?_)<;>conv=>whnf
   exact AW rfl (DY _)
  ·have e:EK n nd=1:=by rw[EK,<-p2,if_neg Y',if_neg hr]
   rw[e];repeat' (first|apply AG<;>intro hc<;>try omega|apply AE|refine AD (qz) ?_)<;>conv=>whnf
   exact AW rfl (DY _)
 ·have e:EK n nd=0:=by rw[EK,<-p2,if_pos rfl]
  rw[e];repeat' (first|apply AG<;>intro hc<;>try omega|apply AE|refine AD (uq) ?_)<;>conv=>whnf
  exact AW rfl (DY _)
end Go.e9

namespace Go.e9
structure CD where
 g:o_
 l:Rat
 b:o_
def FL(n:Nt):P':=(Oa n.s.toNat).map λj=>GZ n (1+j)
def aN(n:Nt):P':=n.next.map λv=>E8 (FL n) v.toNat
def XT(n:Nt)(g:o_):o_:=n.next.map λv=>g.getD v.toNat 0
def FE(n:Nt)(i:Nat)(l:Rat):CD:=⟨GZ n i,l,XT n (GZ n i)⟩
def Y8(n:Nt)(k:Nat):Option CD:=match n.nodes[k]? with
 |some nd=>if 0<EK n nd then some (FE n (1+n.s.toNat+k) (EK n nd))else none
 |none=>none
def D6(n:Nt)(k:Nat):List CD:=(Oa k).filterMap (Y8 n)
def y6(n:Nt):List CD:=FE n 0 1::D6 n n.nodes.length
theorem sB(n:Nt)(k:Nat):D6 n (k+1)=D6 n k++(Y8 n k).toList:=by
 rw[D6,Dc,List.filterMap_append];congr 1
theorem jU(n:Nt):∀k,(D6 n k).length<=k
 |0=>by simp[D6]
 |k+1=>by
  rw[sB,ga];have:=jU n k
  cases Y8 n k<;>simp<;>omega
theorem Alp(n:Nt)(nd:Nd):EK n nd=0\/EK n nd=rb 1 2\/EK n nd=1:=by
 unfold EK;split
 ·exact Or.inl rfl
 ·split
  ·exact Or.inr (Or.inl rfl)
  ·exact Or.inr (Or.inr rfl)
theorem WE(n:Nt)(nd:Nd):Bt 1 (EK n nd)/\0<=EK n nd:=by
 rcases Alp n nd with h|h|h<;>rw[h]<;>exact⟨⟨Y',Y'⟩,Y'⟩
theorem gF{n:Nt}(hn:DU n)(fr:Nat):(GZ n fr).length=n.s.toNat+1+n.nodes.length:=by
 obtain⟨_,_,⟨h,_⟩,_⟩:=(C1 n).1 hn.er;rw[GZ,nV,cS];simp[DE];omega
theorem Tx{n:Nt}(hn:DU n)(fr:Nat):Bs 40000 (GZ n fr):=by
 obtain⟨_,h2,⟨h,_⟩,_⟩:=(C1 n).1 hn.er;unfold WV at h2;have hu:Bt 24 (rb 1 (pw n.c.f)):=by
  have e1:=G2 n.c.f;have e2:=RI (n:=n.c.f) (m:=23) O';have e3:pw 23=8388608:=by unfold pw;rfl
  obtain⟨e,he⟩:=Jd (show 0<=pw n.c.f by omega);rw[he]at e2⊢;rw[He];refine Bt.mk Y' ?_;show _<=16777216;omega
 have k7:(DE n).length=n.nodes.length:=by simp[DE]
 have:=Rr hn hu (ex:=(fr:Int)-(n.s+1)) (w:=DF (n.s+1).toNat fr) (Bs.unit _ _ _) n.nodes.length (ib _)
 rwa [<-k7,Pb]at this
structure OJ(n:Nt)(s:CD):Prop where
 gl:s.g.length=n.s.toNat+1+n.nodes.length
 gb:Bs 40000 s.g
 lb:Bt 1 s.l
 l0:0<=s.l
 b:s.b=XT n s.g
theorem sA{n:Nt}(hn:DU n)(i:Nat){l:Rat}(hl:Bt 1 l)(h0:0<=l):OJ n (FE n i l):=⟨gF hn i,Tx hn i,hl,h0,rfl⟩
theorem Adl{n:Nt}(hn:DU n){k:Nat}:∀s∈D6 n k,OJ n s:=by
 intro s hs;simp only[D6,List.mem_filterMap,Y8]at hs;obtain⟨j,_,hj⟩:=hs;cases h:n.nodes[j]? with
 |none=>rw[h]at hj;cases hj
 |some nd=>
  simp only[h]at hj;by_cases hp:0<EK n nd
  ·rw[if_pos hp,ue]at hj
   rw[<-hj];exact sA hn _ (WE n nd).1 (WE n nd).2
  ·rw[if_neg hp]at hj;cases hj
theorem Adk{n:Nt}(hn:DU n):OJ n (FE n 0 1):=sA hn 0 ⟨Y',Y'⟩ Y'
theorem ZA{n:Nt}(hn:DU n):∀s∈y6 n,OJ n s:=by
 intro s hs;rcases ef.1 hs with rfl|hs
 ·exact Adk hn
 ·exact Adl hn s hs
theorem Adm{n:Nt}(hn:DU n):1<=(y6 n).length/\(y6 n).length<=6:=by
 have:=jU n n.nodes.length
 have:=hn.nl
 simp only[y6,Hb];omega
theorem YH{k:Nat}{l:o_}(h:Bs k l)(i:Nat):Bt k (l.getD i 0):=by
 rw[ua];cases e:l[i]? with
 |none=>exact Bt.zero k
 |some x=>exact h.at e
theorem iJ{n:Nt}(hn:DU n):n.next.length=n.s.toNat/\∀v∈n.next,0<=v/\v.toNat<n.s.toNat+1+n.nodes.length:=by
 obtain⟨_,_,⟨h1,h2,h3,h4⟩,_,h5,_⟩:=(C1 n).1 hn.er;refine⟨O',λv hv=>?_⟩;have:=of_decide_eq_true (Da.1 h5 v hv)
 omega
theorem Agi{n:Nt}(hn:DU n)(g:o_):(XT n g).length=n.s.toNat:=by
 rw[XT,xa];exact(iJ hn).1
theorem Agh{n:Nt}{k:Nat}{g:o_}(hg:Bs k g):Bs k (XT n g):=by
 intro x hx;obtain⟨v,_,rfl⟩:=sa.1 hx;exact YH hg _
theorem OJ.bl{n:Nt}{s:CD}(hn:DU n)(h:OJ n s):s.b.length=n.s.toNat:=by rw[h.b];exact Agi hn _
theorem OJ.bb{n:Nt}{s:CD}(h:OJ n s):Bs 40000 s.b:=by rw[h.b];exact Agh h.gb
theorem eK(n:Nt):(FL n).length=n.s.toNat:=by simp[FL]
theorem AgZ{n:Nt}{j:Nat}(h:j<n.s.toNat):(FL n)[j]?=some (GZ n (1+j)):=by
 rw[FL,ya,Pa h];rfl
theorem wA{n:Nt}(hn:DU n):∀c∈FL n,c.length=n.s.toNat+1+n.nodes.length:=by
 intro c hc;obtain⟨j,_,rfl⟩:=sa.1 hc;exact gF hn _
theorem rD(n:Nt)(v:Nat):(E8 (FL n) v).length=n.s.toNat:=by rw[E8,xa,eK]
theorem rC{n:Nt}(hn:DU n)(v:Nat):Bs 40000 (E8 (FL n) v):=by
 intro x hx;obtain⟨c,hc,rfl⟩:=sa.1 hx;obtain⟨j,_,rfl⟩:=sa.1 hc;exact YH (Tx hn _) _
theorem QT{n:Nt}(hn:DU n):Sq n.s.toNat (aN n):=by
 refine⟨by rw[aN,xa];exact(iJ hn).1,λr hr=>?_⟩;obtain⟨v,_,rfl⟩:=sa.1 hr;exact rD n _
theorem dT{n:Nt}(hn:DU n):Ms 40000 (aN n):=by
 intro r hr;obtain⟨v,_,rfl⟩:=sa.1 hr;exact rC hn _
theorem Aee{n kA kB:Nat}{a:P'}{b:o_}{D E:Rat}(hs:Sq n a)(hA:∀r∈CH D a,∀x∈r,Wh kA x)(hB:∀x∈b.map (· * E),Wh kB x):∀j,∀x∈F4 a b D E j,Wh (kB+j*(kA+n)) x
 |0=>by
  rw[tD];intro x hx;exact(hB x hx).le O'
 |j+1=>by
  rw[tC];intro x hx;refine(Yw hA (jM _ hs.r) (Aee hs hA hB j) x hx).le ?_;simp only[Ib];omega
theorem nO{n:Nat}:∀{ls:P'},(∀r∈ls,r.length=n)->ls.flatten.length=ls.length*n
 |[],_=>Z'
 |r::l,h=>by
  rw[Mc,ga,nO λx hx=>h x (Ma _ hx),h r La,Hb,Ib,pd]
def aC(n:Nt):Rat:=HN ((y6 n).map (·.b)).flatten
theorem Ag0{n:Nt}(hn:DU n):∃E:Nat,aC n=(E:Rat)/\0<E/\Bt 960000 (E:Rat)/\∀s∈y6 n,∀x∈s.b.map (· * (E:Rat)),Wh 1000000 x:=by
 have hl:((y6 n).map (·.b)).flatten.length<=24:=by
  have h1:=(Adm hn).2;have h2:=hn.st;rw[nO (n:=n.s.toNat) (λr hr=>by obtain⟨s,hs,rfl⟩:=sa.1 hr;exact(ZA hn s hs).bl hn),xa];exact vb (ob h1 (show n.s.toNat<=4 by omega)) O'
 have hb:Bs 40000 ((y6 n).map (·.b)).flatten:=by
  intro x hx;obtain⟨r,hr,hx⟩:=Ec.1 hx;obtain⟨s,hs,rfl⟩:=sa.1 hr;exact(ZA hn s hs).bb x hx
 obtain⟨E,e1,e2,e3,e4⟩:=oT rfl hb;refine⟨E,e1,e2,(iG e3).le O',λs hs x hx=>?_⟩;obtain⟨y,hy,rfl⟩:=sa.1 hx;exact(e4 _ (sa.2 ⟨y,Ec.2 ⟨s.b,sa.2 ⟨s,hs,rfl⟩,hy⟩,rfl⟩)).le O'
theorem Wp{n:Nt}(hn:DU n):∃D E:Nat,HN (aN n).flatten=(D:Rat)/\aC n=(E:Rat)/\0<D/\0<E/\Bt 640000 (D:Rat)/\Bt 960000 (E:Rat)/\Ms 680000 (CH (D:Rat) (aN n))/\∀s∈y6 n,∀j,j<=128->Bs 90000000 (F4 (aN n) s.b (D:Rat) (E:Rat) j):=by
 obtain⟨D,d1,d2,d3,d4⟩:=jN (QT hn) (dT hn);obtain⟨E,e1,e2,e3,e4⟩:=Ag0 hn;have o7:=hn.st;have nu:n.s.toNat*n.s.toNat<=4*4:=ob O' O';have ma:n.s.toNat*n.s.toNat*40000<=640000:=vb (zR 40000 nu) O';refine⟨D,E,d1,e1,d2,e2,(iG d3).le ma,e3,λr hr x hx=>((d4 r hr x hx).le O').bt,λs hs j hj x hx=>?_⟩;have hA:∀r∈CH (D:Rat) (aN n),∀x∈r,Wh 680000 x:=λr hr x hx=>(d4 r hr x hx).le O'
 refine((Aee (QT hn) hA (e4 s hs) j x hx).le ?_).bt;have:=ob hj (show 680000+n.s.toNat<=680004 by omega)
 omega
def bh(f:CD->Rat)(l:List CD):Rat:=l.foldl (λa s=>a+f s) 0
theorem Um(f:CD->Rat)(l:List CD)(s:CD):bh f (l++[s])=bh f l+f s:=by rw[bh,ag];rfl
theorem gY{f:CD->Rat}{l:List CD}{i:Nat}{s:CD}(h:l[i]?=some s):bh f (l.take (i+1))=bh f (l.take i)+f s:=by
 rw[zb,h,db,Um]
theorem Alz{f g:CD->Rat}{l:List CD}(h:∀s∈l,f s=g s):bh f l=bh g l:=by
 have:∀(l:List CD)(a:Rat),(∀s∈l,f s=g s)->l.foldl (λa s=>a+f s) a=l.foldl (λa s=>a+g s) a:=by
  intro l;induction l with
  |nil=>intro a _;rfl
  |cons s l ih=>
   intro a h;rw[Bc,Bc,h s La];exact ih _ λx hx=>h x (Ma _ hx)
 exact this l 0 h
theorem AlA(f g:CD->Rat)(l:List CD)(d:Rat):bh f l+bh g l/d=bh (λs=>f s+g s/d) l:=by
 have:∀(l:List CD)(a b c:Rat),a+b/d=c->l.foldl (λa s=>a+f s) a+l.foldl (λa s=>a+g s) b/d=l.foldl (λa s=>a+(f s+g s/d)) c:=by
  intro l;induction l with
  |nil=>intro a b c h;exact h
  |cons s l ih=>
   intro a b c h;refine ih _ _ _ ?_;show a+f s+(b+g s)/d=c+(f s+g s/d);rw[<-h,yb,yb,yb,ah];grind
 exact this l 0 0 0 (by rw[yb,oc,zc])
theorem Ul{f:CD->Rat}{k:Nat}{l:List CD}(h:∀s∈l,Bt k (f s)):Bt (l.length*(k+1)) (bh f l):=by
 have:∀(l:List CD)(a:Rat)(m:Nat),(∀s∈l,Bt k (f s))->Bt m a->Bt (m+l.length*(k+1)) (l.foldl (λa s=>a+f s) a):=by
  intro l;induction l with
  |nil=>intro a m _ h;simpa using h
  |cons s l ih=>
   intro a m h1 h2;have:=ih (a+f s) (m+k+1) (λx hx=>h1 x (Ma _ hx)) (h2.add (h1 s La))
   exact this.le (by rw[Hb,Ib];omega)
 have:=this l 0 0 h (Bt.zero 0)
 rwa [Mb]at this
theorem AlB{f:CD->Rat}{l:List CD}(h:∀s∈l,0<=f s):0<=bh f l:=by
 have:∀(l:List CD)(a:Rat),(∀s∈l,0<=f s)->0<=a->0<=l.foldl (λa s=>a+f s) a:=by
  intro l;induction l with
  |nil=>intro a _ h;exact h
  |cons s l ih=>intro a h1 h2;exact ih _ (λx hx=>h1 x (Ma _ hx)) (by have:=h1 s La;grind)
 exact this l 0 h Y'
def J6(n:Nt)(s:CD)(v:Nat):HX:=⟨aN n,s.b,E8 (FL n) v,s.g.getD v 0⟩
def KG(n:Nt)(p v:Nat):Rat:=HO (J6 n (FE n 0 1) v) p
def QE(n:Nt)(p v:Nat):Rat:=bh (λs=>s.l*HO (J6 n s v) p) (D6 n n.nodes.length)
theorem Zh(S:HX)(p:Nat):0<=HO S p:=by
 have h1:=kV S.d;have h2:=sK (f:=K5 S.a S.b S.c) (λj=>kV _) (p+p);have h3:=sK (f:=λj=>N1 S.a S.b (p+j)) (λj=>Akg _) p;have h4:=gf (Xw S.c) h3;rw[HO];grind
theorem Yq(n:Nt)(p v:Nat):0<=KG n p v:=Zh _ _
theorem Xf{n:Nt}(hn:DU n)(p v:Nat):0<=QE n p v:=AlB λs hs=>gf (Adl hn s hs).l0 (Zh _ _)
end Go.e9

namespace Go.e9
theorem wT(f:Int):rb 1 (pw f)=1/((pw f:Int):Rat):=by
 have h:((pw f:Int):Rat)≠0:=by
  intro e;have:pw f=0:=by exact_mod_cast e
  have:=G2 f
  omega
 rw[Rat.divInt_eq_div,show((1:Int):Rat)=1 from rfl]
theorem Rz(u:Rat){ex:Int}(hx:ex<0):∀(l:List (List (Int×Int)))(k:Nat)(vals:o_),GC (1/u) ex k vals l=HE u (-1) k vals l
 |[],_,_=>rfl
 |ts::r,k,vals=>by
  rw[GC,HE,if_neg O',if_neg O',Rz u hx r,zc];rw[yb,yb,Kf]
theorem sL{vals:o_}(h:∀v∈vals,v=0):∀ts,EU vals ts=0
 |[]=>rfl
 |t::ts=>by
  have:vals.getD t.1.toNat 0=0:=by
   rw[ua];cases e:vals[t.1.toNat]? with
   |none=>rfl
   |some x=>exact h x (zM e)
  rw[EU,sL h ts,this];grind
theorem nW(u:Rat)(k0:Nat):∀(l:List (List (Int×Int)))(k:Nat)(vals:o_),(k<=k0->∀v∈vals,v=0)->GC (1/u) (k0:Int) k vals l=HE u (k0:Int) k vals l
 |[],_,_,_=>rfl
 |ts::r,k,vals,h=>by
  rw[GC,HE];by_cases e:k=k0
  ·subst e
   rw[if_pos rfl,if_pos rfl,sL (h (ib _)),nW u k r (k+1) _ (λh2=>absurd h2 O')];rw[yb,oc,Rat.zero_add]
  ·rw[if_neg O',if_neg O',zc,show EU vals ts*(1/u)=EU vals ts/u by rw[yb,yb,Kf]]
   refine nW u k0 r (k+1) _ λh2 v hv=>?_
   have hz:=h O';rcases Ce.1 hv with hv|hv
   ·exact hz v hv
   ·rw[xg.1 hv,sL hz,yb,oc]
theorem An2{m:Nat}{p q:Int}(hp:p<0\/(m:Int)<=p)(hq:q<0\/(m:Int)<=q):DF m p=DF m q:=by
 simp only[DF];refine ka λj hj=>?_
 have:=Gb.1 hj
 rw[if_neg O',if_neg O']
variable {n:Nt}
theorem Rs(hb:DN n=true){j:Nat}(hj:j<=n.s.toNat):GZ n j=G4 n (j:Int) (-1):=by
 obtain⟨_,_,⟨h0,_⟩,_⟩:=(C1 n).1 hb;rw[GZ,G4,wT,Rz _ O',show(n.s+1).toNat=(1+n.s).toNat by omega]
theorem Aj7(hb:DN n=true)(k:Nat):GZ n (1+n.s.toNat+k)=G4 n (-1) (k:Int):=by
 obtain⟨_,_,⟨h0,_⟩,_⟩:=(C1 n).1 hb;rw[GZ,G4,wT,show((1+n.s.toNat+k:Nat):Int)-(n.s+1)=(k:Int)by omega,show(n.s+1).toNat=(1+n.s).toNat by omega,An2 (q := -1) O' O'];refine nW _ k _ 0 _ λ_ v hv=>?_
 simp only[DF,sa,Gb]at hv;obtain⟨i,_,rfl⟩:=hv;rw[if_neg O']
theorem lN(hb:DN n=true)(e:Int):E8 (FL n) e.toNat=fA n e:=by
 rw[E8,FL,fA,Jb];refine ka λj hj=>?_
 have:=Gb.1 hj
 show(GZ n (1+j)).getD e.toNat 0=_;rw[Rs hb O',show((1+j:Nat):Int)=(j:Int)+1 by omega]
theorem Tw(hb:DN n=true)(e:Int):(GZ n 0).getD e.toNat 0=gX n e:=by rw[Rs hb O'];rfl
theorem Tv(hb:DN n=true)(k:Nat)(e:Int):(GZ n (1+n.s.toNat+k)).getD e.toNat 0=gK n k e:=by rw[Aj7 hb];rfl
theorem Z0(hb:DN n=true):aN n=n.next.map (fA n):=ka λe _=>lN hb e
abbrev EX(n:Nt)(v:Nat):Nt:={ n with out:=(v:Int) }
theorem Zl(hb:DN n=true)(v:Nat):J6 n (FE n 0 1) v=FP (EX n v):=by
 have e1:aN n=(FP (EX n v)).a:=Z0 hb;have e2:(FE n 0 1).b=(FP (EX n v)).b:=ka λe _=>Tw hb e
 have e3:E8 (FL n) v=(FP (EX n v)).c:=lN hb (v:Int);have e4:(FE n 0 1).g.getD v 0=(FP (EX n v)).d:=Tw hb (v:Int);rw[J6,e1,e2,e3,e4]
theorem Zk(hb:DN n=true)(k:Nat)(l:Rat)(v:Nat):J6 n (FE n (1+n.s.toNat+k) l) v=IY (EX n v) (k:Int):=by
 have e1:aN n=(IY (EX n v) (k:Int)).a:=Z0 hb;have e2:(FE n (1+n.s.toNat+k) l).b=(IY (EX n v) (k:Int)).b:=ka λe _=>Tv hb k e
 have e3:E8 (FL n) v=(IY (EX n v) (k:Int)).c:=lN hb (v:Int);have e4:(FE n (1+n.s.toNat+k) l).g.getD v 0=(IY (EX n v) (k:Int)).d:=Tv hb k (v:Int);rw[J6,e1,e2,e3,e4]
def YM(n:Nt)(k:Nat):Rat:=match n.nodes[k]? with
 |some nd=>EK n nd
 |none=>0
theorem Xg(hb:DN n=true)(p v:Nat):∀K,bh (λs=>s.l*HO (J6 n s v) p) (D6 n K)=oe (YM n) (λk=>HO (IY (EX n v) (k:Int)) p) K
 |0=>rfl
 |K+1=>by
  rw[sB,oe,<-Xg hb p v K,Y8,YM];cases h:n.nodes[K]? with
  |none=>
   show bh _ (D6 n K++[])=_+0*_;rw[mb,oc,zc]
  |some nd=>
   show bh _ (D6 n K++(if 0<EK n nd then some (FE n (1+n.s.toNat+K) (EK n nd))else none).toList)=_+EK n nd*_;by_cases hp:0<EK n nd
   ·rw[if_pos hp,db,Um,Zk hb];rfl
   ·have h0:EK n nd=0:=by have:=(WE n nd).2;grind
    rw[if_neg hp,h0,oc,zc,zd,mb]
theorem AmR(hb:DN n=true)(p v:Nat):QE n p v=oe (YM n) (λk=>HO (IY (EX n v) (k:Int)) p) n.nodes.length:=Xg hb p v _
theorem Yr(hb:DN n=true)(p v:Nat):KG n p v=HO (FP (EX n v)) p:=by rw[KG,Zl hb]
end Go.e9

namespace Go.e9
open F
variable {L:Lib}
abbrev K3(w:Bool)(P:CD->List (o_)×Rat)(s:CD):List AV :=
 .sl false (s.g.map eQ) :: .bool (decide (s.l.num<0)) :: .sl false ((dg s.l.num.natAbs).map AJ) :: .sl false ((dg s.l.den).map AJ)::(bif w then .sl true (QY (P s).1)::KC true (P s).2 else[.nil,.bool false,.nil,.nil])
def L6(ss:List CD)(P:CD->List (o_)×Rat)(i:Nat):v_:=(ss.take i).map (K3 true P)++(ss.drop i).map (K3 false P)
theorem AlI(ss:List CD)(P:CD->List (o_)×Rat):L6 ss P 0=ss.map (K3 false P):=by simp[L6]
theorem AlH(ss:List CD)(P:CD->List (o_)×Rat):L6 ss P ss.length=ss.map (K3 true P):=by simp[L6]
theorem Afq{ss:List CD}{P:CD->List (o_)×Rat}{i:Nat}{s:CD}{K:v_->Prop}(hs:ss[i]?=some s)(hk:K (L6 ss P (i+1))):A8 (L6 ss P i) (0+((i:Int)).toNat) 4 (.sl true (QY (P s).1)::KC true (P s).2) K:=by
 have hi:=(zS hs).1;have hl:((ss.take i).map (K3 true P)).length=i:=by rw[xa,za];omega
 have hg:(L6 ss P i)[i]?=some (K3 false P s):=by
  rw[L6,Fb (by rw[hl];omega),hl,Qc,ya,ie,Gd,hs];rfl
 rw[Mb,Ga];refine⟨_,hg,ib 8,?_⟩;have:(L6 ss P i).set i (splice (K3 false P s) 4 (.sl true (QY (P s).1)::KC true (P s).2))=L6 ss P (i+1):=by
  have e1:splice (K3 false P s) 4 (.sl true (QY (P s).1)::KC true (P s).2)=K3 true P s:=rfl;rw[e1,L6,L6,Jc _ _ (by rw[hl];omega),hl,Qc,zb,hs,Cc,Kc];congr 1;rw[Db hi,cd,je];have:ss[i]=s:=(zS hs).2
  rw[<-this];rfl
 rw[this];exact hk
def GY(S:Nat)(T:P')(i:Nat):List (p_):=if S=0 then ja T.length none else mz T T.length i
theorem Agg(S:Nat)(T:P'):GY S T 0=ja T.length none:=by
 unfold GY;split
 ·rfl
 ·exact pR T _
theorem Agb{S:Nat}{T:P'}{i:Nat}(hi:i<=T.length):(GY S T i).length=T.length:=by
 unfold GY;split
 ·exact Ha
 ·exact pP hi
theorem Agd{S:Nat}{T:P'}{i:Nat}(hi:i<T.length):(GY S T i)[i]?=some none:=by
 unfold GY;split
 ·rw[Md,if_pos hi]
 ·have hl:(E2 3 eQ (T.take i)).length=i:=by simp only[E2,xa,za];omega
  have:=Tr (z:=(none:p_)) (l:=E2 3 eQ (T.take i)) (m:=T.length) O'
  rw[hl]at this;exact this
theorem Agf{S:Nat}{T:P'}{i:Nat}{r:o_}(h0:S≠0)(h:T[i]?=some r):(GY S T i).set i (some (3,r.map eQ))=GY S T (i+1):=by
 rw[GY,if_neg h0,GY,if_neg h0];exact pQ h (zS h).1
theorem Age{T:P'}(i j:Nat):GY 0 T i=GY 0 T j:=by rw[GY,GY,if_pos rfl,if_pos rfl]
theorem Aga{S:Nat}{T:P'}(h0:S≠0):GY S T T.length=E2 3 eQ T:=by rw[GY,if_neg h0];exact pO rfl
theorem Agc(T:P')(i:Nat):GY 0 T i=ja T.length none:=by rw[GY,if_pos rfl]
theorem Xe(q:Bool):∀n:Nat,MA q (ja n none)=ja n [.sl false []]
 |0=>rfl
 |n+1=>by rw[Cf,Cf];simp only[MA];rw[Xe q n]
theorem Afo{q:Bool}{n off len:Nat}{K:v_->Prop}(ho:off=0)(hl:len=n)(h:K (ja n [.sl false []])):CJ q (ja n none) off len K:=by
 refine⟨ho,by rw[Ha];exact hl,λz es hm=>?_,by rw[Xe];exact h⟩;have:=List.eq_of_mem_replicate hm
 cases this
theorem Aic(q:Bool){T:P'}(h:∀r∈T,r=[]):IX q T=ja T.length [.sl q []]:=by
 refine List.eq_replicate_iff.2 ⟨by rw[xa],λx hx=>?_⟩;obtain⟨r,hr,rfl⟩:=sa.1 hx;rw[h r hr];rfl
end Go.e9

namespace Go.e9
open F
attribute [local irreducible] AA AF AX AC B4 AU A7 A8 BV BI B0 DS BG A1 BU CB AB A2 AH pw CG B3 CR DK C2 CO CJ BL CY C3 C4 CX C7
variable {L:Lib}
set_option maxRecDepth 8000
def cZ(n:Nt)(sc:Nat)(X:Mem)(ks:u_):Prop:=(X=[(1,sc,.bx (B2 n))]/\ks=[1])\/(X=[(2,sc,.bx (B2 n))]/\ks=[2])\/X=[(3,sc,.bx (B2 n)),(6,6,.bx [.bool false,.nil,.nil])]/\ks=[3,6]
abbrev Uo(X:Mem)(S m:Nat)(n:Nt)(eng:w_)(C:P')(row:v_):Mem :=
 X++[(356001,356001,.bx (B2 n)),(356004,356004,.bx [.row 356017 0 1 0 S]),(356017,356017,.mx (E2 3 eQ C)),(356009,356009,.bx eng),(356011,356011,.bx [.row 356057 0 8 0 m]),(356057,356057,.rw 8 row)]
theorem Agt(N:x7 L)(n:Nt)(hn:DU n)(X:Mem)(ks:u_)(sc:Nat)(hX:cZ n sc X ks)(R:P')(D U E:Rat)(p:Nat)(C:P')(ss:List CD)(P:CD->List (o_)×Rat)(hs:∀s∈ss,OJ n s)(hm:ss.length<=6)
  (hE:E=HN (ss.map (·.b)).flatten) (Aj:Bt 960000 E)
  (hW:∀s∈ss,Ev L 304 [.agg (IW false R D (p:Int) U),.sl false ((s.b.map (· * E)).map eQ)] (.agg (V0 (P s).1 (P s).2))) (hP:∀s,(P s).1≠[]) (K:AV->Mem->Prop)
  (hK:K (.agg (eQ E)) (Uo X n.s.toNat ss.length n (IW false R D (p:Int) U) C (ss.map (K3 true P)))) :
  A2 L 355 [.agg (IW false R D (p:Int) U),.agg (B2 n),.row 356057 0 8 0 ss.length] (ZF (ks++[356001,356004,356009,356011,356057])) (Uo X n.s.toNat ss.length n (IW false R D (p:Int) U) C (ss.map (K3 false P))) K:=by
 obtain⟨fg,ik⟩:=iJ hn;have o7:=hn.st;have wo:=hn.nl;obtain⟨S,hS⟩:∃S:Nat,n.s.toNat=S:=⟨_,rfl⟩;rw[hS]at fg ik;obtain⟨T,hT⟩:∃T:P',T=ss.map (·.b):=⟨_,rfl⟩;have Ak:T.length=ss.length:=by rw[hT,xa]
 have Gq:∀(i:Nat)(s:CD),ss[i]?=some s->T[i]?=some s.b:=λi s h=>by rw[hT,ya,h];rfl
 have hTr:∀r∈T,r.length=S:=λr hr=>by
  rw[hT]at hr;obtain⟨s,h,rfl⟩:=sa.1 hr;rw[(hs s h).bl hn,hS]
 have hTb:Ms 40000 T:=λr hr=>by
  rw[hT]at hr;obtain⟨s,h,rfl⟩:=sa.1 hr;exact(hs s h).bb
 have xq:=λq q'=>mY N.tov7 q q' T 40000 hTb (by rw[nO hTr,Ak];have:=ob hm (show S<=4 by omega);omega) O' O'
 rw[<-hT]at hE;rw[<-hE]at xq;have Kd:=λ(s:CD)(va:s∈ss)(q:Bool)=>mZ N.tov7 q s.b E 40000 960000 (hs s va).bb Aj O' O' (by have:=(hs s va).bl hn;omega)
 have lf:∀s∈ss,s.b.length=S:=λs h=>by rw[(hs s h).bl hn,hS]
 have Nv:∀s∈ss,∀(j:Nat)(v:Int),n.next[j]?=some v->s.b[j]?=some (s.g.getD v.toNat 0):=λs h j v hv=>by
  rw[(hs s h).b,XT,ya,hv];rfl
 have zf:∀s∈ss,s.g.length=S+1+n.nodes.length:=λs h=>by rw[(hs s h).gl,hS]
 have hmz:=AlI ss P;have hmf:=AlH ss P;rw[hS]at hK⊢;refine cW ?_;unfold cZ at hX;rcases hX with⟨rfl,rfl⟩|⟨rfl,rfl⟩|⟨rfl,rfl⟩
 all_goals
  refine EZ 1000 N.LE rfl rfl ?_;(repeat' (apply AE<;>conv=>whnf))
  unfold C2;refine⟨⟨O',O',by simp only[E7];omega,O'⟩,?_⟩;rw[Ga];conv=>whnf
  skip
  refine EA (λi=>ss.length-i) (λ(i:Nat)=>i<=ss.length) (λi=>[(19,.int .i64 i)]) (λi=>[(355016,355016,.mx (GY S T i))]) [] [] 0 (by rw[Agg,Ak];exact E') O' ?_;intro i p1 ih;have il:=Agb (S:=S) (T:=T) (i:=i) O';by_cases hi:i<ss.length
  ·obtain⟨s,mc⟩:=N' ss i hi
   have gq:=zM mc;have po:=Gq i s mc;have ABw:=lf s gq;have ABN:=zf s gq;have Gw:=Nv s gq;have jj:=Agd (S:=S) (T:=T) (i:=i) O';have bz:=λh0:S≠0=>Agf h0 po
   have pg:S=0->GY S T i=GY S T (i+1):=λh=>by subst h;exact Age _ _
   generalize GY S T i=R0 at*;repeat' (first|apply AG<;>intro hc<;>try omega|apply A4;omega|apply AP|refine VE ?_ (λ_=>rfl) (λv hv=>?_);omega|apply AE)<;>conv=>whnf
   cases mc.symm.trans hv;skip
   rcases cg S with h0|h0
   ·have Qa:=pg h0
    refine I5 ?_;repeat' (first|apply AG<;>intro hc<;>try omega|apply AR;omega|apply AE)<;>conv=>whnf
    rw[Qa];exact BF [] (ih (i+1) O' O')
   ·have bz:=bz O'
    have gk:∀j,j<S->∃(v:Int) (x:Rat),n.next[j]?=some v/\n.next[(j:Int).toNat]?=some v/\0<=v/\s.g[v.toNat]?=some x/\s.b[j]?=some x:=λj hj=>by
     obtain⟨v,hv⟩:=N' n.next j
     obtain⟨h1,h2⟩:=ik v (zM hv);obtain⟨x,hx⟩:=N' s.g v.toNat;exact⟨v,x,hv,hv,h1,hx,by rw[Gw j v hv,nT hx]⟩
    obtain⟨v0,x0,q1,q2,q3,q4,q5⟩:=gk 0 h0;have qe:s.b.take 1=[x0]:=by rw[zb,q5];rfl
    clear pg Gw;refine I5 ?_;repeat' (first|apply AG<;>intro hc<;>try omega|apply A4;omega|refine A5 V' ?_ rfl ?_;omega|apply AE)<;>conv=>whnf
    refine dE (r:=none) (by rw[Mb,Ga];exact jj) ?_;conv=>whnf
    repeat' (first|refine A5 V' ?_ rfl ?_;omega|apply CT)<;>conv=>whnf
    refine MH (enc:=eQ) x0 rfl rfl O' ?_;conv=>whnf
    repeat' (first|apply A4;omega|fail)<;>conv=>whnf
    refine A4 rfl ?_;refine ZY (i:=i) O' O' ?_;conv=>whnf
    repeat' (first|apply AR;omega|fail)<;>conv=>whnf
    refine EA (λj=>S-j) (λ(j:Nat)=>1<=j/\j<=S) (λj=>[(27,.int .i64 j)]) (λj=>[(355016,355016,.mx (R0.set i (some (3,(s.b.take j).map eQ))))]) [] [] 1 (by first|exact E'|(rw[qe];exact E')) O' ?_;intro j ⟨r1,r2⟩ jh;by_cases hj:j<S
    ·obtain⟨v1,x1,e1,e2,e3,e4,e5⟩:=gk j hj
     have o7:=KQ e5;have htj:(s.b.take j).length=j:=by rw[za];omega
     have Dn:(s.b.take (j+1)).length=j+1:=by rw[za];omega
     generalize s.b.take j=W at*;repeat' (first|apply AG<;>intro hc<;>try omega|apply A4;omega|refine A5 V' ?_ rfl ?_;omega|apply AE)<;>conv=>whnf
     refine tW O' O' ?_;conv=>whnf
     repeat' (first|refine A5 V' ?_ rfl ?_;omega|apply CT)<;>conv=>whnf
     refine tU O' O' ?_;conv=>whnf
     refine DH (enc:=eQ) x1 rfl (by rw[xa]) rfl O' O' ?_;intro s' v;rw[<-o7,Dn];conv=>whnf
     repeat' (first|apply A4;omega|fail)<;>conv=>whnf
     refine A4 ⟨rfl,by rw[xa];omega⟩ ?_;refine ZY (i:=i) O' (by rw[xc,xc];omega) ?_;rw[show 0+((i:Int)).toNat=i by omega,Oe,Oe];conv=>whnf
     repeat' (first|apply AR;omega|fail)<;>conv=>whnf
     exact BF [] (jh (j+1) O' O')
    have ej:j=S:=O'
    clear jh;rw[ej,zT O',bz];repeat' (first|apply AG<;>intro hc<;>try omega|apply AR;omega|apply AE)<;>conv=>whnf
    exact BF [] (ih (i+1) O' O')
  have ei:i=T.length:=O'
  clear ih il;rw[ei];rcases cg S with h0|h0
  focus
   have hTe:∀r∈T,r=[]:=λr hr=>Qd.1 ((hTr r hr).trans h0)
   have ym:∀q,Ev L 295 [.sl q (ja T.length [.sl false []])] (.agg (eQ E)):=λq=>by
    have:=xq q false
    rwa [Aic false hTe]at this
   rw[show GY S T T.length=ja T.length none by rw[h0,Agc]];repeat' (first|apply AG<;>intro hc<;>try omega|apply AE)<;>conv=>whnf
   refine Afo rfl O' ?_;conv=>whnf
   (repeat' (refine AD (ym _) ?_<;>conv=>whnf))
  rotate_left
  focus
   rw[Aga O'];repeat' (first|apply AG<;>intro hc<;>try omega|apply AE)<;>conv=>whnf
   refine VH (λ_=>rfl) rfl Ak.symm ?_;conv=>whnf
   (repeat' (refine AD (xq _ _) ?_<;>conv=>whnf))
  all_goals
   refine EA (λi=>ss.length-i) (λ(i:Nat)=>i<=ss.length) (λi=>[(51,.int .i64 i)]) (λi=>[(356057,356057,.rw 8 (L6 ss P i))]) [] [] 0 (by rw[hmz];exact E') O' ?_;intro i p1 ih;by_cases hi:i<ss.length
   ·obtain⟨s,mc⟩:=N' ss i hi
    have gq:=zM mc;have po:=Gq i s mc;have hW':=hW s gq;have hP':=hP s;have hln:=Als (P s).1 (P s).2;have Kl:=Amj (T:=(P s).2) hP';have Cd:=Kd s gq;have pn:=λ(K:v_->Prop)=>Afq (P:=P) (K:=K) mc
    first
    |(have hbe:s.b=[]:=Qd.1 ((lf s gq).trans O')
      rw[hbe]at hW' Cd;have hTn:∀q,Ev L 296 [.sl q [],.agg (eQ E)] (.sl false ((([]:o_).map (· * E)).map eQ)):=Cd;repeat' (first|apply AG<;>intro hc<;>try omega|apply A4;omega|apply AE)<;>conv=>whnf
      refine dE (r:=none) (by rw[Mb,Ga,Md,if_pos O']) ?_;conv=>whnf
      (repeat' (first|refine AD (hTn _) ?_|refine AD (hW') ?_)<;>conv=>whnf))
    |(repeat' (first|apply AG<;>intro hc<;>try omega|apply A4;omega|(refine C6 (λ_=>rfl) rfl ?_ ?_;(first|rfl|simp))|refine Ae4 ?_ (λr hr=>?_);omega|refine Ae0 V' ?_|apply AE)<;>conv=>whnf
      cases po.symm.trans hr;(repeat' (first|refine AD (Cd _) ?_|refine AD (hW') ?_)<;>conv=>whnf))
    refine tS Kl trivial ?_;rw[hln];conv=>whnf
    refine A4 O' ?_;conv=>whnf
    refine pn _ ?_;conv=>whnf
    repeat' (first|apply AR;omega|fail)<;>conv=>whnf
    exact BF [] (ih (i+1) O' O')
   have ei:i=ss.length:=O'
   clear ih;rw[ei,hmf];repeat' (first|apply AG<;>intro hc<;>try omega|apply AE)<;>conv=>whnf
   refine⟨rfl,?_⟩;conv=>whnf
   refine⟨_,?_,hK⟩;first|exact⟨rfl,rfl,rfl,rfl,rfl,rfl,rfl,trivial⟩|exact⟨rfl,rfl,rfl,rfl,rfl,rfl,rfl,rfl,trivial⟩
def JM(n:Nt)(p:Nat)(D E:Rat)(s:CD):List (o_)×Rat:=((Oa (p+p)).map (F4 (aN n) s.b D E),GM D (λm=>C0 (F4 (aN n) s.b D E (p+m))) p)
theorem Amr{n:Nt}{p:Nat}(hp:1<=p)(D E:Rat)(s:CD):(JM n p D E s).1≠[]:=by
 intro e;have:=congrArg ph e
 simp[JM]at this;omega
theorem Anb{x:Rat}(h:0<x):0<w6 x.num:=by
 have:=(WU (x:=x) (y:=0)).2 h
 rwa [qg,wh,zc]at this
theorem Ana{x:Rat}(h:¬0<x):w6 x.num<=0:=by
 refine Dh.1 λh2=>h ((WU (x:=x) (y:=0)).1 ?_)
 rwa [qg,wh,zc]
abbrev bG(n:Nt)(p:Nat)(D E:Rat):Mem :=
 [(356004,356004,.bx [.row 356017 0 1 0 n.s.toNat]),(356017,356017,.mx (E2 3 eQ (FL n))),(356009,356009,.bx (IW false (CH D (aN n)) D (p:Int) (D^(p+p-1)))),(356014,356014,.bx (eQ E)),(356011,356011,.bx [.row 356057 0 8 0 (y6 n).length]),(356057,356057,.rw 8 ((y6 n).map (K3 true (JM n p D E))))]
theorem Ags(I:a8 L)(N:x7 L)(n:Nt)(hn:DU n)(X:Mem)(ks:u_)(sc:Nat)(hX:cZ n sc X ks)(K:AV->Mem->Prop)
  (h1:∀i,i<=6->GP n.s.toNat (aN n) i->K (.j5 [.fn false 354 (L.num 354) [.ptr 356004 0 0 0,.ptr 356009 0 0 0,.ptr 356014 0 0 0,.ptr 356011 0 0 0],.int .i64 0]) (X++bG n (2^i) (HN (aN n).flatten) (aC n)))
  (h2:(∀j,j<=6->ES (CI n.s.toNat (aN n) j)=false)->K (.j5 [.y8 .nilFunc,.int .i64 14]) X) :
  A2 L 356 [.agg (B2 n)] (ZF ks) X K:=by
 obtain⟨fg,ik⟩:=iJ hn;have o7:=hn.st;have wo:=hn.nl;have nu:=(C1 n).1 hn.er;obtain⟨_,_,⟨pe,_⟩,_⟩:=nu;obtain⟨S,hS⟩:∃S:Nat,n.s=(S:Int):=⟨n.s.toNat,O'⟩;have vm:n.s.toNat=S:=O'
 have hGR:∀j:Nat,j<S->NS L 351 [.agg (B2 n),.int .i64 (1+(j:Int))] 3 ((GZ n (1+j)).map eQ):=λj hj=>by
  have:=AiN N n (1+j) hn O'
  rwa [show((1+j:Nat):Int)=1+(j:Int)by omega]at this
 have Mp:Ev L 351 [.agg (B2 n),.int .i64 0] (.sl false ((GZ n 0).map eQ)):=yN N n 0 hn O';have hGk:∀k:Nat,k<n.nodes.length->Ev L 351 [.agg (B2 n),.int .i64 (1+n.s+(k:Int))] (.sl false ((GZ n (1+S+k)).map eQ)):=λk hk=>by
  have:=yN N n (1+S+k) hn O'
  rwa [show((1+S+k:Nat):Int)=1+n.s+(k:Int)by omega]at this
 have zf:=gF hn;rw[vm]at zf;have qz:=JG N.toa6 1 O';rw[show((1:Int):Rat)=1 from rfl]at qz;have u6:=eK n;rw[vm]at u6;have Gy:=λ(j:Nat)(hj:j<S)=>AgZ (n:=n) (j:=j) O'
 obtain⟨v,Nf,hv⟩:=Ajc N.tov7 true false (aN n) S 40000 (by have:=QT hn;rwa [vm]at this) (dT hn) O' O';have Ka:=λ(v:Nat)(hv:v<S+1+n.nodes.length)(q q':Bool)=>zB N q q' (FL n) v O' (λc hc=>by have:=wA hn c hc;omega)
 rw[vm]at h1 h2 ik fg;have na:(aN n).length=S:=by rw[(QT hn).l,vm]
 have Kz:=QT hn;rw[vm]at Kz;obtain⟨D,E,sw,oo,Fz,Mi,vk,Aj,Mh,lq⟩:=Wp hn;generalize hC:FL n=C at*;have yy:=λp hW hP K hK=>Agt N n hn X ks sc hX (CH (D:Rat) (aN n)) (D:Rat) ((D:Rat)^(p+p-1)) (E:Rat) p C (y6 n) (JM n p D E) (ZA hn) (Adm hn).2 oo.symm Aj hW hP K hK
 rw[vm]at yy;refine cW ?_;unfold cZ at hX;rcases hX with⟨rfl,rfl⟩|⟨rfl,rfl⟩|⟨rfl,rfl⟩
 all_goals
  refine I7 1000 N.LD rfl rfl ?_;(repeat' (apply AE<;>conv=>whnf))
  unfold C2;refine⟨⟨O',O',by simp only[E7];omega,O'⟩,?_⟩;rw[vm];conv=>whnf
  skip
  refine EA (λi=>S-i) (λ(i:Nat)=>i<=S) (λi=>[(20,.int .i64 i)]) (λi=>[(356017,356017,.mx (mz C S i))]) [] [] 0 (by rw[pR];exact E') O' ?_;intro i p1 ih;have Fc:=pP (Q:=C) p1;by_cases hi:i<S
  ·have o7:=pQ (Gy i hi) hi
   have hG:=hGR i hi;generalize mz C S i=R0 at*;repeat' (first|apply AG<;>intro hc<;>try omega|apply AR;omega|apply AE)<;>conv=>whnf
   refine cY (enc:=eQ) (S+1+n.nodes.length) hG (zf _).symm ?_;conv=>whnf
   repeat' (first|apply A4;omega|fail)<;>conv=>whnf
   refine A4 (by rw[xa,zf]) ?_;refine ZY (i:=i) O' O' ?_;rw[o7];conv=>whnf
   repeat' (first|apply AR;omega|fail)<;>conv=>whnf
   exact BF [] (ih (i+1) O' O')
  have ei:i=S:=O'
  clear ih;rw[ei,pO O'];repeat' (first|apply AG<;>intro hc<;>try omega|apply AP|apply AE)<;>conv=>whnf
  refine EA (λj=>S-j) (λ(j:Nat)=>j<=S) (λj=>[(34,.int .i64 j),(6,.row 356006 0 1 0 j)]) (λj=>[(356006,356006,.rw 1 (((aN n).take j).map λr=>[AV.sl false (r.map eQ)]))]) [] [] 0 (by rw[xb];exact E') O' ?_;intro j r1 jh;by_cases hj:j<S
  ·obtain⟨w,hw⟩:∃w:Nat,n.next[j]?=some (w:Int):=by
    obtain⟨v,hv⟩:=N' n.next j
    have:=(ik v (zM hv)).1
    exact⟨v.toNat,by rw[hv];congr 1;omega⟩
   have hw':n.next[(j:Int).toNat]?=some (w:Int):=hw
   have hwl:=(ik w (zM hw)).2;have hR:=Ka w O';have haj:(aN n)[j]?=some (E8 C w):=by rw[aN,ya,hw,hC];rfl
   have dp:((aN n).take j).length=j:=by rw[za];omega
   have Qh:((aN n).take (j+1)).length=j+1:=by rw[za];omega
   have mq:=KQ haj;generalize (aN n).take j=W at*;repeat' (first|apply AG<;>intro hc<;>try omega|refine A5 V' ?_ rfl ?_;omega|apply AE)<;>conv=>whnf
   refine VH (λ_=>rfl) rfl u6.symm ?_;conv=>whnf
   repeat' (first|apply CT|refine AD (hR _ _) ?_)<;>conv=>whnf
   refine DH (l:=W) (z:=1) (bytes:=24) (enc:=λr:o_=>[AV.sl false (r.map eQ)]) (E8 C w) rfl dp.symm rfl O' O' ?_;conv=>whnf
   rw[<-mq,Qh];repeat' (first|apply AR;omega|fail)<;>conv=>whnf
   exact BF [(356006,356043)] (jh (j+1) O' O')
  have ej:j=S:=O'
  clear jh;rw[ej,zT O'];repeat' (first|apply AG<;>intro hc<;>try omega|apply AE)<;>conv=>whnf
  refine C6 (enc:=λr:o_=>[AV.sl false (r.map eQ)]) (λ_=>rfl) rfl na.symm ?_;conv=>whnf
  rcases hv with⟨i,i1,i2,rfl⟩|⟨jj,rfl⟩
  ·obtain⟨g1,_,g3⟩:=RH i1
   have vj:=h1 i i1 i2;clear h1 h2 Ka hGR Gy;rw[sw]at Nf vj;rw[oo]at vj;generalize 2^i=p at*;repeat' (first|apply AG<;>intro hc<;>try omega|apply AP|refine AD (Nf) ?_|refine AD (Mp) ?_|refine AD (qz) ?_)<;>conv=>whnf
   have hWk:∀s∈y6 n,Ev L 304 [.agg (IW false (CH (D:Rat) (aN n)) (D:Rat) (p:Int) ((D:Rat)^(p+p-1))),.sl false ((s.b.map (· * (E:Rat))).map eQ)] (.agg (V0 (JM n p D E s).1 (JM n p D E s).2)):=λs hs=>by
    have:=Ajd N.tov7 false (CH (D:Rat) (aN n)) (D:Rat) ((D:Rat)^(p+p-1)) (F4 (aN n) s.b D E) S p 680000 640000 90000000 (Wr _ Kz) Mh vk (lq s hs) (λj=>by rw[F4,xa,sZ na ((ZA hn s hs).bl hn |>.trans vm)]) (tC _ _ _ _) O' ⟨g3,g1⟩ O' O' O'
    rwa [tD]at this
   have Na:=Amr (n:=n) g3 (D:Rat) (E:Rat);refine DG (λk=>n.nodes.length-k) (λ(k:Nat)=>k<=n.nodes.length) (λk=>[(61,.int .i64 k)]) (λk=>[(356011,356011,.bx [.row 356057 0 8 0 (FE n 0 1::D6 n k).length]),(356057,356057,.rw 8 ((FE n 0 1::D6 n k).map (K3 false (JM n p D E))))]) 0 O' ?_;intro k k1 kh;have dp:=jU n k;have mq:=sB n k;by_cases hk:k<n.nodes.length
   ·obtain⟨nd,hnd⟩:=N' n.nodes k hk
    have uc:n.nodes[(k:Int).toNat]?=some nd:=hnd;have Jw:=AiW N n hn k nd hnd;have Gj:=nJ N.toa6 (WE n nd).1 O';have hgk:=hGk k hk;rw[Y8,hnd]at mq;by_cases hp:0<EK n nd
    ·have zp:=Anb hp
     simp only[if_pos hp,db]at mq;generalize Hm:FE n 0 1::D6 n k=ls at*;have ij:(FE n 0 1::D6 n (k+1))=ls++[FE n (1+n.s.toNat+k) (EK n nd)]:=by rw[mq,<-Hm];rfl
     have ub:ls.length<=6:=by rw[<-Hm,Hb];omega
     have jd:(FE n 0 1::D6 n (k+1)).length=ls.length+1:=by rw[ij,ga];rfl
     repeat' (first|apply AG<;>intro hc<;>try omega|apply AR;omega|apply CT|apply AE|refine AD (Jw) ?_|refine AD (Gj) ?_|refine AD (hgk) ?_)<;>conv=>whnf
     refine DH (l:=ls) (z:=8) (bytes:=160) (enc:=K3 false (JM n p D E)) (FE n (1+n.s.toNat+k) (EK n nd)) (by rw[vm];rfl) rfl rfl O' O' ?_;conv=>whnf
     rw[<-ij];repeat' (first|apply AR;omega|fail)<;>conv=>whnf
     exact BF [(356057,356081)] (kh (k+1) O' O')
    ·have zp:=Ana hp
     simp only[if_neg hp,zd,mb]at mq;repeat' (first|apply AG<;>intro hc<;>try omega|apply AR;omega|apply AE|refine AD (Jw) ?_|refine AD (Gj) ?_)<;>conv=>whnf
     rw[<-mq];exact BF [] (kh (k+1) O' O')
   have ek:k=n.nodes.length:=O'
   clear kh;rw[ek,show FE n 0 1::D6 n n.nodes.length=y6 n from rfl];have yy:=λK hK=>yy p hWk Na K hK
   unfold bG at vj;rw[vm,hC]at vj;repeat' (first|apply AG<;>intro hc<;>try omega|apply AE)<;>conv=>whnf
   refine cX _ _ ?_ ?_ (yy _ ?_)
   ·first|exact⟨rfl,rfl,rfl,rfl,rfl,rfl,rfl,trivial⟩|exact⟨rfl,rfl,rfl,rfl,rfl,rfl,rfl,rfl,trivial⟩
   ·rfl
   (conv=>whnf)
   skip
   refine⟨rfl,_,rfl,?_⟩;conv=>whnf
   refine⟨_,?_,vj⟩;first|exact⟨rfl,rfl,rfl,rfl,rfl,rfl,rfl,trivial⟩|exact⟨rfl,rfl,rfl,rfl,rfl,rfl,rfl,rfl,trivial⟩
  ·repeat' (first|apply AG<;>intro hc<;>try omega|refine AD (Nf) ?_)<;>conv=>whnf
   refine⟨rfl,_,rfl,?_⟩;conv=>whnf
   refine⟨_,?_,h2 jj⟩;first|exact⟨rfl,trivial⟩|exact⟨rfl,rfl,trivial⟩
end Go.e9
