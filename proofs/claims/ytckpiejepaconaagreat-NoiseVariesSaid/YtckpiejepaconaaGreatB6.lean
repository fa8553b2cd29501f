/-
  Networks (layer 22): the reference's Linear and Inject, and SameSystems.
-/
import Derived.Test.YtckpiejepaconaaGreatB5
import Derived.Test.YtckpiejepaconaaGreatB3
import Derived.Test.YtckpiejepaconaaGreatB1
import Derived.Test.YtckpiejepaconaaGreatB4
set_option linter.unusedSimpArgs false
set_option linter.unusedVariables false
set_option linter.unnecessarySimpa false
set_option maxHeartbeats 40000000
open Bool renaming and_eq_true->Gd,and_true->je,and_false->Og
open Function renaming comp_def->ke
open Int renaming natAbs_natCast->Kb,toNat_natCast->zc,natAbs_neg->mf,natAbs_mul->lf,toNat_of_nonneg->qg
open List renaming length_map->za,getD_eq_getElem?_getD->ya,length_take->xa,getElem?_map->sa,replicate->qa,mem_map->oa,length_append->ga,range->Qa,length_set->Oa,mem_singleton->Ma,take_zero->Ha,mem_append->Ga,all_eq_true->Fa,getElem?_range->Ba,range_succ->yb,map_map->xb,length_drop->tb,drop_of_length_le->nb,map_congr_left->Qb,take_add_one->Ob,getElem?_of_mem->Jb,append_nil->Ib,mem_or_eq_of_mem_set->Fb,length_cons->Eb,mem_cons_self->xc,nil_append->tc,mem_cons_of_mem->pc,map_append->kc,map_cons->Qc,map_nil->Nc,drop_eq_getElem_cons->Lc,mem_cons->Gc,getElem?_set->Dc,flatten_cons->Cc,drop_zero->Ac,mem_of_mem_take->ud,length_nil->pd,flatten_append->od,length_range->cd,append_assoc->Qd,not_mem_nil->Md,getElem_mem->Ld,getElem?_eq_none->Cd,mem_of_mem_drop->ze,length_zipWith->oe,getElem?_drop->ie,map_set->Oe,take_length->Ie,mem_flatten->He,eq_nil_of_length_eq_zero->Ge,mem_range->vf,getElem?_append_right->tf,take_append_drop->Qf,set_append_right->Pf,getElem?_zipWith->Mf,map->Lf,drop_succ_cons->zg,set_cons_zero->xg,map_singleton->ug,cons_append->ig,set_set->Lg,map_id'->Kg
open Nat renaming le_refl->zb,succ_mul->Cb,le_trans->oc,min_eq_left->Fc,pow_le_pow_right->te,mul_le_mul->qe,one_le_two_pow->Re,sub_self->Le,pow_succ->Ke,add_comm->Je,pow_add->Fe,lt_succ_iff_lt_or_eq->bf,zero_add->Rf,one_mul->Ef,mul_two->Cf,mul_le_mul_left->yg,le_max_right->gg,le_max_left->ag,lt_irrefl->Ng,pow_zero->Hg,zero_le->Cg
open Option renaming map_some->Ab,some.inj->uc,getD_some->Oc,toList_some->Jc
open Prod renaming snd->xh
open Rat renaming mul_le_mul_of_nonneg_left->Ra,mul_nonneg->Na,intCast_natCast->Ja,le_trans->gb,mul_le_mul_of_nonneg_right->Db,natCast_mul->yc,intCast_mul->fc,le_refl->Ec,pow_zero->zd,mul_inv_cancel->kd,mul_one->Od,zero_mul->Ed,pow_succ->Dd,div_def->ve,natCast_nonneg->ae,mul_comm->Me,num_natCast->Ee,natCast_inj->De,den_natCast->Ce,mul_assoc->ff,one_mul->Jf,neg_num->Hf,neg_den->Gf,div_mul_cancel->og,divInt->kg,intCast_inj->fg,mul_zero->Ig,mul_add->Eg,add_mul->Dg
namespace Go.c6
open F
attribute [local irreducible] AA AF AL AC CQ AW BA A8 B3 BL CN D4 BP A1 B6 CF AB BG AH pw BV BO CS CY C2 BX CG BU CX
variable {L:Lib}
set_option maxRecDepth 8000
abbrev eV (r:K'):u_:=[.sl false (r.map eQ)]
def EN (n:Nt) (R:J'):G7 where
 a:=n.next.map λ e=>(R.getD e.toNat []).take n.s.toNat
 b:=n.next.map λ e=>(R.getD e.toNat []).getD n.s.toNat 0
 c:=(R.getD n.out.toNat []).take n.s.toNat
 d:=(R.getD n.out.toNat []).getD n.s.toNat 0
theorem yN (N:v3 L) (n:Nt) (R:J') (hv:HR n=true) (hR:(R.length:Int)=1+n.s+n.nodes.length) (hr : ∀ r∈R,r.length=n.s.toNat+1) :
  Ev L 164 [.agg (FG n),.sl false (R.map eV)] (.agg (eS (EN n R))):=by
 rw[E7]at hv;obtain ⟨h1,h2,h3,h4,h5,h6⟩:=hv;have ml : ∀ e∈n.next,0<=e/\e<=n.s+n.nodes.length:=λ e he=>by simpa using Fa.1 h5 e he
 obtain ⟨m,hm⟩ : ∃ m:Nat,n.s=m:=⟨n.s.toNat,(qg O').symm⟩;have qp:n.s.toNat=m:=O'
 obtain ⟨ro,Au⟩:=H' R n.out.toNat;have AAX:=hr ro (zM Au);obtain ⟨x,hx⟩:=H' ro m;have dv:ro[(m:Int).toNat]? = some x:=hx;have ib:(EN n R).c=ro.take m:=by simp only[EN,ya,Au,qp,Oc]
 have vb:(EN n R).d=x:=by simp only[EN,ya,Au,qp,Oc,hx]
 have y9:(EN n R).a.length=m:=by simp [EN];omega
 have da:(EN n R).b.length=m:=by simp [EN];omega
 refine Ev.x N.PU rfl rfl ?_;repeat' (first|(refine A4 V' ?_ rfl ?_;omega)|apply AE)<;>conv=>whnf
 rw[hm];refine M5 (λ_=>rfl) O' ?_;conv=>whnf
 repeat' (first|(refine A4 V' ?_ rfl ?_;omega)|fail)<;>conv=>whnf
 refine FJ (λ i _=>m-i) (λ(i:Nat) (f3:Bool)=>i<=m/\f3=decide (i=0)) (λ i f3=>[(6,.int .i64 i)]) (λ i f3=>bif f3 then [] else [(5,5,.bx ([.row 45 0 1 0 i,.row 62 0 3 0 i,.sl false ((ro.take m).map eQ)]++eQ x)),(45,45,.rw 1 (((EN n R).a.take i).map eV)),(62,62,.rw 3 (((EN n R).b.take i).map eQ))]) 0 true ⟨O',rfl⟩ ?_;intro i f3 ⟨p1,p2⟩ ih;by_cases hi:i<m
 ·obtain ⟨e,he⟩:=H' n.next i
  have Rg:n.next[(i:Int).toNat]? = some e:=he
  have Oh:=ml e (zM he);obtain ⟨re,Qg⟩:=H' R e.toNat;have Iz:=hr re (zM Qg);obtain ⟨y,hy⟩:=H' re m;have vl:re[(m:Int).toNat]? = some y:=hy;have ha:(EN n R).a[i]? = some (re.take m):=by simp only[EN,sa,he,Ab,ya,Qg,qp,Oc]
  have hb:(EN n R).b[i]? = some y:=by simp only[EN,sa,he,Ab,ya,Qg,qp,Oc,hy]
  have Qw:((EN n R).a.take i).length=i:=by rw[xa];omega
  have pz:((EN n R).b.take i).length=i:=by rw[xa];omega
  have Qx:((EN n R).a.take (i+1)).length=i+1:=by rw[xa];omega
  have Qy:((EN n R).b.take (i+1)).length=i+1:=by rw[xa];omega
  have hsa:=NV ha;have uk:=NV hb;cases f3
  ·repeat' (first|(apply AG<;>intro hc<;>try omega)|(refine A4 V' ?_ rfl ?_;omega)|apply AE)<;>conv=>whnf
   refine M5 (λ_=>rfl) O' ?_;conv=>whnf
   (repeat' (apply DG<;>conv=>whnf))
   refine EE (enc:=eV) (re.take m) rfl Qw.symm rfl O' O' ?_;rw[<-hsa,Qx];conv=>whnf
   repeat' (first|(refine A4 V' ?_ rfl ?_;omega)|apply DG)<;>conv=>whnf
   refine EE (enc:=eQ) y rfl pz.symm rfl O' O' ?_;rw[<-uk,Qy];conv=>whnf
   repeat' (first|(apply AP;omega)|fail)<;>conv=>whnf
   exact A9 [(45,1000045),(62,1000062)] (ih (i+1) false O' ⟨O',Z'⟩)
  ·obtain rfl:i=0:=by simpa using p2.symm
   repeat' (first|(apply AG<;>intro hc<;>try omega)|(refine A4 V' ?_ rfl ?_;omega)|apply AE)<;>conv=>whnf
   refine M5 (λ_=>rfl) O' ?_;conv=>whnf
   (repeat' (apply DG<;>conv=>whnf))
   refine RR (enc:=eV) (re.take m) rfl rfl O' ?_;rw[show [re.take m]=(EN n R).a.take (0+1) by rw[hsa];rfl];conv=>whnf
   repeat' (first|(refine A4 V' ?_ rfl ?_;omega)|apply DG)<;>conv=>whnf
   refine RR (enc:=eQ) y rfl rfl O' ?_;rw[show [y]=(EN n R).b.take (0+1) by rw[uk];rfl];conv=>whnf
   repeat' (first|(apply AP;omega)|fail)<;>conv=>whnf
   exact A9 [] (ih (0+1) false O' ⟨O',Z'⟩)
 ·obtain rfl:i=m:=O'
  clear ih;rw[zT (show (EN n R).a.length<=i by omega),zT (show (EN n R).b.length<=i by omega)];cases f3
  ·repeat' (first|(apply AG<;>intro hc<;>try omega)|apply AE)<;>conv=>whnf
   refine C8 (enc:=eV) (λ_=>rfl) rfl y9.symm ?_;conv=>whnf
   refine C8 (enc:=eQ) (λ_=>rfl) rfl da.symm ?_;conv=>whnf
   exact AY (by rw[<-vb,<-ib];rfl) (V6 _)
  ·obtain rfl:i=0:=by simpa using p2.symm
   have Hh:(EN n R).a=[]:=Ge y9;have zf:(EN n R).b=[]:=Ge da;repeat' (first|(apply AG<;>intro hc<;>try omega)|apply AE)<;>conv=>whnf
   exact AY (by rw[<-vb,<-ib,eS,Hh,zf];rfl) (V6 _)
theorem AfB (n:Nt) (inj:Int) (j:Nat) (hj:j<n.s.toNat):FX n inj n.nodes.length j=BR n ((j:Int)+1) (-1):=by
 have j9:(CR n).length=n.nodes.length:=by simp [CR]
 rw[FX,<-j9,Ie,LW,ZA,if_pos hj,if_pos hj];rfl
theorem AfA (n:Nt) (inj:Int):FX n inj n.nodes.length n.s.toNat=if inj<0 then BR n 0 (-1) else BR n (-1) inj:=by
 have j9:(CR n).length=n.nodes.length:=by simp [CR]
 rw[FX,<-j9,Ie];unfold LW ZA;rw[if_neg (Ng _),if_neg (Ng _)];by_cases h:inj<0
 ·simp only[if_pos h];rfl
 ·simp only[if_neg h];rfl
theorem iQ (n:Nt) (inj:Int) {m:Nat} (hm:m<(1+n.s).toNat+n.nodes.length):(HC n inj n.nodes.length).getD m []=EM n inj n.nodes.length m:=by
 rw[ya,HC,sa,Ba hm];rfl
theorem Vy (n:Nt) (inj:Int) (m:Nat):(EM n inj n.nodes.length m).take n.s.toNat=(Qa n.s.toNat).map λ(j:Nat)=>(BR n ((j:Int)+1) (-1)).getD m 0:=by
 rw[EM,<-List.map_take,yb,List.take_append_of_le_length Z',zT Z'];refine Qb λ j hj => ?_
 rw[AfB n inj j (vf.1 hj)]
theorem Vx (n:Nt) (inj:Int) (m:Nat):(EM n inj n.nodes.length m).getD n.s.toNat 0=(if inj<0 then BR n 0 (-1) else BR n (-1) inj).getD m 0:=by
 rw[EM,ya,sa,Ba O',Ab,Oc,AfA]
theorem Yf (n:Nt) (inj:Int) (hv:HR n=true):EN n (HC n inj n.nodes.length)=if inj<0 then BD n else DS n inj:=by
 rw[E7]at hv;obtain ⟨h1,h2,h3,h4,h5,h6⟩:=hv;have ml : ∀ e∈n.next,0<=e/\e<=n.s+n.nodes.length:=λ e he=>by simpa using Fa.1 h5 e he
 have ea:(EN n (HC n inj n.nodes.length)).a=(BD n).a:=by
  simp only[EN,BD];refine Qb λ e he => ?_
  have:=ml e he
  rw[iQ n inj O',Vy]
 have ec:(EN n (HC n inj n.nodes.length)).c=(BD n).c:=by
  simp only[EN,BD];rw[iQ n inj O',Vy]
 have eb:(EN n (HC n inj n.nodes.length)).b=n.next.map λ e=>(if inj<0 then BR n 0 (-1) else BR n (-1) inj).getD e.toNat 0:=by
  simp only[EN];refine Qb λ e he => ?_
  have:=ml e he
  rw[iQ n inj O',Vx]
 have ed:(EN n (HC n inj n.nodes.length)).d=(if inj<0 then BR n 0 (-1) else BR n (-1) inj).getD n.out.toNat 0:=by
  simp only[EN];rw[iQ n inj O',Vx]
 generalize EN n (HC n inj n.nodes.length)=S at *;obtain ⟨a,b,c,d⟩:=S;simp only at ea eb ec ed;subst ea eb ec ed;split<;>rfl
theorem xA (I:e8 L) (N:v3 L) (n:Nt) (hv:HR n=true) (cr:K3 (CR n)) (ju:n.nodes.length<=5):Ev L 165 [.agg (FG n)] (.c5 [.agg (eS (BD n)),.int .i64 0]):=by
 have hV:=aI n I N.tow6;rw[hv]at hV;have hR:=yI N n (-1) hv cr ju (by unfold EB;omega);have h3:=(E7 n).1 hv;have hS:=yN N n (HC n (-1) n.nodes.length) hv (by rw[iP];omega) (λ r hr=>by
  obtain ⟨m,_,rfl⟩:=oa.1 hr;exact XB _ _ _ _)
 rw[Yf n (-1) hv,if_pos O']at hS;refine Ev.x N.U5 rfl rfl ?_;repeat' (first|apply AE|refine AD (hV) ?_|refine AD (hR) ?_|refine AD (hS) ?_)<;>conv=>whnf
 refine AY rfl ?_;simp only[A3,B7,and_true];exact V6 (BD n)
theorem Ahr (I:e8 L) (N:v3 L) (n:Nt) (node:Int) (hv:HR n=true) (cr:K3 (CR n)) (ju:n.nodes.length<=5) (Pr:EB node):Ev L 166 [.agg (FG n),.int .i64 node] (LY n node):=by
 have hV:=aI n I N.tow6;rw[hv]at hV;have h3:=(E7 n).1 hv;have hIn:=WJ I node 0 ((n.nodes.length:Int)-1);refine Ev.x N.U4 rfl rfl ?_;by_cases Hw:0<=node/\node<n.nodes.length
 ·have hR:=yI N n node hv cr ju Pr
  have hS:=yN N n (HC n node n.nodes.length) hv (by rw[iP];omega) (λ r hr=>by
   obtain ⟨m,_,rfl⟩:=oa.1 hr;exact XB _ _ _ _)
  rw[Yf n node hv,if_neg O']at hS;rw[decide_eq_true O']at hIn;repeat' (first|(apply BS;omega)|apply AR|apply AE|refine AD (hV) ?_|refine AD (hIn) ?_|refine AD (hR) ?_|refine AD (hS) ?_)<;>conv=>whnf
  rw[LY,if_pos Hw];refine AY rfl ?_;simp only[A3,B7,and_true];exact V6 (DS n node)
 ·rw[decide_eq_false O']at hIn
  repeat' (first|(apply BS;omega)|apply AR|apply AE|refine AD (hV) ?_|refine AD (hIn) ?_)<;>conv=>whnf
  rw[LY,if_neg Hw];exact AY rfl (kY 1)
theorem Ahp (N:q8 L) {h:Rat} (hh:Bt 4 (-h)) (k7 : -h≠0):Ev L 207 [.agg [.sl true ([(1:Rat)].map eQ),.sl true ([1,-h].map eQ)]] (.c5 [.agg (eS ⟨[[h]],[1],[h],1⟩),.int .i64 0]):=by
 have hA:Bs 4 [1,-h]:=λ x hx=>by
  rcases Gc.1 hx with rfl|hx
  ·exact Bt.one 4
  ·obtain rfl:=Ma.1 hx
   exact hh
 have hB:Bs 4 [(1:Rat)]:=λ x hx=>by
  obtain rfl:=Ma.1 hx;exact Bt.one 4
 have tB:VJ [(1:Rat)]=[1]:=Y'
 have tA:VJ [1,-h]=[1,-h]:=by
  show List.take (if -h=0 then _ else 2) [1,-h]=_;rw[if_neg k7];rfl
 have hV:=AiC N true true [1] [1,-h] 4 hB hA (by first|omega|simp) (by first|omega|simp) (by first|omega|simp) rfl;have wg:Ev L 204 [.sl true ([(1:Rat)].map eQ)] (.int .i64 0):=yK N true [1] 4 tB hB O' Z';have wi:Ev L 204 [.sl true ([1,-h].map eQ)] (.int .i64 1):=yK N true [1,-h] 4 tA hA O' Z';have hO:=GZ N.toa5 1 O';have hB0:Ev L 205 [.sl true ([(1:Rat)].map eQ),.int .i64 0] (.agg (eQ 1)):=nB N true [1] 0 4 O' hB O' Z';have hB1:Ev L 205 [.sl true ([(1:Rat)].map eQ),.int .i64 (0+1)] (.agg (eQ 0)):=nB N true [1] (0+1) 4 O' hB O' Z';have Bi:Ev L 205 [.sl true ([1,-h].map eQ),.int .i64 (0+1)] (.agg (eQ (-h))):=nB N true [1,-h] (0+1) 4 O' hA O' Z';have hM:=H7 N.toa5 (Bt.one 4) hh O' O';have hS:=fA N.toq9 (Bt.zero 4) ((Bt.one 4).mul hh) O' O';have hN:=xQ N hh O';rw[show (0:Rat)-1 * -h=h by grind]at hS;rw[Rat.neg_neg]at hN;rw[show ((1:Int):Rat)=1 from rfl]at hO;have hZ:=AiK N 1 O';have n8:=Afo ⟨[[h]],[1],[h],1⟩ 0;generalize -h=g at *;refine Ev.x N.MY rfl rfl ?_;repeat' (first|(apply AG<;>intro hc<;>try omega)|apply AE|refine AD (hV) ?_|refine AD (wg) ?_|refine AD (wi) ?_|refine AD (hB0) ?_)<;>conv=>whnf
 refine LL (enc:=eQ) 1 hZ rfl ?_;conv=>whnf
 repeat' (first|(apply AG<;>intro hc<;>try omega)|(apply AX;omega)|refine AD (hO) ?_)<;>conv=>whnf
 refine LQ (enc:=eQ) 0 1 rfl rfl (λ_=>rfl) Z' ?_;conv=>whnf
 skip
 refine F8 ?_;repeat' (first|(apply AG<;>intro hc<;>try omega)|apply AE)<;>conv=>whnf
 refine LL (enc:=eQ) 1 hZ rfl ?_;conv=>whnf
 repeat' (first|(apply AG<;>intro hc<;>try omega)|fail)<;>conv=>whnf
 refine F8 ?_;repeat' (first|(apply AG<;>intro hc<;>try omega)|(apply AX;omega)|(apply AP;omega)|apply AE|refine AD (Bi) ?_|refine AD (hN) ?_)<;>conv=>whnf
 refine LQ (enc:=eQ) 0 h rfl rfl (λ_=>rfl) Z' ?_;conv=>whnf
 repeat' (first|(apply AP;omega)|fail)<;>conv=>whnf
 refine F8 ?_;repeat' (first|(apply AG<;>intro hc<;>try omega)|apply AE)<;>conv=>whnf
 refine AX ⟨rfl,O'⟩ ?_;conv=>whnf
 repeat' (first|(apply AP;omega)|apply DG|refine AD (hB0) ?_|refine AD (hB1) ?_|refine AD (Bi) ?_|refine AD (hM) ?_|refine AD (hS) ?_)<;>conv=>whnf
 refine RR (enc:=eQ) h rfl rfl O' ?_;conv=>whnf
 repeat' (first|(apply AP;omega)|fail)<;>conv=>whnf
 refine F8 ?_;repeat' (first|(apply AG<;>intro hc<;>try omega)|apply AE)<;>conv=>whnf
 refine sQ (en:=eQ) [[h]] rfl (λ_=>rfl) rfl rfl ?_;conv=>whnf
 refine N4 rfl rfl ?_;conv=>whnf
 refine N4 rfl rfl ?_;conv=>whnf
 exact AY rfl n8
theorem Bt.ng {k:Nat} {x:Rat} (h:Bt k x):Bt k (-x):=⟨by simpa using h.1,by simpa using h.2⟩
theorem Ajr:Bt 4 (kg 1 2):=(Bt.mk (k:=4) (z:=1) (d:=2) Y' Y')
theorem wX (I:e8 L) (N:v3 L) (n:Nt) (node:Int) (hv:HR n=true) (cr:K3 (CR n)) (ju:n.nodes.length<=5) (Pr:EB node):Ev L 161 [.agg (FG n),.int .i64 node] (LY n node):=by
 have hV:=eR n I N.tow6;rw[hv]at hV;have Mv:=λ(j:Int) (h:0<=j/\j<=n.s)=>nC N.toak n j (-1) hv cr O' O' (by unfold EB;omega)
 have Mt:=nC N.toak n (-1) node hv cr O' (by have:=(E7 n).1 hv;omega) Pr;have hO:=GZ N.toa5 0 O';rw[E7]at hv;obtain ⟨h1,h2,h3,h4,h5,h6⟩:=hv;have ml : ∀ e∈n.next,0<=e/\e<=n.s+n.nodes.length:=λ e he=>by simpa using Fa.1 h5 e he
 refine Ev.x N.O1 rfl rfl ?_;(repeat' (apply AE<;>conv=>whnf))
 refine FV 1000 N.IC rfl rfl ?_;repeat' (first|(apply AP;omega)|apply AE|refine AD (hV) ?_)<;>conv=>whnf
 obtain ⟨m,hm⟩ : ∃ m:Nat,n.s=m:=⟨n.s.toNat,(qg O').symm⟩;rw[hm];unfold C2;refine ⟨⟨O',O',by simp only[DX];omega,O'⟩,?_⟩;rw[show ((m:Int)+1).toNat=m+1 by omega];conv=>whnf
 skip
 refine jS 146018 146018 (m+1) rfl ?_;skip
 rw[show qa (m+1) [AV.nil]=(JS (G8 n 0) (m+1)).map eC by simp [JS,G8]];refine CE (λ i=>m+1-i) (λ(i:Nat)=>i<=m+1) (λ i=>[(21,.int .i64 i)]) (λ i=>[(146018,146018,.rw 1 ((JS (G8 n i) (m+1)).map eC))]) 0 O' ?_;intro i p1 ih;by_cases hi:i<m+1
 ·have hl:=zB (l:=G8 n i) (m:=m+1) (by rw[OG];omega)
  have g9:=zC (l:=G8 n i) (m:=m+1) (x:=BR n (i:Int) (-1)) (by rw[OG];omega);rw[OG,<-uW]at g9;have hS:=Mv i O';unfold FG at hS;rw[hm]at hS;repeat' (first|(apply AG<;>intro hc<;>try omega)|(apply AX;omega)|apply AE|refine AD (hS) ?_)<;>conv=>whnf
  refine E5 (enc:=eC) (some (BR n (i:Int) (-1))) rfl (λ e=>by cases e<;>rfl) O' ?_;conv=>whnf
  repeat' (first|(apply AP;omega)|fail)<;>conv=>whnf
  rw[g9];exact A9 [] (ih (i+1) O' O')
 ·obtain rfl:i=m+1:=O'
  clear ih;repeat' (first|(apply AG<;>intro hc<;>try omega)|apply AE)<;>conv=>whnf
  refine FV 1000 N.MD rfl rfl ?_;(repeat' (apply AE<;>conv=>whnf))
  unfold C2;refine ⟨⟨O',O',by simp only[DX];omega,O'⟩,?_⟩;rw[zc];conv=>whnf
  have hZ:=nD N.too4 m O';refine LL (enc:=eQ) m hZ Z' ?_;conv=>whnf
  refine LL (enc:=eQ) m hZ Z' ?_;conv=>whnf
  (repeat' (refine AD (hO) ?_<;>conv=>whnf))
  refine CE (λ t=>m-t) (λ(t:Nat)=>t<=m) (λ t=>[(16,.int .i64 t)]) (λ t=>[(145006,145006,.mx (qa t (some (3,(qa m (0:Rat)).map eQ))++qa (m-t) none))]) 0 O' ?_;intro t p4 th;by_cases ht:t<m
  ·repeat' (first|(apply AG<;>intro hc<;>try omega)|apply AE)<;>conv=>whnf
   refine LL (enc:=eQ) m hZ Z' ?_;conv=>whnf
   repeat' (first|(apply AX;omega)|fail)<;>conv=>whnf
   unfold AL CS;refine ⟨Z',by simp;omega,?_⟩;conv=>whnf
   rw[show 0+((t:Int)).toNat=t by omega,nE _ _ p4 ht];repeat' (first|(apply AP;omega)|fail)<;>conv=>whnf
   exact A9 [] (th (t+1) O' O')
  obtain rfl:t=m:=O'
  clear th;have dh:=ta n t;rw[show qa t (some (3,Lf eQ (qa t 0)))++qa (t-t) none=BJ 3 eQ (fz (qa t 0) [] t) by simp [BJ,fz],show qa t (0:Rat)=fz 0 [] t by simp [fz],show (JS (G8 n (t+1)) (t+1)).map eC=(G8 n (t+1)).map λ c=>[AV.sl false (c.map eQ)] by rw[<-zA,OG]];repeat' (first|(apply AG<;>intro hc<;>try omega)|apply AE)<;>conv=>whnf
  refine ⟨rfl,?_⟩;conv=>whnf
  (repeat' (apply AR<;>conv=>whnf))
  have vg:n.s.toNat=t:=O'
  have kn:n.next.length=t:=O'
  have Nu:=OG n (t+1);refine CE (λ i=>n.next.length-i) (λ(i:Nat)=>i<=n.next.length) (λ i=>[(37,.int .i64 i)]) (λ i=>[(145006,145006,.mx (BJ 3 eQ (fz (qa t 0) ((BD n).a.take i) t))),(145008,145008,.rw 3 ((fz 0 ((BD n).b.take i) t).map eQ))]) 0 O' ?_;intro i q1 ih;by_cases hi:i<n.next.length
  ·obtain ⟨e,he⟩:=H' n.next i hi
   have dv:n.next[(i:Int).toNat]? = some e:=he
   have mn:(BD n).a[i]? = some ((Qa t).map λ(j:Nat)=>(BR n ((j:Int)+1) (-1)).getD e.toNat 0):=by
    rw[<-vg];simp only[BD,sa,he,Ab]
   have Hj:(BD n).b[i]? = some ((BR n 0 (-1)).getD e.toNat 0):=by
    simp only[BD,sa,he,Ab]
   have y9:(BD n).a.length=t:=by simp [BD,kn]
   have da:(BD n).b.length=t:=by simp [BD,kn]
   have zn:((BD n).a.take i).length=i:=by rw[xa];omega
   have pz:((BD n).b.take i).length=i:=by rw[xa];omega
   have hA0:fz (qa t 0) ((BD n).a.take i) t=(fz (qa t 0) ((BD n).a.take i) t).set i (fz 0 [] t):=by
    have:=nP (z:=qa t (0:Rat)) (l:=(BD n).a.take i) (m:=t) O'
    rw[zn]at this;rw[show fz (0:Rat) [] t=qa t 0 by simp [fz]];exact (Tf this).symm
   have Gk:=LA (z:=qa t (0:Rat)) (l:=(BD n).a.take i) (m:=t) (x:=(Qa t).map λ(j:Nat)=>(BR n ((j:Int)+1) (-1)).getD e.toNat 0) O';have wc:=LA (z:=(0:Rat)) (l:=(BD n).b.take i) (m:=t) (x:=(BR n 0 (-1)).getD e.toNat 0) O';rw[zn,<-NV mn]at Gk;rw[pz,<-NV Hj]at wc;have hAl:=K9 (z:=qa t (0:Rat)) (l:=(BD n).a.take i) (m:=t) O';have Jz:=K9 (z:=(0:Rat)) (l:=(BD n).b.take i) (m:=t) O';have Oh:=ml e (zM he);generalize fz (qa t 0) ((BD n).a.take i) t=A0 at *;generalize fz (0:Rat) ((BD n).b.take i) t=B0 at *;have Bi:A0=A0.set i (fz 0 ((Qa 0).map λ(j:Nat)=>(BR n ((j:Int)+1) (-1)).getD e.toNat 0) t):=hA0;repeat' (first|(apply AG<;>intro hc<;>try omega)|(refine A4 V' ?_ rfl ?_;omega)|apply AE)<;>conv=>whnf
   refine DF (λ j=>t-j) (λ(j:Nat)=>j<=t) (λ j=>[(44,.int .i64 j)]) (λ j=>[(145006,145006,.mx (BJ 3 eQ (A0.set i (fz 0 ((Qa j).map λ(j:Nat)=>(BR n ((j:Int)+1) (-1)).getD e.toNat 0) t))))]) [] [] 0 (by first|exact B'|(rw[<-Bi];exact B')) O' ?_;intro j q2 jh;have l9:((Qa j).map λ(j:Nat)=>(BR n ((j:Int)+1) (-1)).getD e.toNat 0).length=j:=Z'
   by_cases hj:j<t
   ·have eg:=dh ((j:Int)+1) O'
    have lv:=RJ n ((j:Int)+1) (-1);have lu:=RI n ((j:Int)+1) (-1) h2 cr O';obtain ⟨x,hx⟩ : ∃ x,(BR n ((j:Int)+1) (-1))[e.toNat]? = some x:=⟨_,zE O'⟩;have jj:(BR n ((j:Int)+1) (-1)).getD e.toNat 0=x:=by rw[ya,hx];rfl
    have hT:=K7 N.toa5 (lu.at hx) O';have js:=LA (z:=(0:Rat)) (l:=(Qa j).map λ(j:Nat)=>(BR n ((j:Int)+1) (-1)).getD e.toNat 0) (m:=t) (x:=x) O';have qm:=K9 (z:=(0:Rat)) (l:=(Qa j).map λ(j:Nat)=>(BR n ((j:Int)+1) (-1)).getD e.toNat 0) (m:=t) O';rw[l9,show ((Qa j).map λ(j:Nat)=>(BR n ((j:Int)+1) (-1)).getD e.toNat 0)++[x]=(Qa (j+1)).map λ(j:Nat)=>(BR n ((j:Int)+1) (-1)).getD e.toNat 0 by rw[yb,kc,ug,jj]]at js;have Fo:(A0.set i (fz 0 ((Qa j).map λ(j:Nat)=>(BR n ((j:Int)+1) (-1)).getD e.toNat 0) t))[i]? = some (fz 0 ((Qa j).map λ(j:Nat)=>(BR n ((j:Int)+1) (-1)).getD e.toNat 0) t):=by
     rw[Dc,if_pos rfl,if_pos O']
    have xq:(A0.set i (fz 0 ((Qa j).map λ(j:Nat)=>(BR n ((j:Int)+1) (-1)).getD e.toNat 0) t)).length=t:=by rw[Oa];omega
    repeat' (first|(apply AG<;>intro hc<;>try omega)|(apply AX;omega)|(apply AP;omega)|(refine LO ?_ (λ_=>rfl) (λ v hv => ?_);omega)|(refine GG ?_ (λ r hr => ?_);omega)|apply AE)<;>conv=>whnf
    cases Fo.symm.trans hr;cases eg.symm.trans hv;repeat' (first|(refine A4 V' ?_ rfl ?_;omega)|refine AD (hT) ?_)<;>conv=>whnf
    refine AX E' ?_;conv=>whnf
    repeat' (first|refine GX V' ?_|fail)<;>conv=>whnf
    refine E5 (enc:=eQ) x rfl (λ_=>rfl) O' ?_;conv=>whnf
    rw[js];refine ZQ (by simp only[zN , l9,za,cd];omega) ?_;rw[Lg];conv=>whnf
    repeat' (first|(apply AP;omega)|fail)<;>conv=>whnf
    exact A9 [] (jh (j+1) O' O')
   ·obtain rfl:j=t:=O'
    clear jh;rw[K8 l9,Gk];have eg:=dh 0 O';have lv:=RJ n 0 (-1);have lu:=RI n 0 (-1) h2 cr O';obtain ⟨x,hx⟩:=H' (BR n 0 (-1)) e.toNat;have jj:(BR n 0 (-1)).getD e.toNat 0=x:=by rw[ya,hx];rfl
    rw[jj]at wc;have hT:=K7 N.toa5 (lu.at hx) O';repeat' (first|(apply AG<;>intro hc<;>try omega)|(apply AX;omega)|(refine LO ?_ (λ_=>rfl) (λ v hv => ?_);omega)|apply AE)<;>conv=>whnf
    cases eg.symm.trans hv;repeat' (first|(apply AX;omega)|(refine A4 V' ?_ rfl ?_;omega)|refine AD (hT) ?_)<;>conv=>whnf
    refine E5 (enc:=eQ) x rfl (λ_=>rfl) O' ?_;conv=>whnf
    rw[wc];repeat' (first|(apply AP;omega)|fail)<;>conv=>whnf
    exact A9 [] (ih (i+1) O' O')
  ·obtain rfl:i=n.next.length:=O'
   clear ih;have y9:(BD n).a.length=t:=by simp [BD,kn]
   have da:(BD n).b.length=t:=by simp [BD,kn]
   rw[zT (show (BD n).a.length<=n.next.length by omega),zT (show (BD n).b.length<=n.next.length by omega),K8 y9,K8 da];repeat' (first|(apply AG<;>intro hc<;>try omega)|apply AE)<;>conv=>whnf
   refine CE (λ j=>t-j) (λ(j:Nat)=>j<=t) (λ j=>[(78,.int .i64 j)]) (λ j=>[(145010,145010,.rw 3 ((fz 0 ((Qa j).map λ(j:Nat)=>(BR n ((j:Int)+1) (-1)).getD n.out.toNat 0) t).map eQ))]) 0 O' ?_;intro j q2 jh;have l9:((Qa j).map λ(j:Nat)=>(BR n ((j:Int)+1) (-1)).getD n.out.toNat 0).length=j:=Z'
   by_cases hj:j<t
   ·have eg:=dh ((j:Int)+1) O'
    have lv:=RJ n ((j:Int)+1) (-1);have lu:=RI n ((j:Int)+1) (-1) h2 cr O';obtain ⟨x,hx⟩ : ∃ x,(BR n ((j:Int)+1) (-1))[n.out.toNat]? = some x:=⟨_,zE O'⟩;have jj:(BR n ((j:Int)+1) (-1)).getD n.out.toNat 0=x:=by rw[ya,hx];rfl
    have hT:=K7 N.toa5 (lu.at hx) O';have js:=LA (z:=(0:Rat)) (l:=(Qa j).map λ(j:Nat)=>(BR n ((j:Int)+1) (-1)).getD n.out.toNat 0) (m:=t) (x:=x) O';have qm:=K9 (z:=(0:Rat)) (l:=(Qa j).map λ(j:Nat)=>(BR n ((j:Int)+1) (-1)).getD n.out.toNat 0) (m:=t) O';rw[l9,show ((Qa j).map λ(j:Nat)=>(BR n ((j:Int)+1) (-1)).getD n.out.toNat 0)++[x]=(Qa (j+1)).map λ(j:Nat)=>(BR n ((j:Int)+1) (-1)).getD n.out.toNat 0 by rw[yb,kc,ug,jj]]at js;repeat' (first|(apply AG<;>intro hc<;>try omega)|(apply AX;omega)|(apply AP;omega)|(refine LO ?_ (λ_=>rfl) (λ v hv => ?_);omega)|apply AE)<;>conv=>whnf
    cases eg.symm.trans hv;repeat' (first|(apply AX;omega)|(refine A4 V' ?_ rfl ?_;omega)|refine AD (hT) ?_)<;>conv=>whnf
    refine E5 (enc:=eQ) x rfl (λ_=>rfl) O' ?_;conv=>whnf
    rw[js];repeat' (first|(apply AP;omega)|fail)<;>conv=>whnf
    exact A9 [] (jh (j+1) O' O')
   ·obtain rfl:j=t:=O'
    clear jh;rw[K8 l9];have eg:=dh 0 O';have lv:=RJ n 0 (-1);have lu:=RI n 0 (-1) h2 cr O';obtain ⟨x,hx⟩:=H' (BR n 0 (-1)) n.out.toNat;have jj:(BR n 0 (-1)).getD n.out.toNat 0=x:=by rw[ya,hx];rfl
    have hT:=K7 N.toa5 (lu.at hx) O';have hd:(BD n).d=x:=jj;have w7:(BD n).c=(Qa j).map λ(j:Nat)=>(BR n ((j:Int)+1) (-1)).getD n.out.toNat 0:=by rw[BD,vg]
    rw[<-w7];repeat' (first|(apply AG<;>intro hc<;>try omega)|(apply AX;omega)|(refine LO ?_ (λ_=>rfl) (λ v hv => ?_);omega)|apply AE)<;>conv=>whnf
    cases eg.symm.trans hv;repeat' (first|(refine A4 V' ?_ rfl ?_;omega)|refine AD (hT) ?_)<;>conv=>whnf
    unfold FG at Mt;rw[hm]at Mt;have tz:=RI n (-1) node h2 cr ju;have xq:=RJ n (-1) node;have Ks:(DS n node).b.length=j:=by simp [DS,kn]
    refine ⟨rfl,?_⟩;conv=>whnf
    repeat' (first|(apply AG<;>intro hc<;>try omega)|apply AR|refine AD (Mt) ?_)<;>conv=>whnf
    ·exact AY (by rw[LY,if_neg O']) (by rw[LY,if_neg O'];exact kY 1)
    ·exact AY (by rw[LY,if_neg O']) (by rw[LY,if_neg O'];exact kY 1)
    have Az7:=l9;refine DF (λ i=>n.next.length-i) (λ(i:Nat)=>i<=n.next.length) (λ i=>[(36,.int .i64 i)]) (λ i=>[(145008,145008,.rw 3 (((DS n node).b.take i++(BD n).b.drop i).map eQ))]) [] [] 0 (by first|exact B'|(rw[Ha,tc,Ac];exact B')) O' ?_;intro i q1 ih;by_cases hi:i<n.next.length
    ·obtain ⟨e,he⟩:=H' n.next i hi
     have dv:n.next[(i:Int).toNat]? = some e:=he
     have Oh:=ml e (zM he);obtain ⟨x,hx⟩:=H' (BR n (-1) node) e.toNat;have jj:(BR n (-1) node).getD e.toNat 0=x:=by rw[ya,hx];rfl
     have Hj:(DS n node).b[i]? = some x:=by simp only[DS,sa,he,Ab,jj]
     have hT:=K7 N.toa5 (tz.at hx) O';have Am:=Rz (b:=(BD n).b) Hj O';have cq:((DS n node).b.take i++(BD n).b.drop i).length=j:=by rw[ga,xa,tb];omega
     repeat' (first|(apply AG<;>intro hc<;>try omega)|(apply AX;omega)|(refine A4 V' ?_ rfl ?_;omega)|apply AE|refine AD (hT) ?_)<;>conv=>whnf
     refine E5 (enc:=eQ) x rfl (λ_=>rfl) O' ?_;conv=>whnf
     rw[Am];repeat' (first|(apply AP;omega)|fail)<;>conv=>whnf
     exact A9 [] (ih (i+1) O' O')
    ·obtain rfl:i=n.next.length:=O'
     clear ih;rw[zT (show (DS n node).b.length<=n.next.length by omega),nb (show (BD n).b.length<=n.next.length by omega),Ib];obtain ⟨x,hx⟩:=H' (BR n (-1) node) n.out.toNat;have jj:(DS n node).d=x:=by simp only[DS,ya,hx];rfl
     have hT:=K7 N.toa5 (tz.at hx) O';repeat' (first|(apply AG<;>intro hc<;>try omega)|(refine A4 V' ?_ rfl ?_;omega)|apply AE|refine AD (hT) ?_)<;>conv=>whnf
     have lg:(BD n).c.length=j:=by rw[w7,l9]
     refine H1 (λ_=>rfl) rfl y9.symm ?_;conv=>whnf
     refine C8 (enc:=eQ) (λ_=>rfl) rfl Ks.symm ?_;conv=>whnf
     refine C8 (enc:=eQ) (λ_=>rfl) rfl lg.symm ?_;conv=>whnf
     rw[LY,if_pos O'];refine AY (by rw[<-jj];rfl) ?_;simp only[A3,B7,and_true];exact V6 (DS n node)
end Go.c6
namespace Go.c6
open F
attribute [local irreducible] AA AF AL AC CQ AW BA A8 B3 BL CN D4 BP A1 B6 CF AB BG AH pw BV BO CS CY C2 BX CG BU CX
variable {L:Lib} {b a:List Int} {d c:Wd}
theorem Vu (x fr:Int):EH [x] 1 fr=[(fr,x)]:=by simp [EH]
def tK (b a:List Int) (c:Wd) (mx k:Nat):List (Int × Int):=(if k<b.length then [(0,b.getD k 0)] else [])++(if 1<=k/\k<=a.length then [((1:Int)+mx,-a.getD (k-1) 0)] else [])++(if k<mx then [((k:Int)+1,pw c.f)] else [])
theorem Al7 (x fr:Int):EH [x] (-1) fr=[(fr,-x)]:=by simp [EH]
theorem Yh {l:List Int} {k:Nat} (h:k<l.length):(l.take (k+1)).drop k=[l.getD k 0]:=by
 have hg:l[k]? = some l[k]:=zE h;rw[Ob,hg,Jc,List.drop_append_of_le_length F',nb F',tc,ya,hg];rfl
theorem rI (b a:List Int) (c:Wd) (mx k:Nat):P7 b a c mx k=tK b a c mx k:=by
 unfold P7 tK;congr 1
 ·congr 1
  ·by_cases h:k<b.length
   ·rw[if_pos h,if_pos h,Yh h,Vu]
   ·rw[if_neg h,if_neg h]
  ·by_cases h:1<=k/\k<=a.length
   ·rw[if_pos h,if_pos h]
    obtain ⟨j,rfl⟩ : ∃ j,k=j+1:=⟨k-1,O'⟩;rw[Nat.add_sub_cancel,Yh O',Al7,Int.add_comm 1 (mx:Int)]
   ·rw[if_neg h,if_neg h]
 ·by_cases h:k<mx
  ·rw[if_pos h,if_pos h,Vu]
  ·rw[if_neg h,if_neg h]
end Go.c6

namespace Go.c6
open F
attribute [local irreducible] AA AF AL AC CQ AW BA A8 B3 BL CN D4 BP A1 B6 CF AB BG AH pw BV BO CS CY C2 BX CG BU CX
variable {L:Lib} {d c:Wd} {p:List Int}
theorem Anc {s:Int} {k:Nat} {fr:Int} (h:0<=fr/\fr<=s+k) : ∀ t∈EH [pw c.f] 1 fr,GF c s k t=true:=by
 intro t ht;obtain ⟨i,v,hv,hi,rfl⟩:=WY ht;simp only[Ma]at hv;simp only[Eb,pd]at hi;subst hv;exact decide_eq_true ⟨by simp only;omega,by simp only;omega,Or.inl Z'⟩
theorem Yj {s:Int} {k:Nat} {fr:Int} {l:List Int} (hl : ∀ v∈l,FT c v) (h:0<=fr/\fr+l.length<=s+k+1) : ∀ t∈EH l 1 fr,GF c s k t=true:=by
 intro t ht;obtain ⟨i,v,hv,hi,rfl⟩:=WY ht;exact decide_eq_true ⟨by simp only;omega,by simp only;omega,Or.inr (by simpa using hl v hv)⟩
theorem We {s:Int} {f:Nat->Nd} : ∀ (m k:Nat),(∀ i,k<=i->i<k+m->(f i).ts.length<=64 /\ ∀ t∈(f i).ts,GF c s i t=true)->GT c s k ((List.range' k m).map f)=true
 | 0,_,_=>rfl
 | m+1,k,h=>by
  rw[List.range'_succ,Qc,GT,We m (k+1) λ i h1 h2=>h i O' O'];have:=h k O' O'
  simp only[je,Gd,decide_eq_true_eq,Fa];exact this
end Go.c6

namespace Go.c6
open F
attribute [local irreducible] AA AF AL AC CQ AW BA A8 B3 BL CN D4 BP A1 B6 CF AB BG AH pw BV BO CS CY C2 BX CG BU CX
variable {L:Lib}
section
variable {b a:List Int} {d c:Wd}
theorem Anb {s:Int} {k:Nat} {fr:Int} {l:List Int} (hl : ∀ v∈l,FT c (-v)) (h:0<=fr/\fr+l.length<=s+k+1) : ∀ t∈EH l (-1) fr,GF c s k t=true:=by
 intro t ht;obtain ⟨i,v,hv,hi,rfl⟩:=WY ht;exact decide_eq_true ⟨by simp only;omega,by simp only;omega,Or.inr (by simpa using hl v hv)⟩
theorem Anm (hd:WV d) (hc:WV c) (l1:1<=b.length/\b.length<=49) (l2:a.length<=8) (hb : ∀ v∈b,FT c v) (ha : ∀ v∈a,FT c v/\FT c (-v)):HR (GM b a d c)=true:=by
 have gn:b.length-1<=CM b a:=ag _ _;have gj:a.length<=CM b a:=gg _ _;have hm3:CM b a<=48:=by unfold CM;omega
 rw[E7];refine ⟨hd,hc,⟨by simp only[GM];omega,by simp only[GM];omega,by simp [GM],by simp [GM,H4]⟩,?_,?_,by simp only[GM];omega,by simp only[GM,Eb,pd];omega⟩
 ·simp only[GM,GT,je,Gd,decide_eq_true_eq,Fa]
  refine ⟨⟨by simp [LE];omega,λ t ht => ?_⟩,by simp [LE];omega,λ t ht => ?_⟩
  ·rcases Ga.1 ht with h|h
   ·exact Anc O' t h
   ·exact Anb (λ v hv=>(ha v hv).2) O' t h
  ·rcases Ga.1 ht with h|h
   ·exact Yj (λ v hv=>hb v (ud hv)) (by simp only[xa];omega) t h
   ·exact Yj (λ v hv=>hb v (ze hv)) (by simp only[tb];omega) t h
 ·simp only[GM,I6,Fa,decide_eq_true_eq,Eb,pd]
  intro k hk;rcases Tj hk with rfl|⟨i,h1,h2,rfl⟩<;>(first|omega|(refine decide_eq_true ?_;omega))
theorem Yg {mx k:Nat} {t:Int × Int} (h:t∈tK b a c mx k):(k<b.length/\t.1=0/\t.2∈b)\/(1<=k/\k<=a.length/\t.1=1+(mx:Int) /\ -t.2∈a)\/(k<mx/\t.1=(k:Int)+1/\t.2=pw c.f):=by
 unfold tK at h;rcases Ga.1 h with h|h
 ·rcases Ga.1 h with h|h
  ·split at h
   ·rename_i hk
    obtain rfl:=Ma.1 h;refine Or.inl ⟨hk,rfl,?_⟩;show b.getD k 0∈b;rw[ya,zE hk];exact Ld hk
   ·cases h
  ·split at h
   ·rename_i hk
    obtain rfl:=Ma.1 h;refine Or.inr (Or.inl ⟨hk.1,hk.2,rfl,?_⟩);show - -(a.getD (k-1) 0)∈a;rw[Int.neg_neg,ya,zE (show k-1<a.length by omega)];exact Ld _
   ·cases h
 ·split at h
  ·rename_i hk
   obtain rfl:=Ma.1 h;exact Or.inr (Or.inr ⟨hk,rfl,rfl⟩)
  ·cases h
theorem rB (mx k:Nat):(tK b a c mx k).length<=3:=by
 unfold tK;split<;>split<;>split<;>simp
theorem Ani (hd:WV d) (hc:WV c) (l1:1<=b.length/\b.length<=49) (l2:a.length<=8) (hb : ∀ v∈b,FT c v) (ha : ∀ v∈a,FT c v/\FT c (-v)):HR (GP b a d c)=true:=by
 have gn:b.length-1<=CM b a:=ag _ _;have gj:a.length<=CM b a:=gg _ _;have hm3:CM b a<=48:=by unfold CM;omega
 rw[E7];refine ⟨hd,hc,⟨by simp only[GP];omega,by simp only[GP];omega,by simp [GP,IV];omega,by simp [GP]⟩,?_,?_,by simp only[GP];omega,by simp [GP,IV];omega⟩
 ·simp only[GP,IV]
  rw[AlS];refine We _ _ λ i _ hi => ?_
  simp only[rI];refine ⟨by have:=rB (b:=b) (a:=a) (c:=c) (CM b a) i;omega,λ t ht => ?_⟩;refine decide_eq_true ?_;rcases Yg ht with ⟨h1,h2,h3⟩|⟨h1,h2,h3,h4⟩|⟨h1,h2,h3⟩
  ·exact ⟨O',O',Or.inr (hb _ h3)⟩
  ·exact ⟨O',O',Or.inr (by simpa using (ha _ h4).2)⟩
  ·exact ⟨O',O',Or.inl h3⟩
 ·simp only[GP,IV,I6,Fa,decide_eq_true_eq,oa,vf,za,cd]
  rintro k ⟨i,hi,rfl⟩
  omega
theorem pR (hc:WV c):(pw c.f).natAbs<=2^24:=by
 unfold WV at hc;have ov:=NL (n:=c.f) (m:=23) O';have xi:pw 23=8388608:=by unfold pw;rfl
 have:=HF c.f
 show _<=16777216;omega
theorem bP {l:List Int} {sg fr:Int} (hs:sg=1\/sg = -1) (hl : ∀ v∈l,FT c v) : ∀ t∈EH l sg fr,t.2.natAbs<=2^24:=by
 intro t ht;obtain ⟨i,v,hv,hi,rfl⟩:=WY ht;have:=cP (hl v hv)
 show (sg*v).natAbs<=16777216;rcases hs with rfl|rfl<;>omega
theorem Anr (hc:WV c) {fr:Int} : ∀ t∈EH [pw c.f] 1 fr,t.2.natAbs<=2^24:=by
 intro t ht;obtain ⟨i,v,hv,hi,rfl⟩:=WY ht;obtain rfl:=Ma.1 hv;show (1*pw c.f).natAbs<=_;rw[Int.one_mul];exact pR hc
theorem All (l1:b.length<=3) (l2:a.length<=2) (hb : ∀ v∈b,FT c v) (ha : ∀ v∈a,FT c v/\FT c (-v)):K3 (CR (GL b a d c)):=by
 constructor
 ·intro ts h
  simp only[CR,GL,Qc,Nc,Ma]at h;subst h;simp only[ga,LE];omega
 ·intro ts h
  simp only[CR,GL,Qc,Nc,Ma]at h;subst h;intro t ht;rcases Ga.1 ht with h|h
  ·exact bP (Or.inl rfl) hb t h
  ·exact bP (Or.inr rfl) (λ v hv=>(ha v hv).1) t h
theorem Ann (hc:WV c) (l1:b.length<=3) (l2:a.length<=2) (hb : ∀ v∈b,FT c v) (ha : ∀ v∈a,FT c v/\FT c (-v)):K3 (CR (GM b a d c)):=by
 constructor
 ·intro ts h
  simp only[CR,GM,Qc,Nc,Gc,Md,or_false]at h;rcases h with rfl|rfl
  all_goals simp only[ga,LE,xa,tb,Eb,pd];omega
 ·intro ts h
  simp only[CR,GM,Qc,Nc,Gc,Md,or_false]at h;intro t ht;rcases h with rfl|rfl
  ·rcases Ga.1 ht with h|h
   ·exact Anr hc t h
   ·exact bP (Or.inr rfl) (λ v hv=>(ha v hv).1) t h
  ·rcases Ga.1 ht with h|h
   ·exact bP (Or.inl rfl) (λ v hv=>hb v (ud hv)) t h
   ·exact bP (Or.inl rfl) (λ v hv=>hb v (ze hv)) t h
theorem Anj (hc:WV c) (hb : ∀ v∈b,FT c v) (ha : ∀ v∈a,FT c v/\FT c (-v)):K3 (CR (GP b a d c)):=by
 have key : ∀ ts∈CR (GP b a d c),∃ i,ts=tK b a c (CM b a) i:=by
  intro ts h;simp only[CR,GP,IV,xb,oa]at h;obtain ⟨i,_,rfl⟩:=h;exact ⟨i,rI _ _ _ _ _⟩
 constructor
 ·intro ts h
  obtain ⟨i,rfl⟩:=key ts h;have:=rB (b:=b) (a:=a) (c:=c) (CM b a) i
  omega
 ·intro ts h t ht
  obtain ⟨i,rfl⟩:=key ts h;rcases Yg ht with ⟨h1,h2,h3⟩|⟨h1,h2,h3,h4⟩|⟨h1,h2,h3⟩
  ·have:=cP (hb _ h3)
   show _<=16777216;omega
  ·have:=cP (ha _ h4).1
   show _<=16777216;omega
  ·rw[h3];exact pR hc
end
end Go.c6

namespace Go.c6
open F
attribute [local irreducible] AA AF AL AC CQ AW BA A8 B3 BL CN D4 BP A1 B6 CF AB BG AH pw BV BO CS CY C2 BX CG BU CX
set_option maxRecDepth 8000
variable {L:Lib}
structure N3 (n:Nt):Prop where
 np:HR n=true
 st:n.s<=4
 nl:n.nodes.length<=5
 cf : ∀ d∈n.nodes,∀ t∈d.ts,t.2.natAbs<=2^24
 tl:(∀ d∈n.nodes,d.ts.length<=3)\/(n.nodes.length<=1 /\ ∀ d∈n.nodes,d.ts.length<=5)
theorem gD {n:Nt} {d:Nd} (h:d∈n.nodes):d.ts∈CR n:=oa.2 ⟨d,h,rfl⟩
section
variable {b a:List Int} {d c:Wd}
theorem Alx (hd:WV d) (hc:WV c) (l1:1<=b.length/\b.length<=3) (l2:a.length<=2) (hb : ∀ v∈b,FT c v) (ha : ∀ v∈a,FT c v/\FT c (-v)):N3 (GL b a d c):=by
 have hs:=All (d:=d) O' l2 hb ha;refine ⟨Ai0 hd hc O' O' hb ha,by simp only[GL];omega,by simp [GL],λ x hx=>hs.cf _ (gD hx),Or.inr ⟨by simp [GL],λ x hx=>hs.len _ (gD hx)⟩⟩
theorem Alz (hd:WV d) (hc:WV c) (l1:1<=b.length/\b.length<=3) (l2:a.length<=2) (hb : ∀ v∈b,FT c v) (ha : ∀ v∈a,FT c v/\FT c (-v)):N3 (GM b a d c):=by
 have hs:=Ann (d:=d) hc O' l2 hb ha;have hm:CM b a<=2:=by unfold CM;omega
 refine ⟨Anm hd hc O' O' hb ha,by simp only[GM];omega,by simp [GM],λ x hx=>hs.cf _ (gD hx),Or.inl λ x hx => ?_⟩;simp only[GM,Gc,Md,or_false]at hx;rcases hx with rfl|rfl
 all_goals simp only[ga,LE,xa,tb,Eb,pd];omega
theorem Aly (hd:WV d) (hc:WV c) (l1:1<=b.length/\b.length<=3) (l2:a.length<=2) (hb : ∀ v∈b,FT c v) (ha : ∀ v∈a,FT c v/\FT c (-v)):N3 (GP b a d c):=by
 have hs:=Anj (d:=d) hc hb ha;have hm:CM b a<=2:=by unfold CM;omega
 refine ⟨Ani hd hc O' O' hb ha,by simp only[GP];omega,by simp [GP,IV];omega,λ x hx=>hs.cf _ (gD hx),Or.inl λ x hx => ?_⟩;simp only[GP,IV,oa]at hx;obtain ⟨i,_,rfl⟩:=hx;simp only[rI];exact rB _ _
theorem Alw {k v:List Int} (hd:WV d) (hc:WV c) (l1:k.length<=2) (l2:v.length=k.length+1) (hv : ∀ x∈v,FT c x) (hk : ∀ x∈k,FT c x/\FT c (-x)):N3 (FI k v d c):=by
 have hp:=pR hc;have sm : ∀ x,FT c x->x.natAbs<=16777216:=λ x hx=>by have:=cP hx;omega
 have Fi:(pw c.f).natAbs<=16777216:=hp;rcases k with _|⟨x,_|⟨y,_|⟨z,k⟩⟩⟩
 ·rcases v with _|⟨a,_|⟨b,v⟩⟩
  ·simp at l2
  ·have h1:=hv a Z'
   have s1:=sm a h1;refine ⟨?_,by simp [FI],by simp [FI],?_,Or.inl ?_⟩
   ·simp [HR,FI,GT,I6,GF,hd,hc,h1]
   ·simp [FI];exact s1
   ·simp [FI]
  ·simp at l2
 ·rcases v with _|⟨a,_|⟨b,_|⟨e,v⟩⟩⟩
  ·simp at l2
  ·simp at l2
  ·have h1:=hv a Z'
   have h2:=hv b Z';obtain ⟨h3,h4⟩:=hk x Z';have s1:=sm a h1;have s2:=sm b h2;have s3:=sm x h3;refine ⟨?_,by simp [FI],by simp [FI],?_,Or.inl ?_⟩
   ·simp [HR,FI,GT,I6,GF,hd,hc,h1,h2,h3,h4]
   ·simp [FI]
    refine ⟨?_,?_,?_⟩<;>intro _ _ hh<;>omega
   ·simp [FI]
  ·simp at l2
 ·rcases v with _|⟨a,_|⟨b,_|⟨e,_|⟨g,v⟩⟩⟩⟩
  ·simp at l2
  ·simp at l2
  ·simp at l2
  ·have h1:=hv a Z'
   have h2:=hv b Z';have h5:=hv e Z';obtain ⟨h3,h4⟩:=hk x Z';obtain ⟨h6,h7⟩:=hk y Z';have s1:=sm a h1;have s2:=sm b h2;have s3:=sm x h3;have s4:=sm y h6;have s5:=sm e h5;refine ⟨?_,by simp [FI],by simp [FI],?_,Or.inl ?_⟩
   ·simp [HR,FI,GT,I6,GF,hd,hc,h1,h2,h3,h4,h5,h6,h7]
   ·simp [FI]
    refine ⟨?_,?_,?_,?_,?_⟩<;>intro _ _ hh<;>omega
   ·simp [FI]
  ·simp at l2
 ·simp at l1
end
theorem AlA {c:Wd} (hc:WV c) (hf:c.f<=c.b-2) (l:List Int):(Y2 c l).length<=2 /\ ∀ v∈Y2 c l,FT c v/\FT c (-v):=by
 obtain ⟨h1,h2,h3,h4⟩:=Q1 hc;have o7:=hc;unfold WV at o7;have hp:=HF c.f;have e1:=NL (n:=c.f+1) (m:=c.b-1) O';have e2:pw (c.f+1)=2*pw c.f:=by
  unfold pw;rw[show (c.f+1).toNat=c.f.toNat+1 by omega,Int.pow_succ];omega
 have key : ∀ v:Int,-pw c.f<v/\v<pw c.f->FT c v/\FT c (-v):=λ v hv=>⟨⟨hc,O',O'⟩,⟨hc,O',O'⟩⟩
 have t1:=ZD (b:=pw c.f*3/4) O' (FM l 1);have t2:=ZD (b:=pw c.f/2) O' (FM l 1);have t3:=ZD (b:=(pw c.f+M3 (pw c.f/2) (FM l 1))/2) O' (FM l 2);unfold Y2;split
 ·simp
 split
 ·refine ⟨Z',λ v hv => ?_⟩
  obtain rfl:=Ma.1 hv;exact key _ O'
 ·refine ⟨Z',λ v hv => ?_⟩
  simp only[Gc,Md,or_false]at hv;rcases hv with rfl|rfl
  ·exact key _ O'
  ·exact key _ O'
theorem Ul {k v:List Int} {d c:Wd} (l1:k.length<=2) : ∀ m∈(FI k v d c).nodes,m.q=false:=by
 rcases k with _|⟨x,_|⟨y,_|⟨z,k⟩⟩⟩
 ·simp [FI]
 ·simp [FI]
 ·simp [FI]
 ·simp at l1
theorem gQ (n:Nt) (h1:n.qn=false) (h2:n.qx=false) (h3 : ∀ m∈n.nodes,m.q=false):A3 (.c5 [.agg (FG n),.bool true]):=by
 have h:=wL n h1 h2 h3;simp only[A3,B7,and_true,true_and]at h ⊢;exact h
end Go.c6

namespace Go.c6
open F
variable {L:Lib}
abbrev IQ (q:Bool) (m:List (List CK)):o_:=m.map λ r=>[AV.sl q (r.map eW)]
def vM (m:List (List CK)):J':=m.map λ r=>r.map CK.v
def CK.Fit (k:Nat) (w:CK):Prop:=Bt k w.v/\w.Sz 68719476736
def LN (k:Nat) (m:List (List CK)):Prop := ∀ r∈m,∀ x∈r,x.Fit k
def wR (r:K'):List CK:=r.map qC
def wM (m:J'):List (List CK):=m.map wR
theorem wG (r:K'):(wR r).map eW=r.map eQ:=by
 rw[wR,xb];rfl
theorem cI (r:K'):(wR r).map CK.v=r:=by
 rw[wR,xb];exact (Qb λ x _=>Uu x).trans (Kg r)
theorem Ag4 (q:Bool) (m:J'):IQ q (wM m)=DC q m:=by
 simp only[wM,xb,ke,wG]
theorem jK (m:J'):vM (wM m)=m:=by
 simp only[vM,wM,xb,ke,cI,Kg]
theorem zF {k:Nat} {x:Rat} (h:Bt k x) (hk:k<2199023255552):(qC x).Fit k:=by
 refine ⟨by rw[Uu];exact h,?_⟩;exact h.gf hk
theorem LN.of {k:Nat} {m:J'} (h:Ms k m) (hk:k<2199023255552):LN k (wM m):=λ r hr x hx=>by
 obtain ⟨s,hs,rfl⟩:=oa.1 hr;obtain ⟨y,hy,rfl⟩:=oa.1 hx;exact zF (h s hs y hy) hk
theorem LN.ms {k:Nat} {m:List (List CK)} (h:LN k m):Ms k (vM m):=λ r hr x hx=>by
 obtain ⟨s,hs,rfl⟩:=oa.1 hr;obtain ⟨y,hy,rfl⟩:=oa.1 hx;exact (h s hs y hy).1
theorem Zl {m:List (List CK)} {n:Nat} (h:m.length=n):(vM m).length=n:=by rw[vM,za];exact h
theorem Zm {m:List (List CK)} {w:Nat} (h : ∀ r∈m,r.length=w) : ∀ r∈vM m,r.length=w:=λ r hr=>by
 obtain ⟨s,hs,rfl⟩:=oa.1 hr;rw[za];exact h s hs
theorem Anx {m:J'} {n:Nat} (h:m.length=n):(wM m).length=n:=by rw[wM,za];exact h
theorem Any {m:J'} {w:Nat} (h : ∀ r∈m,r.length=w) : ∀ r∈wM m,r.length=w:=λ r hr=>by
 obtain ⟨s,hs,rfl⟩:=oa.1 hr;rw[wR,za];exact h s hs
end Go.c6

namespace Go.c6
open F
attribute [local irreducible] AA AF AL AC CQ AW BA A8 B3 BL CN D4 BP A1 B6 CF AB BG AH pw BV BO CS CY C2 BX CG BU CX
variable {L:Lib}
set_option maxRecDepth 8000
theorem AlF (x:Rat):qv false (dg x.num.natAbs) (dg x.den)=CW x:=by
 unfold CW;split
 ·rename_i h
  have:=EL (-x)
  rw[Hf,mf,Gf,show decide (-x.num<0)=false from decide_eq_false O']at this;exact this
 ·rename_i h
  have:=EL x
  rw[show decide (x.num<0)=false from decide_eq_false h]at this;exact this
theorem Ahk (N:fw L) {x:Rat} {k:Nat} (hx:Bt k x) (hk:k<2199023255552):Ev L 256 [.agg (eQ x)] (.agg (eQ (CW x))):=by
 have hs:=hx.sm hk;have hT:=nA N.toa5 false false false (dg x.num.natAbs) (dg x.den) (hs.1.le O') (hs.2.le O');rw[AlF]at hT;refine Ev.x N.TW rfl rfl ?_;repeat' (first|apply AE|refine AD (hT) ?_)<;>conv=>whnf
 exact AY rfl (DK _)
theorem Ag6 (z:Int):eQ (z:Rat)=[.bool (decide (z<0)),.sl false ((dg z.natAbs).map AM),.sl false [[.int .u32 1]]]:=by
 simp only[eQ,rQ,Rat.num_intCast,Rat.den_intCast,lW];rfl
def Ael {α:Type} (a:List (List α)) (n w:Nat):Prop:=a.length=n/\(∀ r∈a,r.length=w)/\(1<=n/\n<=52)/\1<=w/\w<=52
def UC {α:Type} (a:List (List α)):Bool:=decide (1<=a.length/\a.length<=52)&&(decide (1<=(a.headD []).length/\(a.headD []).length<=52)&&a.all λ r=>decide (r.length=(a.headD []).length))
theorem AlV {α:Type} {a:List (List α)}:UC a=true ↔ ∃ n w,Ael a n w:=by
 constructor
 ·intro h
  simp only[UC,Gd,decide_eq_true_eq,Fa]at h;exact ⟨a.length,(a.headD []).length,rfl,h.2.2,h.1,h.2.1⟩
 ·rintro ⟨n,w,h1,h2,h3,h4⟩
  have hd:(a.headD []).length=w:=by
   cases a with
   | nil=>simp at h1;omega
   | cons r a=>exact h2 r Z'
  simp only[UC,Gd,decide_eq_true_eq,Fa];rw[hd,h1];exact ⟨h3,h4,h2⟩
theorem AlU {α:Type} {a:List (List α)} {r:List α} (h:a[0]? = some r):a.headD []=r:=by
 cases a with
 | nil=>simp at h
 | cons x a=>simpa using h
theorem Ae1 {α:Type} {p:α->Bool} {l:List α} {i:Nat} {x:α} (hx:l[i]? = some x) (h:p x=false):l.all p=false:=by
 rw[List.all_eq_false];exact ⟨x,zM hx,by rw[h];decide⟩
theorem Ae0 {α:Type} {p:α->Bool} {l:List α} (h : ∀ (j:Nat) (x:α),l[j]? = some x->p x=true):l.all p=true:=by
 rw[Fa];intro x hx;obtain ⟨j,hj⟩:=Jb hx;exact h j x hj
theorem AhU (N:u9 L) (q q':Bool) (a:List (List CK)) (hn:a.length<=100000) (hr : ∀ r∈a,r.length<=100000):Ev L 229 [.sl q (IQ q' a)] (.bool (UC a)):=by
 by_cases h0:1<=a.length/\a.length<=52
 ·obtain ⟨r0,s8⟩:=H' a 0
  have Ar:a[(0:Int).toNat]? = some r0:=s8;have jf:=hr r0 (zM s8);have hB:UC a=(decide (1<=r0.length/\r0.length<=52)&&a.all λ r=>decide (r.length=r0.length)):=by
   rw[UC,decide_eq_true h0,Bool.true_and,AlU s8]
  rw[hB];refine Ev.x N.L2 rfl rfl ?_;repeat' (first|(apply AG<;>intro hc<;>try omega)|apply AR|(refine A4 V' ?_ rfl ?_;omega)|apply AE)<;>conv=>whnf
  refine CE (λ i=>a.length-i) (λ(i:Nat)=>i<=a.length /\ ∀ j x,j<i->a[j]? = some x->x.length=r0.length) (λ i=>[(20,.int .i64 i)]) (λ_=>[]) 0 ⟨O',O'⟩ ?_;intro i ⟨p1,p2⟩ ih;by_cases hi:i<a.length
  ·obtain ⟨r,z0⟩:=H' a i
   have ja:a[(i:Int).toNat]? = some r:=z0;have hl:=hr r (zM z0);by_cases he:r.length=r0.length
   ·repeat' (first|(apply AG<;>intro hc<;>try omega)|(apply AP;omega)|apply AR|(refine A4 V' ?_ rfl ?_;omega)|apply AE)<;>conv=>whnf
    exact A9 [] (ih (i+1) O' ⟨O',λ j x hj hx=>by
     by_cases e:j=i
     ·subst e;rw[z0]at hx;obtain rfl:=uc hx;exact he
     ·exact p2 j x O' hx⟩)
   ·rw[Ae1 z0 (decide_eq_false he),Og]
    repeat' (first|(apply AG<;>intro hc<;>try omega)|apply AR|(refine A4 V' ?_ rfl ?_;omega)|apply AE)<;>conv=>whnf
    exact FB rfl
  ·obtain rfl:i=a.length:=O'
   clear ih;rw[Ae0 (p:=λ r=>decide (r.length=r0.length)) λ j x hx=>decide_eq_true (p2 j x (zS hx).1 hx),je];repeat' (first|(apply AG<;>intro hc<;>try omega)|apply AE)<;>conv=>whnf
   all_goals exact FB G'
 ·rw[UC,decide_eq_false h0,Bool.false_and]
  refine Ev.x N.L2 rfl rfl ?_;repeat' (first|(apply AG<;>intro hc<;>try omega)|apply AR|apply AE)<;>conv=>whnf
  all_goals exact FB rfl
theorem AlW {α:Type} {a:List (List α)} {n w:Nat} (h:a.length=n) (hw : ∀ r∈a,r.length=w) (h1:1<=n/\n<=52) (h2:1<=w/\w<=52):UC a=true:=AlV.2 ⟨n,w,h,hw,h1,h2⟩
theorem AhT (N:u9 L) (q q':Bool) (a:List (List CK)) (n w:Nat) (hn:a.length=n) (hw : ∀ r∈a,r.length=w) (h1:1<=n/\n<=52) (h2:1<=w/\w<=52):Ev L 229 [.sl q (IQ q' a)] (.bool true):=by
 rw[<-AlW hn hw h1 h2];exact AhU N q q' a O' λ r hr=>by rw[hw r hr];omega
theorem pD {T:J'} {n i:Nat} (hl:T.length=n) (hi:i<n):(mz T n i)[i]? = some none:=by
 have eo:(BJ 3 eQ (T.take i)).length=i:=by simp only[BJ,za,xa];omega
 have:=nP (z:=(none:P')) (l:=BJ 3 eQ (T.take i)) (m:=n) O'
 rw[eo]at this;exact this
theorem AhC (N:o4 L) (m:J') (b:K') (q1 q2 q3:Bool) (n k s:Nat) (hs:Sq n m) (hb:b.length=n) (hm:Ms k m) (jq:Bs s b) (hn:n<=4) (hK:4*(k+s+1)+k+s<2199023255552):Ev L 138 [.sl q1 (DC q3 m),.sl q2 (b.map eQ)] (.sl false ((EK m b).map eQ)):=by
 have cq:=hs.l;have gd:=gJ m b;refine Ev.x N.PT rfl rfl ?_;(repeat' (apply AE<;>conv=>whnf))
 refine CE (λ j=>m.length-j) (λ(j:Nat)=>j<=m.length) (λ j=>[(6,.int .i64 j),(5,.row 138005 0 3 0 j)]) (λ j=>[(138005,138005,.rw 3 (((EK m b).take j).map eQ))]) 0 O' ?_;intro j r1 jh;have hlen:((EK m b).take j).length=j:=by rw[xa];omega
 by_cases hj:j<m.length
 ·obtain ⟨r,hr⟩:=H' m j hj
  have ja:m[(j:Int).toNat]? = some r:=hr;have bh:=hs.at hr;have hP2:=λ q q'=>wY N r b q q' k s O' (hm.at hr) jq (by rw[bh];have:=zR (k+s+1) hn;omega) O'
  have hy:(EK m b)[j]? = some (AZ r b):=by rw[EK,sa,hr];rfl
  have Ic:((EK m b).take (j+1)).length=j+1:=by rw[xa];omega
  repeat' (first|(apply AG<;>intro hc<;>try omega)|apply AR|(refine A4 V' ?_ rfl ?_;omega)|apply DG|apply AE|refine AD (hP2 _ _) ?_)<;>conv=>whnf
  refine EE (enc:=eQ) (AZ r b) rfl hlen.symm rfl O' O' ?_;conv=>whnf
  repeat' (first|(apply AP;omega)|fail)<;>conv=>whnf
  rw[<-XJ hy,Ic];exact A9 [(138005,138021)] (jh (j+1) O' O')
 obtain rfl:j=m.length:=O'
 clear jh;rw[zT O'];repeat' (first|(apply AG<;>intro hc<;>try omega)|apply AR|apply AE)<;>conv=>whnf
 refine C8 (enc:=eQ) (λ_=>rfl) rfl gd.symm ?_;conv=>whnf
 exact AY rfl (by simp only[A3,true_and];exact KA _)
theorem Afp (w:CK):B7 (eW w):=by
 simp only[eW,rQ,B7,A3,and_true,true_and];exact ⟨CP _,CP _⟩
theorem uB : ∀ l:List CK,EZ (l.map eW)
 | []=>trivial
 | w::l=>⟨Afp w,uB l⟩
def GN (a b:List (List CK)):List (List CK):=List.zipWith (· ++ ·) a b
theorem Uj {a b:List (List CK)} {i:Nat} {r s:List CK} (hr:a[i]? = some r) (hs:b[i]? = some s):(GN a b)[i]? = some (r++s):=by
 rw[GN,Mf,hr,hs]
theorem Xl : ∀ a b:List (List CK),vM (GN a b)=C1 (vM a) (vM b)
 | [],_=>by simp [GN,C1,vM]
 | _::_,[]=>by simp [GN,C1,vM]
 | r::a,s::b=>by
  have:=Xl a b
  simp only[GN,C1,vM,List.zipWith_cons_cons,Qc,kc]at this ⊢;rw[this]
theorem Ako {a b:List (List CK)} {n:Nat} (h:a.length=n) (g:b.length=n):(GN a b).length=n:=by simp [GN,h,g]
theorem Akn {a b:List (List CK)} {n w k:Nat} (km : ∀ r∈a,r.length=n) (va : ∀ r∈b,r.length=w) (bq:LN k a) (jq:LN k b):(∀ r∈GN a b,r.length=n+w)/\LN k (GN a b):=by
 have key : ∀ r∈GN a b,∃ x∈a,∃ y∈b,r=x++y:=λ r hr=>by
  obtain ⟨i,hi⟩:=Jb hr;have w9:=(zS hi).1;simp only[GN,oe]at w9;obtain ⟨x,hx⟩:=H' a i;obtain ⟨y,hy⟩:=H' b i;obtain rfl:=uc ((Uj hx hy).symm.trans hi);exact ⟨x,zM hx,y,zM hy,rfl⟩
 constructor
 ·intro r hr
  obtain ⟨x,hx,y,hy,rfl⟩:=key r hr;rw[ga,km x hx,va y hy]
 ·intro r hr z hz
  obtain ⟨x,hx,y,hy,rfl⟩:=key r hr;rcases Ga.1 hz with hz|hz
  ·exact bq x hx z hz
  ·exact jq y hy z hz
def mN:Option (List CK)->u_
 | none=>[.nil]
 | some r=>[.sl false (r.map eW)]
theorem Ai3 {n:Nat} {l:List (List CK)} (h:l.length=n):(fz none (l.map some) n).map mN=IQ false l:=by
 rw[K8 (by simpa using h),xb];rfl
def wN (p:Bool × List CK):u_:=[.sl p.1 (p.2.map eW)]
def H9 (P:List (Bool × List CK)) (i:Nat):List CK:=((P.take i).map xh).flatten
theorem zH {P:List (Bool × List CK)} {i:Nat} {p:Bool × List CK} (h:P[i]? = some p):H9 P (i+1)=H9 P i++p.2:=by
 simp only[H9,Ob,h,Jc,kc,Qc,Nc,od,Cc,List.flatten_nil,Ib]
theorem Ahn (N:u9 L) (q:Bool) (P:List (Bool × List CK)) (n:Nat) (hn:P.length=n) (Kx:n<=100) (hB : ∀ i,(H9 P i).length<=2000) (h0:0<(H9 P n).length):Ev L 228 [.sl q (P.map wN)] (.sl false ((H9 P n).map eW)):=by
 refine Ev.x N.MW rfl rfl ?_;repeat' (first|apply AR|apply AE)<;>conv=>whnf
 refine CE (λ i=>n-i) (λ(i:Nat)=>i<=n) (λ i=>[(11,.int .i64 i),(3,.int .i64 (H9 P i).length)]) (λ_=>[]) 0 O' ?_;intro i p1 ih;by_cases hi:i<n
 ·obtain ⟨p,hp⟩:=H' P i
  have Fi:P[(i:Int).toNat]? = some p:=hp;have hs:=zH hp;have hb:=hB i;have qk:=hB (i+1);have hl:(H9 P (i+1)).length=(H9 P i).length+p.2.length:=by rw[hs,ga]
  repeat' (first|(apply AG<;>intro hc<;>try omega)|(apply AP;omega)|apply AR|(refine A4 V' ?_ rfl ?_;omega)|apply AE)<;>conv=>whnf
  rw[show ((H9 P i).length:Int)+(p.2.length:Int)=((H9 P (i+1)).length:Nat) by rw[hl];omega];exact A9 [] (ih (i+1) O' O')
 ·obtain rfl:i=n:=O'
  clear ih;have hb:=hB i;repeat' (first|(apply AG<;>intro hc<;>try omega)|apply AE)<;>conv=>whnf
  refine GU 1000 N.VD rfl rfl ?_;repeat' (first|(apply AG<;>intro hc<;>try omega)|(apply AX;omega)|(apply BS;omega)|apply AE)<;>conv=>whnf
  refine AX ⟨O',by simp only[DX];omega,O'⟩ ?_;conv=>whnf
  refine rV ⟨O',O'⟩ ?_;conv=>whnf
  skip
  refine ⟨rfl,_,rfl,?_⟩;conv=>whnf
  (repeat' (apply AR<;>conv=>whnf))
  refine CE (λ j=>i-j) (λ(j:Nat)=>j<=i) (λ j=>[(27,.int .i64 j),(6,.row 227022 0 3 0 (H9 P j).length)]) (λ j=>[(227022,227022,.rw 3 ((H9 P j).map eW))]) 0 O' ?_;intro j p2 jh;by_cases hj:j<i
  ·obtain ⟨p,hp⟩:=H' P j
   have Fi:P[(j:Int).toNat]? = some p:=hp;have hs:=zH hp;have hb:=hB j;have qk:=hB (j+1);have hl:(H9 P (j+1)).length=(H9 P j).length+p.2.length:=by rw[hs,ga]
   repeat' (first|(apply AG<;>intro hc<;>try omega)|(refine A4 V' ?_ rfl ?_;omega)|apply AE)<;>conv=>whnf
   refine ZK rfl (λ_=>rfl) O' O' ?_;rw[<-hs];conv=>whnf
   repeat' (first|(apply AP;omega)|fail)<;>conv=>whnf
   exact A9 [(227022,33)] (jh (j+1) O' O')
  ·obtain rfl:j=i:=O'
   clear jh;repeat' (first|(apply AG<;>intro hc<;>try omega)|(refine C8 (λ_=>rfl) rfl ?_ ?_;(first|rfl|simp))|apply AE)<;>conv=>whnf
   exact AY rfl (by simp only[A3,true_and];exact uB _)
theorem Aho (N:u9 L) (q q1 q2:Bool) (a b:List CK) (ha:a.length<=1000) (hb:b.length<=1000) (h0:0<a.length):Ev L 228 [.sl q [[.sl q1 (a.map eW)],[.sl q2 (b.map eW)]]] (.sl false ((a++b).map eW)):=by
 have:=Ahn N q [(q1,a),(q2,b)] 2 rfl O' (λ i=>by
  rcases i with _|_|_|i<;>simp [H9]<;>omega) (by simp [H9];omega)
 simpa [H9,wN] using this
def LC (y:Nat->K') (n w:Nat):J':=(Qa n).map λ i:Nat=>(Qa w).map λ c=>(y c).getD i 0
theorem Zi {m0 m:J'} {K n W c:Nat} {P:N'} {odd:Bool} {l:Rat} (hE:HX m0 K W n m P c odd l) (hP:P.length=n) (cq:m.length=n):X1 (A2 m) n:=by
 have hc:c=n:=by have:=hE.z7.le;have:=hE.cc;omega
 subst hc;exact hE.z7.Ry λ i hi=>by
  obtain ⟨q,hq⟩:=H' P i;rw[hq,hE.z7.diag hP i q hq]
theorem AmO {m0 m a b:J'} {K n w c:Nat} {P:N'} {odd:Bool} {l:Rat} (hE:HX m0 K (n+w) n m P c odd l) (hs:ZT m0 (C1 a b)) (hl:a.length=b.length) (km : ∀ r∈a,r.length=n) (va : ∀ r∈b,r.length=w) (hP:P.length=n) (cq:m.length=n) :
  ∀ c',c'<w -> ∀ (i:Nat) (r s:K'),a[i]? = some r->b[i]? = some s->AZ r ((ET (n+c') l m 0).map (· / l))=s.getD c' 0:=by
 intro c' o7 i r s hr uj;have ht:=Zi hE hP cq;have hlen:=hE.z7.lr;refine AfE (λ X=>(hE.ku X).trans (hs.ku X)) hl km va o7 (by rw[za,QH];exact cq) hlen (λ x hx => ?_) hr uj;have h1:=Afj (c:=n+c') (l:=l) (λ r hr=>by rw[hlen r hr];omega) cq ht x hx;have rf:((ET (n+c') l m 0).map (· * l⁻¹)).length=n:=by rw[za,QH];exact cq
 rw[show ((ET (n+c') l m 0).map (· / l))=(ET (n+c') l m 0).map (· * l⁻¹) from Qb λ z _=>ve z l,HN,<-V9 rf,List.take_take,Nat.min_self,V9 rf,WB,HN,h1,ff,kd _ hE.l0,Od]
theorem AmR (N:u9 L) (q q1 q2 q3:Bool) (a0 b0:List (List CK)) (a:List (List CK)) (n WW k:Nat) {K:Nat} (y9:a.length=n) (km : ∀ r∈a,r.length=WW) (hn:1<=n/\n<=52) (hW:WW<=104) (bq:LN k a) (mo : ∀ r∈vM a,∀ j,Bt K (C7 (r.take j))) (Du:k<=K) (Mg:K<=1000000000000) {kk:List It} {Q:Tm->Mem->Prop}
  (n8:AA L kk ([(5,.row 231019 0 3 0 n),(4,.row 231016 0 1 0 n)]++[(1000+43,.row 22 0 1 0 n),(1000+26,.bool false),(1000+25,.int .i64 n),(1000+24,.int .i64 n),(1000+7,.row 22 0 1 0 n),(1000+6,.int .i64 n),(1000+0,.sl q (IQ q1 a0)),(1000+(0+1),.sl q2 (IQ q3 b0))]) ([(231016,231016,.mx (BJ 3 eQ (whole (vM a)))),(231019,231019,.rw 3 (((vM a).map C7).map eQ))]++[(22,22,.rw 1 (IQ false a))]) Q) :
  AA L (.lp JT.l1 :: .c9 0::kk) ([(22,.int .i64 0),(21,.int .i64 n),(20,.row 22 0 1 0 n),(5,.row 231019 0 3 0 n),(4,.row 231016 0 1 0 n)]++[(1000+43,.row 22 0 1 0 n),(1000+26,.bool false),(1000+25,.int .i64 n),(1000+24,.int .i64 n),(1000+7,.row 22 0 1 0 n),(1000+6,.int .i64 n),(1000+0,.sl q (IQ q1 a0)),(1000+(0+1),.sl q2 (IQ q3 b0))]) ([(231016,231016,.mx (qa n none)),(231019,231019,.rw 3 ((qa n none).map eO))]++[(22,22,.rw 1 (IQ false a))]) Q:=by
 have hI:=GZ N.toa5 1 O';refine XU (l:=[_,_]) rfl ?_;refine DF (λ i=>n-i) (λ(i:Nat)=>i<=n) (λ i=>[(22,.int .i64 i)]) (λ i=>[(231016,231016,.mx (mz (whole (vM a)) n i)),(231019,231019,.rw 3 ((FH (((vM a).map C7).take i) n).map eO))]) [] [] 0 (by first|exact B'|(rw[<-gO (whole (vM a)),Ha,<-SP];exact B')) O' ?_;intro i p1 ih;have Ro:=gL (Q:=whole (vM a)) p1;by_cases hi:i<n
 ·obtain ⟨r,hr⟩:=H' a i
  have ja:a[(i:Int).toNat]? = some r:=hr;have bh:=km r (zM hr);have jg:=bq r (zM hr);obtain ⟨rv,Fm⟩ : ∃ rv,r.map CK.v=rv:=⟨_,rfl⟩;have Lh:(vM a)[i]? = some rv:=by rw[<-Fm,vM,sa,hr];rfl
  have Ql:rv.length=WW:=by rw[<-Fm,za];exact bh
  have yd : ∀ (j:Nat) (x:CK),r[j]? = some x->rv[j]? = some x.v:=λ j x hx=>by rw[<-Fm,sa,hx];rfl
  have g9:=gN (Q:=whole (vM a)) (i:=i) (n:=n) (row:=rv.map (· * C7 rv)) (by rw[whole,sa,Lh];rfl) hi;have Qp:((vM a).map C7)[i]? = some (C7 rv):=by rw[sa,Lh];rfl
  generalize mz (whole (vM a)) n i=R0 at *;have uk : ∀ j,Bt K (C7 (rv.take j)):=mo rv (zM Lh);have Jg:=uk WW;rw[zT O']at Jg;repeat' (first|(apply AG<;>intro hc<;>try omega)|(apply AX;omega)|apply AR|(refine GR ?_ (λ_=>rfl) (λ v hv => ?_);omega)|apply AE|refine AD (hI) ?_)<;>conv=>whnf
  try cases hr.symm.trans hv
  refine FJ (λ j _=>WW-j) (λ(j:Nat) (s:Rat)=>j<=WW/\s=C7 (rv.take j)) (λ j _=>[(30,.int .i64 j)]) (λ_ s=>[(231008,231008,.bx (eQ s))]) 0 ((1:Int):Rat) ⟨O',by rw[Ha];rfl⟩ ?_;intro j s ⟨p2,p3⟩ jh;by_cases hj:j<WW
  ·obtain ⟨x,hx⟩:=H' r j
   have dv:r[(j:Int).toNat]? = some x:=hx;have Jh:Bt K s:=by rw[p3];exact uk j
   have sx:=jg x (zM hx);have bx:=sx.1;have dd:=Ah2 N.toa5 Jh sx.2 O' (zb _);have de:=AhZ N.toa5 true Jh (Jh.mul bx).2 O' O';have ml:C7 (rv.take (j+1))=s*(((s*x.v).den:Nat):Rat):=by rw[XJ (yd j x hx),Uy,<-p3];rfl
   repeat' (first|(apply AG<;>intro hc<;>try omega)|(apply AP;omega)|(refine A4 V' ?_ rfl ?_;omega)|refine GS rfl ?_|apply AE|refine AD (dd) ?_|refine AD (de) ?_)<;>conv=>whnf
   exact BN [] B' (jh (j+1) _ O' ⟨O',ml.symm⟩)
  have ej:j=WW:=O'
  clear jh;rw[zT O']at p3;subst p3;repeat' (first|(apply AG<;>intro hc<;>try omega)|apply AR|apply AE)<;>conv=>whnf
  rw[bh];refine DW (enc:=eO) none WW rfl O' O' ?_;conv=>whnf
  repeat' (first|(apply AX;omega)|fail)<;>conv=>whnf
  refine AX Z' ?_;refine R3 (i:=i) O' O' ?_;conv=>whnf
  (repeat' (apply AR<;>conv=>whnf))
  refine DF (λ j=>WW-j) (λ(j:Nat)=>j<=WW) (λ j=>[(53,.int .i64 j)]) (λ j=>[(231016,231016,.mx (R0.set i (some (3,(FH ((rv.map (· * C7 rv)).take j) WW).map eO))))]) [] [] 0 (by first|exact B'|(rw[Ha,<-SP];exact B')) O' ?_;intro j r2 jh;have Ch:((rv.map (· * C7 rv)).take j).length=j:=by rw[xa,za];omega
  have Pm:=QU (l:=(rv.map (· * C7 rv)).take j) (m:=WW) O';by_cases hj:j<WW
  ·obtain ⟨x,hx⟩:=H' r j
   have dv:r[(j:Int).toNat]? = some x:=hx;have sx:=jg x (zM hx);have dd:=Ah1 N.toa5 sx.2 Jg (zb _) O';have hs:=SR (l:=(rv.map (· * C7 rv)).take j) (m:=WW) (x:=x.v*C7 rv) O';rw[Ch,<-XJ (show (rv.map (· * C7 rv))[j]? = some (x.v*C7 rv) by rw[sa,yd j x hx];rfl)]at hs;generalize FH ((rv.map (· * C7 rv)).take j) WW=W0 at *;repeat' (first|(apply AG<;>intro hc<;>try omega)|(apply AX;omega)|(refine A4 V' ?_ rfl ?_;omega)|apply AE)<;>conv=>whnf
   refine RU O' O' ?_;conv=>whnf
   (repeat' (refine AD (dd) ?_<;>conv=>whnf))
   refine AX E' ?_;conv=>whnf
   skip
   refine N0 O' O' ?_;conv=>whnf
   refine E5 (enc:=eO) (some (x.v*C7 rv)) rfl (λ e=>by cases e<;>rfl) O' ?_;conv=>whnf
   rw[hs];refine dA O' (by rw[za,za,<-hs,Oa]) ?_;conv=>whnf
   repeat' (first|(apply AP;omega)|fail)<;>conv=>whnf
   exact A9 [] (jh (j+1) O' O')
  have ej:j=WW:=O'
  clear jh;rw[zT E',SN (by rw[za];exact Ql),g9];have vi:(((vM a).map C7).take i).length=i:=by rw[xa,za,vM,za];omega
  have hfi:=QU (l:=((vM a).map C7).take i) (m:=n) O';have iu:=SR (l:=((vM a).map C7).take i) (m:=n) (x:=C7 rv) O';rw[vi,<-XJ Qp]at iu;generalize FH (((vM a).map C7).take i) n=W1 at *;repeat' (first|(apply AG<;>intro hc<;>try omega)|(apply AX;omega)|apply AE)<;>conv=>whnf
  refine E5 (enc:=eO) (some (C7 rv)) rfl (λ e=>by cases e<;>rfl) O' ?_;conv=>whnf
  rw[iu];repeat' (first|(apply AP;omega)|fail)<;>conv=>whnf
  exact A9 [] (ih (i+1) O' O')
 have ei:i=n:=O'
 clear ih;rw[ei,gK (by simp [whole,vM,y9]),zT (by rw[za,vM,za];omega),SN (by rw[za,vM,za];exact y9)];repeat' (first|(apply AG<;>intro hc<;>try omega)|apply AE)<;>conv=>whnf
 exact BN [] B' n8
theorem AmQ (N:u9 L) (q2 q3:Bool) (b0 jm:List (List CK)) {m0 m1:J'} {n cw WW K0 c:Nat} {P:N'} {o:Bool} {l:Rat} {rp:K'} (sc:K') (uf:m0.length=n) (hn:1<=n/\n<=52) (hW:cw<=WW) (Nb:WW<=104) (yo:1<=K0) (hB:6^n*K0<=1000000000000) (hP:P.length<n) (lg:c<cw) (hS:QG m0 K0 WW cw P c o l rp m1 (P.length+1)) {kk:List It} {Q:Tm->Mem->Prop}
  (n8 : ∀ m2,QG m0 K0 WW cw P c o l rp m2 n->AA L kk ([(9,.bool o),(8,.int .i64 c),(7,.int .i64 (P.length:Nat)),(10,.ptr 233010 0 0 0),(5,.ptr 233005 0 0 0),(0,.row 231016 0 1 0 n),(0+1,.int .i64 cw)]++[(1000+49,.int .i64 n),(1000+48,.row 231016 0 1 0 n),(1000+9,.row 231016 0 1 0 n),(1000+6,.int .i64 n),(1000+(0+1),.sl q2 (IQ q3 b0))]) ([(231016,231016,.mx (BJ 3 eQ m2)),(233010,233010,.bx (eQ l)),(233005,233005,.bx [.bool false,.nil,.nil])]++[(22,22,.rw 1 (IQ false jm)),(231019,231019,.rw 3 (sc.map eQ))]) Q) :
  AA L (.lp IR.l4 :: .c9 6::kk) ([(12,.int .i64 ((P.length+1:Nat):Int)),(9,.bool o),(8,.int .i64 c),(7,.int .i64 (P.length:Nat)),(10,.ptr 233010 0 0 0),(5,.ptr 233005 0 0 0),(0,.row 231016 0 1 0 n),(0+1,.int .i64 cw)]++[(1000+49,.int .i64 n),(1000+48,.row 231016 0 1 0 n),(1000+9,.row 231016 0 1 0 n),(1000+6,.int .i64 n),(1000+(0+1),.sl q2 (IQ q3 b0))]) ([(231016,231016,.mx (BJ 3 eQ m1)),(233010,233010,.bx (eQ l)),(233005,233005,.bx [.bool false,.nil,.nil])]++[(22,22,.rw 1 (IQ false jm)),(231019,231019,.rw 3 (sc.map eQ))]) Q:=by
 refine XU (l:=[_,_]) rfl ?_;refine FJ (λ_ i=>n-i) (λ(m:J') (i:Nat)=>QG m0 K0 WW cw P c o l rp m i/\P.length+1<=i/\i<=n) (λ_ i=>[(12,.int .i64 i)]) (λ m _=>[(231016,231016,.mx (BJ 3 eQ m))]) m1 (P.length+1) ⟨hS,O',O'⟩ ?_;clear hS;intro m2 i ⟨hS,j1,j2⟩ sh;have xf:=hS.len;rw[uf]at xf;by_cases hj:i<n
 ·obtain ⟨rq,fb⟩:=H' m2 i
  have qw:=hS.ht;have Jd:=hS.z7.lr rq (zM fb);have ct:=hS.z7.lr rp (zM qw);repeat' (first|(apply AG<;>intro hc<;>try omega)|(apply AX;omega)|(refine GG ?_ (λ r hr => ?_);omega)|apply AE)<;>conv=>whnf
  rename_i rA hrA;cases fb.symm.trans hrA;cases qw.symm.trans hr;rw[show 0+((i:Nat):Int).toNat=i by omega,show 0+((P.length:Nat):Int).toNat=P.length by omega,show (Lf eQ rq).length=WW by rw[za];exact Jd,show (Lf eQ rp).length=WW by rw[za];exact ct];have ui:rq[c]? = some (rq.getD c 0):=S3 O';refine GU 1000 N.OQ rfl rfl ?_;have xj:rp[c]? = some (rp.getD c 0):=S3 O';have Ei:=hS.step O' fb;have l9:(comb (rp.getD c 0) (rq.getD c 0) l rq rp).length=WW:=by rw[lI O'];exact Jd
  have hcg:=λ j=>lH (p:=rp.getD c 0) (f:=rq.getD c 0) (l:=l) (r:=rq) (t:=rp) O' j
  have jk:=λ j (h:j<c)=>hS.z7.zr i rq O' fb j h
  have mu:=λ j (h:j<c)=>hS.z7.zr P.length rp (zb _) qw j h
  have hbq:=hS.hi i rq (zb i) fb;have hbp:=hS.bt;have da:=hS.bl;have jf:=hS.l0;have Di:=hbp.at xj;have Dj:=hbq.at ui;generalize Lb:rp.getD c 0=pv at *;generalize hfv:rq.getD c 0=fv at *;generalize zh:comb pv fv l rq rp=cb at *;have Il:cb.take c++rq.drop c=rq:=AkN O' λ j hj=>⟨by rw[hcg,jk j hj,mu j hj,Ed,Ed,Rat.sub_eq_add_neg,Rat.neg_zero,Rat.add_zero,ve,Ed],jk j hj⟩
  have yu:=Q6 (z:=3) fb;have hRp:=Q6 (z:=3) qw;have Mp:(BJ 3 eQ m2).length=n:=by simp only[BJ,za];omega
  have Ez:(BJ 3 eQ m2).set i (some (3,cb.map eQ))=BJ 3 eQ (m2.set i cb):=by simp only[BJ,Oe]
  generalize BJ 3 eQ m2=R2 at *;have Gy:R2.set i (some (3,rq.map eQ))=R2:=qF yu;repeat' (first|(apply AX;omega)|apply AE)<;>conv=>whnf
  refine cQ hRp ?_;conv=>whnf
  repeat' (first|(apply AX;omega)|(refine GR ?_ (λ_=>rfl) (λ v hv => ?_);omega))<;>conv=>whnf
  cases xj.symm.trans hv;skip
  refine cQ yu ?_;conv=>whnf
  repeat' (first|(refine GR ?_ (λ_=>rfl) (λ v hv => ?_);omega)|fail)<;>conv=>whnf
  cases ui.symm.trans hv;skip
  have hp7:=oc (Vc yo P.length) (iF hB (show P.length+1<=n by omega));generalize 6^P.length*K0=BB at *;refine DF (λ j=>WW-j) (λ(j:Nat)=>c<=j/\j<=WW) (λ j=>[(10,.int .i64 j)]) (λ j=>[(231016,231016,.mx (R2.set i (some (3,(cb.take j++rq.drop j).map eQ))))]) [] [] c (by first|exact B'|(rw[Il,Gy];exact B')) ⟨O',O'⟩ ?_;intro j ⟨k1,k2⟩ jh;have cq:(cb.take j++rq.drop j).length=WW:=by rw[ga,xa,tb];omega
  by_cases hjn:j<WW
  ·obtain ⟨x,hx⟩:=H' rq j
   obtain ⟨y,hy⟩:=H' rp j;have Bq:cb[j]? = some ((x*pv-y*fv)/l):=by rw[<-zh];exact AfL hx hy
   have Ii:=AkL (a:=cb) O' hx;have lk:=AkM (b:=rq) O' Bq;have bx:=hbq.at hx;have zy:=hbp.at hy
   have dd:=H7 N.toa5 bx Di O' O';have de:=H7 N.toa5 zy Dj O' O'
   have Hd:=fA N.toq9 (bx.mul Di) (zy.mul Dj) O' O';have hDi:=aF N.toa5 ((bx.mul Di).pf (zy.mul Dj)) da O' O' jf;have Mq:(R2.set i (some (3,(cb.take j++rq.drop j).map eQ)))[P.length]? = some (some (3,rp.map eQ)):=by rw[Dc,if_neg O'];exact hRp
   generalize cb.take j++rq.drop j=cm at *;repeat' (first|(apply AG<;>intro hc<;>try omega)|(apply AX;omega)|apply AE)<;>conv=>whnf
   refine N0 rfl O' ?_;conv=>whnf
   repeat' (first|(refine GR ?_ (λ_=>rfl) (λ v hv => ?_);omega)|fail)<;>conv=>whnf
   cases Ii.symm.trans hv;repeat' (first|(apply AX;omega)|refine AD (dd) ?_)<;>conv=>whnf
   refine cQ Mq ?_;conv=>whnf
   repeat' (first|(refine GR ?_ (λ_=>rfl) (λ v hv => ?_);omega)|fail)<;>conv=>whnf
   cases hy.symm.trans hv;repeat' (first|refine AD (de) ?_|refine AD (Hd) ?_)<;>conv=>whnf
   repeat' (first|(apply AX;omega)|refine AD (hDi) ?_)<;>conv=>whnf
   refine N0 rfl O' ?_;conv=>whnf
   refine E5 (enc:=eQ) ((x*pv-y*fv)/l) rfl (λ_=>rfl) O' ?_;rw[lk];conv=>whnf
   refine dA rfl (by rw[za,za,<-lk,Oa]) ?_;conv=>whnf
   repeat' (first|(apply AP;omega)|fail)<;>conv=>whnf
   exact A9 [] (jh (j+1) O' ⟨O',O'⟩)
  ·have ej:j=WW:=O'
   clear jh;rw[zT O',nb O',Ib,Ez];repeat' (first|(apply AG<;>intro hc<;>try omega)|apply AE)<;>conv=>whnf
   refine ⟨rfl,_,rfl,?_⟩;conv=>whnf
   repeat' (first|(apply AP;omega)|fail)<;>conv=>whnf
   exact A9 [] (sh (m2.set i cb) (i+1) O' ⟨Ei,O',O'⟩)
 ·have ei:i=n:=O'
  clear sh;rw[ei]at hS;repeat' (first|(apply AG<;>intro hc<;>try omega)|apply AE)<;>conv=>whnf
  exact BN [] B' (n8 m2 hS)
theorem Akp {a b:J'} {n w k:Nat} (km : ∀ r∈a,r.length=n) (va : ∀ r∈b,r.length=w) (bq:Ms k a) (jq:Ms k b):(∀ r∈C1 a b,r.length=n+w)/\Ms k (C1 a b):=by
 constructor
 ·intro r hr
  obtain ⟨i,hi⟩:=Jb hr;have w9:=(zS hi).1;simp only[C1,oe]at w9;obtain ⟨x,hx⟩:=H' a i;obtain ⟨y,hy⟩:=H' b i;obtain rfl:=uc ((WU hx hy).symm.trans hi);rw[ga,km x (zM hx),va y (zM hy)]
 ·intro r hr
  obtain ⟨i,hi⟩:=Jb hr;have w9:=(zS hi).1;simp only[C1,oe]at w9;obtain ⟨x,hx⟩:=H' a i;obtain ⟨y,hy⟩:=H' b i;obtain rfl:=uc ((WU hx hy).symm.trans hi);intro z hz;rcases Ga.1 hz with hz|hz
  ·exact bq.at hx z hz
  ·exact jq.at hy z hz
def X0 (a b:J') (n w S B0:Nat):Prop := ∀ (m:J') (l:Rat) (c:Nat),c<w->m.length=n->Ms S m->Bt S l->l≠0->NS n a->(∀ (i:Nat) (r s:K'),a[i]? = some r->b[i]? = some s->AZ r ((ET (n+c) l m 0).map (· / l))=s.getD c 0) -> ∃ C:Nat->Nat,(∀ k,Bs (C k) (ET (n+c) l (m.drop k) k))/\(∀ k,k<n->3*S+n*(S+C (k+1)+1)<=1000000000000)/\C 0<=1000000000000/\Bs B0 ((ET (n+c) l m 0).map (· / l))
theorem tS (c:Nat) (l:Rat) : ∀ (k:Nat) (m:J') (i:Nat),ET c l (m.drop k) (i+k)=(ET c l m i).drop k
 | 0,m,i=>rfl
 | k+1,[],i=>rfl
 | k+1,r::m,i=>by
  rw[zg,ET,zg,<-tS c l k m (i+1),show i+1+k=i+(k+1) by omega]
theorem X0.Rw {a b:J'} {n w S Q:Nat} (hQ:NS n a -> ∀ c,c<w -> ∀ X:K',X.length=n->(∀ (i:Nat) (r s:K'),a[i]? = some r->b[i]? = some s->AZ r X=s.getD c 0)->Bs Q X) (hC:3*S+n*(2*S+Q+1)<=1000000000000) (hn:1<=n):X0 a b n w S Q:=λ m l c hc hm lk hl jf z9 hs=>by
 have hX:=hQ z9 c hc _ (by rw[za,QH];exact hm) hs;have hb : ∀ k,Bs (S+Q) (ET (n+c) l (m.drop k) k):=λ k x hx=>by
  have e:=tS (n+c) l k m 0;rw[Rf]at e;rw[e]at hx;have h1:=hX _ (oa.2 ⟨x,ze hx,rfl⟩);have h2:=h1.mul hl;rw[og jf]at h2;exact h2.le O'
 have e2:n*(S+(S+Q)+1)<=n*(2*S+Q+1):=yg n O';have e3:S+Q<=n*(2*S+Q+1):=oc O' (zR (2*S+Q+1) hn);exact ⟨λ_=>S+Q,hb,λ k _=>by show 3*S+n*(S+(S+Q)+1)<=_;omega,by show S+Q<=_;omega,hX⟩
theorem AiM (N:u9 L) (q q1 q2 q3:Bool) (aw bw:List (List CK)) (n w k K0:Nat) (tu:aw.length=n) (qj : ∀ r∈aw,r.length=n) (ql:bw.length=n) (wq : ∀ r∈bw,r.length=w) (hn:1<=n/\n<=52) (hw:1<=w/\w<=52) (Du:k<=K0) (yo:1<=K0) (Kp:LN k aw) (Dt:LN k bw)
  (mo : ∀ r∈C1 (vM aw) (vM bw),∀ j,Bt K0 (C7 (r.take j))) (ye:Ms K0 (whole (C1 (vM aw) (vM bw))))
  (hB:6^n*K0<=1000000000000) {B0:Nat} (uk:X0 (vM aw) (vM bw) n w (6^n*K0) B0) :
  ∃ v,Ev L 235 [.sl q (IQ q1 aw),.sl q2 (IQ q3 bw)] v/\((¬ NS n (vM aw)/\v = .c5 [.sl false [],.int .i64 11])\/(NS n (vM aw) /\ ∃ y:Nat->K',v = .c5 [.sl false (eM (LC y n w)),.int .i64 0] /\
   ∀ c,c<w->(y c).length=n/\Bs B0 (y c) /\ ∀ (i:Nat) (r s:K'),(vM aw)[i]? = some r->(vM bw)[i]? = some s->AZ r (y c)=s.getD c 0)):=by
 obtain ⟨a,yd⟩ : ∃ a,vM aw=a:=⟨_,rfl⟩;obtain ⟨b,ji⟩ : ∃ b,vM bw=b:=⟨_,rfl⟩;rw[yd,ji]at mo ye uk ⊢;have y9:a.length=n:=yd ▸ Zl tu;have km : ∀ r∈a,r.length=n:=yd ▸ Zm qj;have bq:Ms k a:=yd ▸ Kp.ms;have da:b.length=n:=ji ▸ Zl ql;have va : ∀ r∈b,r.length=w:=ji ▸ Zm wq;have jq:Ms k b:=ji ▸ Dt.ms;have Hy:=Ako tu ql;obtain ⟨Pc,Oy⟩:=Akn qj wq Kp Dt;have Rc:vM (GN aw bw)=C1 a b:=by rw[Xl,yd,ji]
 have hI:=GZ N.toa5 1 O';have db:(C1 a b).length=n:=by simp [C1,y9,da]
 have Pb : ∀ r∈C1 a b,r.length=n+w:=λ r hr=>by
  obtain ⟨i,hi⟩:=Jb hr;have w9:=(zS hi).1;obtain ⟨x,hx⟩:=H' a i;obtain ⟨y,hy⟩:=H' b i;obtain rfl:=uc ((WU hx hy).symm.trans hi);rw[ga,km x (zM hx),va y (zM hy)]
 have Hx:Ms k (C1 a b):=λ r hr=>by
  obtain ⟨i,hi⟩:=Jb hr;have w9:=(zS hi).1;obtain ⟨x,hx⟩:=H' a i;obtain ⟨y,hy⟩:=H' b i;obtain rfl:=uc ((WU hx hy).symm.trans hi);intro z hz;rcases Ga.1 hz with hz|hz
  ·exact bq.at hx z hz
  ·exact jq.at hy z hz
 refine Ev.xE N.I5 rfl rfl ?_;repeat' (first|apply AR|apply AE)<;>conv=>whnf
 unfold C2;refine ⟨⟨O',O',by simp only[DX];omega,O'⟩,?_⟩;rw[zc,tu];conv=>whnf
 skip
 refine jS 22 22 n rfl ?_;refine DF (λ i=>n-i) (λ(i:Nat)=>i<=n) (λ i=>[(25,.int .i64 i)]) (λ i=>[(22,22,.rw 1 ((fz none (((GN aw bw).take i).map some) n).map mN))]) [] [] 0 (by first|exact B'|(rw[Ha,Nc,show fz (none:Option (List CK)) [] n=qa n none by simp [fz],List.map_replicate];exact B')) O' ?_;intro i p1 ih;by_cases hi:i<n
 ·obtain ⟨r,s8⟩:=H' aw i
  obtain ⟨s,br⟩:=H' bw i;have ja:aw[(i:Int).toNat]? = some r:=s8;have uj:bw[(i:Int).toNat]? = some s:=br;have bh:=qj r (zM s8);have xq:=wq s (zM br);have hCc:=Aho N true q1 q3 r s O' O' O';have vi:(((GN aw bw).take i).map some).length=i:=by rw[za,xa];omega
  have dp:=K9 (z:=(none:Option (List CK))) (l:=((GN aw bw).take i).map some) (m:=n) O';have iu:=LA (z:=(none:Option (List CK))) (x:=some (r++s)) (l:=((GN aw bw).take i).map some) (m:=n) O';have Qw:(GN aw bw).take (i+1)=(GN aw bw).take i++[r++s]:=by rw[Ob,Uj s8 br];rfl
  rw[vi,show ((GN aw bw).take i).map some++[some (r++s)]=((GN aw bw).take (i+1)).map some by rw[Qw,kc];rfl]at iu;generalize fz (none:Option (List CK)) (((GN aw bw).take i).map some) n=J at *;repeat' (first|(apply AG<;>intro hc<;>try omega)|(apply AX;omega)|(refine A4 V' ?_ rfl ?_;omega)|refine JJ rfl rfl ?_|apply AE|refine AD (hCc) ?_)<;>conv=>whnf
  refine E5 (enc:=mN) (some (r++s)) rfl (λ e=>by cases e<;>rfl) O' ?_;conv=>whnf
  rw[iu];repeat' (first|(apply AP;omega)|fail)<;>conv=>whnf
  exact A9 [] (ih (i+1) O' O')
 have ei:i=n:=O'
 clear ih;rw[ei,zT O',Ai3 Hy];repeat' (first|(apply AG<;>intro hc<;>try omega)|apply AE)<;>conv=>whnf
 have Mg:K0<=1000000000000:=by simpa using iF hB (Cg n)
 refine GU 1000 N.JT rfl rfl ?_;(repeat' (apply AE<;>conv=>whnf))
 unfold C2;refine ⟨⟨O',O',by simp only[DX];omega,O'⟩,?_⟩;rw[zc];conv=>whnf
 skip
 refine DW (enc:=eO) none n rfl O' O' ?_;conv=>whnf
 skip
 refine BN [] B' (AmR N q q1 q2 q3 aw bw (GN aw bw) n (n+w) k Hy Pc hn O' Oy (Rc.symm ▸ mo) Du Mg ?_);rw[Rc];(repeat' (apply AE<;>conv=>whnf))
 refine ⟨rfl,_,rfl,?_⟩;conv=>whnf
 skip
 have Nb:n+w<=104:=O'
 have hW:n<=n+w:=O'
 have uf:(whole (C1 a b)).length=n:=by simp only[whole,za];exact db
 have Dy:=AnD Pb;have Dx:=ye;have xd:=AnE (C1 a b);have Pa:a.length=b.length:=O'
 clear Hx Pb bq jq Mg ei hi p1 i mo ye Du;generalize whole (C1 a b)=m0 at uf Dy Dx xd ⊢;refine FV 1000 N.IR rfl rfl ?_;repeat' (first|apply AE|refine AD (hI) ?_)<;>conv=>whnf
 refine Adt (λ_ P _ _ _=>n-P.length) (λ(m:J') (P:N') (c:Nat) (odd:Bool) (l:Rat)=>HX m0 K0 (n+w) n m P c odd l) (λ_ P c odd _=>[(7,.int .i64 (P.length:Nat)),(8,.int .i64 c),(9,.bool odd)]) (λ m _ _ _ l=>[(231016,231016,.mx (BJ 3 eQ m)),(233010,233010,.bx (eQ l))]) [] [] m0 [] 0 false ((1:Int):Rat) B' (HX.start Dy Dx) ?_;intro m P c odd l hE eh;have cq:=hE.len;have Da:=hE.z7.pl;rw[uf]at cq;by_cases hP:P.length<n
 ·have hp6:=iF hB (show P.length<=n by omega)
  repeat' (first|(apply AG<;>intro hc<;>try omega)|apply AE)<;>conv=>whnf
  refine Adv (l:=[_,_]) (λ(m1:J') (c:Nat) (o:Bool)=>HX m0 K0 (n+w) n m1 P c o l/\(c<n -> ∃ rp,m1[P.length]? = some rp/\rp.getD c 0≠0)) (λ_ c o=>[(8,.int .i64 c),(9,.bool o)]) (λ m1 _ _=>[(231016,231016,.mx (BJ 3 eQ m1))]) [17] rfl ?_ ?_
  ·clear hE cq Da
   intro m1 c ABr ⟨hE,Lb⟩;have cq:=hE.len;have Da:=hE.z7.pl;have w7:=hE.cc;rw[uf]at cq;by_cases lg:c<n
   ·obtain ⟨rp,Fj,hpn⟩:=Lb lg
    clear Lb;have hS:=hE.swp lg Fj hpn;repeat' (first|(apply AG<;>intro hc<;>try omega)|(apply AP;omega)|apply AE)<;>conv=>whnf
    refine BN [] B' (AmQ N q2 q3 bw (GN aw bw) ((C1 a b).map C7) uf hn hW Nb yo hB hP lg hS λ m2 hS => ?_);have qw:=hS.ht;have AAY:=hS.z7.lr rp (zM qw);have xj:rp[c]? = some (rp.getD c 0):=S3 O';have xf:=hS.len;have n8:=hS.done yo O';have Gw:(P++[c]).length=P.length+1:=Z'
    generalize rp.getD c 0=pv at xj n8;clear hS hE hpn Fj;repeat' (first|(apply AX;omega)|(refine GG ?_ (λ r hr => ?_);omega)|apply AE)<;>conv=>whnf
    cases qw.symm.trans hr;refine AX E' ?_;conv=>whnf
    repeat' (first|(apply AP;omega)|(refine GR ?_ (λ_=>rfl) (λ v hv => ?_);omega)|refine GX V' ?_)<;>conv=>whnf
    cases xj.symm.trans hv;skip
    rw[show ((P.length:Nat):Int)+1=((P++[c]).length:Nat) by rw[Gw];omega];exact BN [] B' (eh m2 (P++[c]) (c+1) _ pv (by rw[Gw];omega) n8)
   ·clear eh Lb
    repeat' (first|(apply AG<;>intro hc<;>try omega)|apply AE)<;>conv=>whnf
    refine ⟨rfl,?_⟩;conv=>whnf
    repeat' (first|(apply AG<;>intro hc<;>try omega)|fail)<;>conv=>whnf
    have gl:n<=c\/n<=P.length:=Or.inl O';have Fl:=wK (w:=w) hE xd Pa km y9 gl;skip
    refine ⟨.c5 [.sl false [],.int .i64 11],?_,Or.inl ⟨λ h=>absurd (Fl.2 h) O',rfl⟩⟩;conv=>whnf
    exact AY rfl (JO [] 11)
  ·clear eh
   intro xe;refine DF (λ c=>n-c) (λ(c:Nat)=>HX m0 K0 (n+w) n m P c odd l) (λ c=>[(8,.int .i64 c)]) (λ_=>[]) [17] [] c B' hE ?_;clear hE;intro c hE ch;have w7:=hE.cc;by_cases lg:c<n
   ·repeat' (first|(apply AG<;>intro hc<;>try omega)|apply AE)<;>conv=>whnf
    refine CE (λ i=>n-i) (λ(i:Nat)=>P.length<=i/\i<=n /\ ∀ (q:Nat) (r:K'),P.length<=q->q<i->m[q]? = some r->r.getD c 0=0) (λ i=>[(11,.int .i64 i)]) (λ_=>[]) P.length ⟨zb _,O',λ q r h1 h2=>absurd h1 O'⟩ ?_;intro i ⟨i1,i2,i3⟩ ih;by_cases hi:i<n
    ·obtain ⟨rp,s8⟩:=H' m i
     have bh:=hE.z7.lr rp (zM s8);have jx:rp[c]? = some (rp.getD c 0):=S3 O';have nf:=WK N.toa5 (hE.ms.at s8 _ (zM jx)) O';have hz:=MV (x:=rp.getD c 0);generalize ow:rp.getD c 0=rc at *;generalize o3 rc.num=sg at *;by_cases um:sg=0
     ·repeat' (first|(apply AG<;>intro hc<;>try omega)|(apply AX;omega)|(refine GG ?_ (λ r hr => ?_);omega)|apply AE)<;>conv=>whnf
      cases s8.symm.trans hr;refine AX E' ?_;conv=>whnf
      repeat' (first|(refine GR ?_ (λ_=>rfl) (λ v hv => ?_);omega)|refine GX V' ?_)<;>conv=>whnf
      cases jx.symm.trans hv;repeat' (first|(apply AG<;>intro hc<;>try omega)|(apply AP;omega)|refine AD (nf) ?_)<;>conv=>whnf
      refine BN [] B' (ih (i+1) O' ⟨O',O',λ q x h1 h2 hx => ?_⟩);by_cases e:q=i
      ·subst e
       cases s8.symm.trans hx;rw[ow];exact hz.1 um
      ·exact i3 q x h1 O' hx
     ·clear ih ch
      have Io:rc≠0:=λ e=>um (hz.2 e)
      repeat' (first|(apply AG<;>intro hc<;>try omega)|(apply AX;omega)|(refine GG ?_ (λ r hr => ?_);omega)|apply AE)<;>conv=>whnf
      cases s8.symm.trans hr;refine AX E' ?_;conv=>whnf
      repeat' (first|(refine GR ?_ (λ_=>rfl) (λ v hv => ?_);omega)|refine GX V' ?_)<;>conv=>whnf
      cases jx.symm.trans hv;repeat' (first|(apply AG<;>intro hc<;>try omega)|(apply AX;omega)|(refine GG ?_ (λ r hr => ?_);omega)|refine GX V' ?_|refine AD (nf) ?_)<;>conv=>whnf
      ·obtain ⟨t,zm⟩:=H' m P.length
       refine AX ⟨rfl,by simp only[BJ,za];omega⟩ ?_;conv=>whnf
       repeat' (first|(apply AX;omega)|refine GX V' ?_)<;>conv=>whnf
       rw[show 0+((i:Nat):Int).toNat=i by omega,show 0+((P.length:Nat):Int).toNat=P.length by omega];refine AX ⟨rfl,by simp only[BJ,za,Oa,cd];omega,Zt (by simp only[BJ,za];omega)⟩ ?_;conv=>whnf
       skip
       have Mc:=hE.swap s8 zm i1 (zb _) O';have yw:c<n -> ∃ rp',((m.set i t).set P.length rp)[P.length]? = some rp'/\rp'.getD c 0≠0:=λ_=>⟨rp,by rw[Dc,if_pos rfl,if_pos (by rw[Oa];omega)],by rw[ow];exact Io⟩
       generalize hob:(!odd)=ob at *;cases ob;all_goals
        (conv=>whnf)
        skip
        refine cR.go ?_;refine rP (k:=231016) (i:=i) (j:=P.length) rfl (Q6 s8) (Q6 zm) rfl rfl ?_;rw[Wa];exact BN [] B' (xe _ c _ ⟨Mc,yw⟩)
      ·have ei:i=P.length:=O'
       exact cR.go (BN [] B' (xe m c odd ⟨hE,λ_=>⟨rp,by rw[<-ei];exact s8,by rw[ow];exact Io⟩⟩))
    ·have ei:i=n:=O'
     clear ih;repeat' (first|(apply AG<;>intro hc<;>try omega)|(apply AP;omega)|apply AE)<;>conv=>whnf
     exact A9 [] (ch (c+1) O' (hE.skip lg λ q x h1 hx=>i3 q x h1 (by have:=(zS hx).1;omega) hx))
   ·clear ch
    repeat' (first|(apply AG<;>intro hc<;>try omega)|apply AE)<;>conv=>whnf
    exact cR.go (BN [] B' (xe m c odd ⟨hE,λ h=>absurd h lg⟩))
 ·clear eh
  repeat' (first|(apply AG<;>intro hc<;>try omega)|apply AE)<;>conv=>whnf
  refine ⟨rfl,?_⟩;conv=>whnf
  repeat' (first|(apply AG<;>intro hc<;>try omega)|fail)<;>conv=>whnf
  have gl:n<=c\/n<=P.length:=Or.inr O';have Fl:=wK (w:=w) hE xd Pa km y9 gl;have Kd:P.length=n:=by have:=hE.z7.le;have:=hE.z7.pl;omega
  have z9:=Fl.1 Kd;have Dr:=AmO hE xd Pa km va Kd cq;have Rb:=Zi hE Kd cq;have hmw:=hE.z7.lr;have lk:=hE.ms;have wo:=hE.bl;have jf:=hE.l0;rw[Kd]at lk wo;clear hE Fl Da Dx Dy xd;have Kn : ∀ (e:Nat) (r:K'),m[e]? = some r->r.getD e 0≠0:=λ e r hr=>by
   rw[<-J9 hr];exact (Rb e (by have:=(zS hr).1;omega)).1
  skip
  unfold C2;refine ⟨⟨O',O',by simp only[DX];omega,O'⟩,?_⟩;rw[zc];conv=>whnf
  skip
  refine CE (λ u=>n-u) (λ(u:Nat)=>u<=n) (λ u=>[(61,.int .i64 u)]) (λ u=>[(58,58,.mx (qa u (some (3,(FH [] w).map eO))++qa (n-u) none))]) 0 O' ?_;intro u r1 uh;by_cases hu:u<n
  ·obtain ⟨s,br⟩:=H' bw u
   have uj:bw[(u:Int).toNat]? = some s:=br;have xq:=wq s (zM br);repeat' (first|(apply AG<;>intro hc<;>try omega)|apply AR|(refine A4 V' ?_ rfl ?_;omega)|apply AE)<;>conv=>whnf
   rw[xq];refine DW (enc:=eO) none w rfl rfl O' ?_;conv=>whnf
   repeat' (first|(apply AX;omega)|fail)<;>conv=>whnf
   unfold AL CS;refine ⟨Z',by simp;omega,?_⟩;conv=>whnf
   rw[show 0+((u:Int)).toNat=u by omega,<-SP,nE _ _ r1 hu];repeat' (first|(apply AP;omega)|fail)<;>conv=>whnf
   exact A9 [] (uh (u+1) O' O')
  have eu:u=n:=O'
  subst eu;clear uh;obtain ⟨y,hy⟩ : ∃ y:Nat->K',y=λ c'=>(ET (u+c') l m 0).map (· / l):=⟨_,rfl⟩
  have rf : ∀ c',(y c').length=u:=λ c'=>by rw[hy,za,QH];exact cq
  have yv:(LC y u w).length=u:=by simp [LC]
  have Af : ∀ e,e<u->(LC y u w)[e]? = some ((Qa w).map λ c'=>(y c').getD e 0):=λ e he=>by simp [LC,he]
  have hRw : ∀ r∈LC y u w,r.length=w:=λ r hr=>by
   obtain ⟨i,_,rfl⟩:=oa.1 hr;simp
  rw[show qa u (some (3,Lf eO (FH [] w)))++qa (u-u) none=BJ 3 eO (ot (LC y u w) w 0 0) by rw[Als,yv];simp [BJ]];obtain ⟨s0,br⟩:=H' bw 0;have Qn:bw[(0:Int).toNat]? = some s0:=br;have Qo:=wq s0 (zM br);generalize hRg:LC y u w=R at yv Af hRw ⊢;repeat' (first|(apply AG<;>intro hc<;>try omega)|apply AR|(refine A4 V' ?_ rfl ?_;omega)|apply AE)<;>conv=>whnf
  rw[Qo];refine CE (λ c=>w-c) (λ(c:Nat)=>c<=w) (λ c=>[(78,.int .i64 c)]) (λ c=>[(58,58,.mx (BJ 3 eO (ot R w c 0)))]) 0 O' ?_;intro c' r2 ch;by_cases im:c'<w
  ·obtain ⟨C,nc,Ka,hC3,_⟩:=uk m l c' im cq lk wo jf z9 (Dr c' im)
   have Cy:=AhG N true true m u (u+w) (u+c') (6^u*K0) l cq hmw O' O' O' O' Kn lk wo nc Ka;have tz:=nc 0;rw[Ac]at tz;clear nc Ka;have lv:=QH (u+c') l m 0;have hyc : ∀ (e:Nat) (x:Rat),(ET (u+c') l m 0)[e]? = some x->(y c').getD e 0=x/l:=λ e x hx=>by
    rw[hy,ya,sa,hx];rfl
   rw[cq]at lv;rw[Int.natCast_add]at Cy;generalize ET (u+c') l m 0=xs at Cy tz lv hyc;repeat' (first|(apply AG<;>intro hc<;>try omega)|(apply AP;omega)|apply AE)<;>conv=>whnf
   refine H1 (λ_=>rfl) rfl O' ?_;conv=>whnf
   repeat' (first|apply AR|refine AD (Cy) ?_)<;>conv=>whnf
   refine CE (λ f=>u-f) (λ(f:Nat)=>f<=u) (λ f=>[(88,.int .i64 f)]) (λ f=>[(58,58,.mx (BJ 3 eO (ot R w c' f)))]) 0 O' ?_;intro f r5 fh;by_cases hf2:f<u
   ·obtain ⟨x,hx⟩:=H' xs f
    have dv:xs[(f:Int).toNat]? = some x:=hx;have bx:=tz.at hx;have hD:=aF N.toa5 bx wo O' O' jf;have Mn:=Af f hf2;have hmc:((Qa w).map λ c'=>(y c').getD f 0)[c']? = some (x/l):=by rw[sa,Ba im,Ab,hyc f x hx]
    have Po:((Qa w).map λ c'=>(y c').getD f 0).length=w:=Z'
    generalize ((Qa w).map λ c'=>(y c').getD f 0)=row at Mn hmc Po;have hoa:=gZ (n:=w) (j:=c') (i:=f) Mn;rw[if_neg O']at hoa;have hos:=Alr (n:=w) (j:=c') Mn;have La:=bB R w c' f;have Pm:=QU (l:=row.take c') (m:=w) F';have g9:=SR (l:=row.take c') (m:=w) (x:=x/l) F';rw[xa,Fc O',<-XJ hmc]at g9;generalize ot R w c' f=O at *;repeat' (first|(apply AG<;>intro hc<;>try omega)|(apply AX;omega)|(refine A4 V' ?_ rfl ?_;omega)|(refine GG ?_ (λ r hr => ?_);omega)|apply AE|refine AD (hD) ?_)<;>conv=>whnf
    cases hoa.symm.trans hr;skip
    have AAA:=QU (l:=row.take (c'+1)) (m:=w) F';refine AX E' ?_;conv=>whnf
    repeat' (first|refine GX V' ?_|fail)<;>conv=>whnf
    refine E5 (enc:=eO) (some (x/l)) rfl (λ e=>by cases e<;>rfl) O' ?_;conv=>whnf
    rw[g9];refine ZQ O' ?_;rw[hos];conv=>whnf
    repeat' (first|(apply AP;omega)|fail)<;>conv=>whnf
    exact A9 [] (fh (f+1) O' O')
   have ef:f=u:=O'
   clear fh;have ml:=Alq R w c';rw[yv]at ml;rw[ef,ml];repeat' (first|(apply AG<;>intro hc<;>try omega)|(apply AP;omega)|apply AE)<;>conv=>whnf
   exact A9 [] (ch (c'+1) O' O')
  have ec:c'=w:=O'
  clear ch;rw[ec,Alp hRw];repeat' (first|(apply AG<;>intro hc<;>try omega)|apply AE)<;>conv=>whnf
  refine ⟨.c5 [.sl false (eM R),.int .i64 0],?_,Or.inr ⟨z9,y,by rw[<-hRg],λ c2 im=>⟨rf c2,?_,λ i r s h1 h2=>by rw[hy];exact Dr c2 im i r s h1 h2⟩⟩⟩
  ·(conv=>whnf)
   refine H1 (λ_=>rfl) rfl O' ?_;conv=>whnf
   exact AY rfl (JO R 0)
  ·rw[hy]
   obtain ⟨C,_,_,_,h4⟩:=uk m l c2 im cq lk wo jf z9 (Dr c2 im);exact h4
theorem Alj {x:Rat} {b:K'} {i:Nat} (h:b[i]? = some x):(b.map λ x=>[x])[i]? = some [x]:=by rw[sa,h];rfl
theorem uD (y:K') (e:Int):A3 (.c5 [.sl false (y.map eQ),.int .i64 e]):=by
 simp only[A3,B7,and_true,true_and];exact KA y
def O7 (x:CK):P':=some (3,[eW x])
theorem jJ (b:List CK):vM (b.map λ x=>[x])=(b.map CK.v).map λ x=>[x]:=by simp [vM,xb,ke]
def Fs (k:Nat) (r:List CK):Prop := ∀ x∈r,x.Fit k
theorem Fs.of {k:Nat} {r:K'} (h:Bs k r) (hk:k<2199023255552):Fs k (wR r):=λ x hx=>by
 obtain ⟨y,hy,rfl⟩:=oa.1 hx;exact zF (h y hy) hk
theorem Ahw (N:u9 L) (q q1 q2:Bool) (aw:List (List CK)) (bw:List CK) (n k K0:Nat) (tu:aw.length=n) (qj : ∀ r∈aw,r.length=n) (ql:bw.length=n) (hn:1<=n/\n<=52) (Du:k<=K0) (yo:1<=K0) (Kp:LN k aw) (Dt:Fs k bw)
  (mo : ∀ r∈C1 (vM aw) ((bw.map CK.v).map λ x=>[x]),∀ j,Bt K0 (C7 (r.take j))) (ye:Ms K0 (whole (C1 (vM aw) ((bw.map CK.v).map λ x=>[x]))))
  (hB:6^n*K0<=1000000000000) {B0:Nat} (uk:X0 (vM aw) ((bw.map CK.v).map λ x=>[x]) n 1 (6^n*K0) B0) :
  ∃ v,Ev L 237 [.sl q (IQ q1 aw),.sl q2 (bw.map eW)] v/\((¬ NS n (vM aw)/\v = .c5 [.sl false [],.int .i64 11])\/(NS n (vM aw) /\ ∃ y:K',v = .c5 [.sl false (y.map eQ),.int .i64 0] /\
   y.length=n/\Bs B0 y /\ ∀ (i:Nat) (r:K') (s:Rat),(vM aw)[i]? = some r->(bw.map CK.v)[i]? = some s->AZ r y=s)):=by
 obtain ⟨a,yd⟩ : ∃ a,vM aw=a:=⟨_,rfl⟩;obtain ⟨b,ji⟩ : ∃ b,bw.map CK.v=b:=⟨_,rfl⟩;have hV:=AhT N q q1 aw n n tu qj hn hn;obtain ⟨r0,s8⟩:=H' aw 0;have Ar:aw[(0:Int).toNat]? = some r0:=s8;have jf:=qj r0 (zM s8);obtain ⟨v,hS,z8⟩:=AiM N q q1 true true aw (bw.map λ x=>[x]) n 1 k K0 tu qj (by rw[za];exact ql) (λ r hr=>by obtain ⟨x,_,rfl⟩:=oa.1 hr;rfl) hn O' Du yo Kp (λ r hr=>by
  obtain ⟨x,hx,rfl⟩:=oa.1 hr;intro z hz;obtain rfl:=Ma.1 hz;exact Dt z hx) (by rw[jJ];exact mo) (by rw[jJ];exact ye) hB (by rw[jJ];exact uk)
 rw[jJ,yd,ji]at z8;rw[yd,ji];refine Ev.xE N.L1 rfl rfl ?_;repeat' (first|(apply AG<;>intro hc<;>try omega)|apply AR|(refine A4 V' ?_ rfl ?_;omega)|apply AE|refine AD (hV) ?_)<;>conv=>whnf
 unfold C2;refine ⟨⟨O',O',by simp only[DX];omega,O'⟩,?_⟩;rw[zc,ql];conv=>whnf
 (repeat' (apply AR<;>conv=>whnf))
 refine DF (λ i=>n-i) (λ(i:Nat)=>i<=n) (λ i=>[(35,.int .i64 i)]) (λ i=>[(32,32,.mx (fz none ((bw.take i).map O7) n))]) [] [] 0 (by first|exact B'|(rw[Ha,Nc,show fz (none:P') [] n=qa n none by simp [fz]];exact B')) O' ?_;intro i p1 ih;have dp:=K9 (z:=(none:P')) (l:=(bw.take i).map O7) (m:=n) (by rw[za,xa];omega);by_cases hi:i<n
 ·obtain ⟨x,hx⟩:=H' bw i
  have dv:bw[(i:Int).toNat]? = some x:=hx;have iu:=LA (z:=(none:P')) (x:=O7 x) (l:=(bw.take i).map O7) (m:=n) (by rw[za,xa];omega);rw[za,xa,Fc O',show (bw.take i).map O7++[O7 x]=(bw.take (i+1)).map O7 by rw[Ob,hx,kc];rfl]at iu;generalize fz (none:P') ((bw.take i).map O7) n=J at *;have Ol:J.set i (some (3,[[AV.bool x.n,AV.sl false (x.m.map AM),AV.sl false (x.d.map AM)]]))=fz none ((bw.take (i+1)).map O7) n:=iu;repeat' (first|(apply AG<;>intro hc<;>try omega)|(apply AX;omega)|(refine A4 V' ?_ rfl ?_;omega)|apply AE)<;>conv=>whnf
  unfold AL CS;refine ⟨Z',O',?_⟩;conv=>whnf
  rw[show 0+((i:Int)).toNat=i by omega,Ol];repeat' (first|(apply AP;omega)|fail)<;>conv=>whnf
  exact A9 [] (ih (i+1) O' O')
 have ei:i=n:=O'
 clear ih dp;rw[ei,zT O',K8 (by rw[za];exact ql),show bw.map O7=BJ 3 eW (bw.map λ x=>[x]) by rw[BJ,xb];rfl];repeat' (first|(apply AG<;>intro hc<;>try omega)|(refine H1 (λ_=>rfl) rfl ?_ ?_;(first|rfl|simp))|apply AE)<;>conv=>whnf
 ·exact ql.symm
 (conv=>whnf)
 rcases z8 with ⟨z9,rfl⟩|⟨z9,y,rfl,hy⟩
 ·repeat' (first|(apply AG<;>intro hc<;>try omega)|refine AD (hS) ?_)<;>conv=>whnf
  refine ⟨.c5 [.sl false [],.int .i64 11],?_,Or.inl ⟨z9,rfl⟩⟩;conv=>whnf
  exact AY rfl (JO [] 11)
 ·obtain ⟨rf,Ck,yf⟩:=hy 0 O'
  have Af : ∀ e,e<n->(LC y n 1)[e]? = some [(y 0).getD e 0]:=λ e he=>by simp [LC,he]
  have yv:(LC y n 1).length=n:=by simp [LC]
  generalize LC y n 1=R at *;repeat' (first|(apply AG<;>intro hc<;>try omega)|apply AR|refine AD (hS) ?_)<;>conv=>whnf
  rw[yv];refine DW (enc:=eO) none n rfl rfl O' ?_;conv=>whnf
  (repeat' (apply AR<;>conv=>whnf))
  refine DF (λ e=>n-e) (λ(e:Nat)=>e<=n) (λ e=>[(60,.int .i64 e)]) (λ e=>[(57,57,.rw 3 ((FH ((y 0).take e) n).map eO))]) [] [] 0 (by first|exact B'|(rw[Ha,<-SP];exact B')) O' ?_;intro e p2 eh;have Pm:=QU (l:=(y 0).take e) (m:=n) F';by_cases he2:e<n
  ·obtain ⟨x,hx⟩:=H' (y 0) e
   have g9:=SR (l:=(y 0).take e) (m:=n) (x:=x) F';rw[xa,Fc O',<-XJ hx]at g9;have hRe:=Af e he2;rw[show (y 0).getD e 0=x by rw[ya,hx];rfl]at hRe;have AzN:R[(e:Int).toNat]? = some [x]:=hRe;have qy:[x][(0:Int).toNat]? = some x:=rfl;generalize FH ((y 0).take e) n=F0 at *;repeat' (first|(apply AG<;>intro hc<;>try omega)|(apply AX;omega)|(refine A4 V' ?_ rfl ?_;omega)|apply AE)<;>conv=>whnf
   refine E5 (enc:=eO) (some x) rfl (λ e=>by cases e<;>rfl) O' ?_;conv=>whnf
   rw[g9];repeat' (first|(apply AP;omega)|fail)<;>conv=>whnf
   exact A9 [] (eh (e+1) O' O')
  have ee:e=n:=O'
  clear eh;rw[ee,zT O',SN rf];repeat' (first|(apply AG<;>intro hc<;>try omega)|apply AE)<;>conv=>whnf
  refine ⟨.c5 [.sl false ((y 0).map eQ),.int .i64 0],?_,Or.inr ⟨z9,y 0,rfl,rf,Ck,λ i r s h1 h2 => ?_⟩⟩
  ·(conv=>whnf)
   refine C8 (enc:=eQ) (λ_=>rfl) rfl rf.symm ?_;conv=>whnf
   exact AY rfl (uD (y 0) 0)
  ·exact yf i r [s] h1 (Alj h2)
theorem Ahx (N:u9 L) (q q1 q2:Bool) (a:J') (b:K') (n k K0:Nat) (y9:a.length=n) (km : ∀ r∈a,r.length=n) (da:b.length=n) (hn:1<=n/\n<=52) (Du:k<=K0) (yo:1<=K0) (bq:Ms k a) (jq:Bs k b)
  (mo : ∀ r∈C1 a (b.map λ x=>[x]),∀ j,Bt K0 (C7 (r.take j))) (ye:Ms K0 (whole (C1 a (b.map λ x=>[x]))))
  (hB:6^n*K0<=1000000000000) {B0:Nat} (uk:X0 a (b.map λ x=>[x]) n 1 (6^n*K0) B0) :
  ∃ v,Ev L 237 [.sl q (DC q1 a),.sl q2 (b.map eQ)] v/\((¬ NS n a/\v = .c5 [.sl false [],.int .i64 11])\/(NS n a /\ ∃ y:K',v = .c5 [.sl false (y.map eQ),.int .i64 0] /\
   y.length=n/\Bs B0 y /\ ∀ (i:Nat) (r:K') (s:Rat),a[i]? = some r->b[i]? = some s->AZ r y=s)):=by
 have ic:k<2199023255552:=by
  have:=iF hB (Cg n)
  rw[Hg,Ef]at this;omega
 have:=Ahw N q q1 q2 (wM a) (wR b) n k K0 (Anx y9) (Any km) (by rw[wR,za];exact da) hn Du yo (LN.of bq ic) (Fs.of jq ic) (by rw[jK,cI];exact mo) (by rw[jK,cI];exact ye) hB (by rw[jK,cI];exact uk)
 rw[Ag4,wG,jK,cI]at this;exact this
theorem Aii (N:aj L) {x y:Rat} {k l:Nat} (hx:Bt k x) (hy:Bt l y) (hk:k<2199023255552) (hl:l<2199023255552) (h0:y≠0):Ev L 276 [.agg (eQ x),.agg (eQ y)] (.agg (eQ (x/y))):=by
 have hD:=xC N.tok9 hx hy hk hl h0;refine Ev.x N.UX rfl rfl ?_;repeat' (first|(apply AG<;>intro hc<;>try omega)|apply AE|refine AD (hD) ?_)<;>conv=>whnf
 exact AY rfl (DK _)
theorem Ad8 {R:List (P')} {e:Nat} {r:P'} {K:P'->Prop} (h:R[e]? = some r) (hk:K r):BV R e K:=by
 unfold BV;exact ⟨r,h,hk⟩
theorem oV {α:Type} {a b:List α} {j:Nat} {x:α} (hl:a.length=b.length) (hx:b[j]? = some x):(a.take j++b.drop j)[j]? = some x:=by
 have h1:=(zS hx).1;have ht:(a.take j).length=j:=by rw[xa];omega
 rw[tf O',ht,Le,ie];exact hx
theorem oW {α:Type} {a b:List α} {j:Nat} {y:α} (hl:a.length=b.length) (hy:a[j]? = some y):(a.take j++b.drop j).set j y=a.take (j+1)++b.drop (j+1):=by
 have h1:=(zS hy).1;have ht:(a.take j).length=j:=by rw[xa];omega
 rw[Pf _ _ O',ht,Le,Lc O',xg,Ob,hy,Qd];rfl
def F6 (k0:Nat):Nat->Nat
 | 0=>k0
 | c+1=>4*F6 k0 c+1
theorem Vm (k0:Nat) {c:Nat} : ∀ d,F6 k0 c<=F6 k0 (c+d)
 | 0=>zb _
 | d+1=>by
  have:=Vm k0 (c:=c) d
  show F6 k0 c<=4*F6 k0 (c+d)+1;omega
theorem Vn (N:aj L) (q1 q2 q3 q4:Bool) (a b T:J') (n W K:Nat) (hn:1<=n/\n<=10) (hW:1<=W/\W<=10) (hK:K<=10000000000) {m:J'} {k c:Nat} {d:Rat} {t:K'} (hR:E1 T b n W m k c) (hM:Ms K m) (Fg:k<n) (lg:c<n) (ht:m[k]? = some t) (hp:t.getD c 0≠0) {kk:List It} {Q:Tm->Mem->Prop}
  (n8 : ∀ m2:J',E1 T b n W m2 (k+1) (c+1)->Ms (4*K+1) m2->AA L (.lp HT.l1 :: .c9 0::kk) ([(8,.int .i64 ((c+1:Nat):Int)),(6,.int .i64 ((k+1:Nat):Int)),(7,.ptr 901007 0 0 0),(5,.ptr 901005 0 0 0),(0,.row 277003 0 1 0 n),(0+1,.int .i64 n)]++[(1000+38,.int .i64 n),(1000+37,.sl q1 (DC q2 a)),(1000+36,.row 277003 0 1 0 n),(1000+20,.bool false),(1000+19,.int .i64 n),(1000+18,.int .i64 n),(1000+6,.row 277003 0 1 0 n),(1000+0,.sl q1 (DC q2 a)),(1000+(0+1),.sl q3 (DC q4 b))]) [(277003,277003,.mx (BJ 3 eQ m2)),(901007,901007,.bx (eQ d)),(901005,901005,.bx [.bool false,.nil,.nil])] Q) :
  AA L (.lp HT.l3 :: .c9 4 :: .code ((((BK.ops HT.En false).dr [10,82,83,84,102] []).seq (BK.block 6 HT.l4.loop)).seq ((BK.ops HT.Eo false).dr [103,104,105,155,156] [])) :: .c9 1 :: .code ((BK.ops HT.r4 false).dr [9,25,26,48] []) :: .lp HT.l1 :: .c9 0::kk)
   ([(83,.int .i64 ((0:Nat):Int)),(82,.int .i64 ((n+W:Nat):Int)),(10,.ptr 901010 0 0 0),(8,.int .i64 c),(6,.int .i64 k),(7,.ptr 901007 0 0 0),(5,.ptr 901005 0 0 0),(0,.row 277003 0 1 0 n),(0+1,.int .i64 n)]++[(1000+38,.int .i64 n),(1000+37,.sl q1 (DC q2 a)),(1000+36,.row 277003 0 1 0 n),(1000+20,.bool false),(1000+19,.int .i64 n),(1000+18,.int .i64 n),(1000+6,.row 277003 0 1 0 n),(1000+0,.sl q1 (DC q2 a)),(1000+(0+1),.sl q3 (DC q4 b))])
   [(277003,277003,.mx (BJ 3 eQ m)),(901007,901007,.bx (eQ d)),(901010,901010,.bx (eQ (t.getD c 0))),(901005,901005,.bx [.bool false,.nil,.nil])] Q:=by
 have cq:=hR.len;have ct:=hR.wid t (zM ht);have pz:=hM.at ht;have Is:=Bs.getD pz c;have Ag:=LR.start hR ht hp (λ q r hq=>hM.at hq);have yu:=Q6 (z:=3) ht;have Mp:(BJ 3 eQ m).length=n:=by simp only[BJ,za];omega
 have Ez:(BJ 3 eQ m).set k (some (3,(t.map (· / t.getD c 0)).map eQ))=BJ 3 eQ (m.set k (t.map (· / t.getD c 0))):=by simp only[BJ,Oe]
 have Hr:(t.map (· / t.getD c 0)).length=n+W:=by rw[za];exact ct
 have po : ∀ (j:Nat) (x:Rat),t[j]? = some x->(t.map (· / t.getD c 0))[j]? = some (x/t.getD c 0):=λ j x hx=>by rw[sa,hx];rfl
 generalize t.map (· / t.getD c 0)=u at *;generalize t.getD c 0=p at *;refine XU (l:=[_,_]) rfl ?_;generalize BJ 3 eQ m=R0 at *;have Ae:R0.set k (some (3,t.map eQ))=R0:=qF yu;refine DF (λ j=>n+W-j) (λ(j:Nat)=>j<=n+W) (λ j=>[(83,.int .i64 j)]) (λ j=>[(277003,277003,.mx (R0.set k (some (3,(u.take j++t.drop j).map eQ))))]) [] [] 0 (by first|exact B'|(rw[Ha,Ac,tc,Ae];exact B')) O' ?_;intro j j1 jh;have l9:(u.take j++t.drop j).length=n+W:=by rw[ga,xa,tb];omega
 by_cases hj:j<n+W
 ·obtain ⟨x,hx⟩:=H' t j
  have Ii:=oV (a:=u) O' hx;have lk:=oW (a:=u) (b:=t) O' (po j x hx);have hO:=Aii N (pz.at hx) Is O' O' hp;generalize u.take j++t.drop j=cm at *;repeat' (first|(apply AG<;>intro hc<;>try omega)|(apply AX;omega)|apply AE)<;>conv=>whnf
  refine RU O' O' ?_;conv=>whnf
  repeat' (first|(apply AX;omega)|fail)<;>conv=>whnf
  refine RU O' O' ?_;conv=>whnf
  skip
  refine AX E' ?_;conv=>whnf
  skip
  refine N0 O' O' ?_;conv=>whnf
  repeat' (first|(refine GR ?_ (λ_=>rfl) (λ v hv => ?_);omega)|fail)<;>conv=>whnf
  cases Ii.symm.trans hv;(repeat' (refine AD (hO) ?_<;>conv=>whnf))
  refine AX E' ?_;conv=>whnf
  skip
  refine N0 O' O' ?_;conv=>whnf
  refine E5 (enc:=eQ) (x/p) rfl (λ_=>rfl) O' ?_;rw[lk];conv=>whnf
  refine dA O' (by rw[za,za,<-lk,Oa]) ?_;conv=>whnf
  repeat' (first|(apply AP;omega)|fail)<;>conv=>whnf
  exact A9 [] (jh (j+1) O' O')
 ·have ej:j=n+W:=O'
  clear jh;rw[ej,zT O',nb O',Ib,Ez];clear l9 hj j1 ej j Ez yu Mp Ae po Hr;have gj:=Ag.red.len;generalize m.set k u=m2 at *;repeat' (first|(apply AG<;>intro hc<;>try omega)|apply AE)<;>conv=>whnf
  refine XU (l:=[_,_]) rfl ?_;clear ht hM pz hR cq Is ct t hp;have jz:=Ag.red.wid u (zM Ag.ht);have oz:=Ag.bt;refine FJ (λ_ i=>n-i) (λ(m:J') (i:Nat)=>LR T b n W K k c u m i/\i<=n) (λ_ i=>[(104,.int .i64 i)]) (λ m _=>[(277003,277003,.mx (BJ 3 eQ m))]) m2 0 ⟨Ag,O'⟩ ?_;clear Ag gj;intro m i ⟨hS,i1⟩ ih;have cq:=hS.red.len;by_cases hi:i<n
  ·obtain ⟨rq,fb⟩:=H' m i
   have xn:=hS.red.wid rq (zM fb);have qt:Bs (2*K) rq:=by
    by_cases e:i=k
    ·have h1:=hS.ht
     rw[<-e]at h1;cases h1.symm.trans fb;exact oz
    ·exact λ y hy=>(hS.hi i rq (zb _) e fb y hy).le O'
   have ui:rq[c]? = some (rq.getD c 0):=S3 O';have wv:=qt.at ui;obtain ⟨sg,nf,hz⟩:=yL N.tok9 wv O';by_cases ou:i=k
   ·have g9:=hS.same (λ h=>absurd ou h)
    generalize rq.getD c 0=f at *;repeat' (first|(apply AG<;>intro hc<;>try omega)|(apply AX;omega)|(refine GG ?_ (λ r hr => ?_);omega)|apply AE)<;>conv=>whnf
    cases fb.symm.trans hr;refine AX E' ?_;conv=>whnf
    repeat' (first|(apply AG<;>intro hc<;>try omega)|(apply AP;omega)|(refine GR ?_ (λ_=>rfl) (λ v hv => ?_);omega)|refine GX V' ?_)<;>conv=>whnf
    exact A9 [] (ih m (i+1) O' ⟨g9,O'⟩)
   ·by_cases um:sg=0
    ·have Oi:=hz.1 um
     have g9:=hS.same (λ_ r h=>by cases fb.symm.trans h;exact Oi);generalize rq.getD c 0=f at *;repeat' (first|(apply AG<;>intro hc<;>try omega)|(apply AX;omega)|(refine GG ?_ (λ r hr => ?_);omega)|apply AE)<;>conv=>whnf
     cases fb.symm.trans hr;refine AX E' ?_;conv=>whnf
     repeat' (first|(apply AG<;>intro hc<;>try omega)|(refine GR ?_ (λ_=>rfl) (λ v hv => ?_);omega)|refine GX V' ?_)<;>conv=>whnf
     cases ui.symm.trans hv;repeat' (first|(apply AG<;>intro hc<;>try omega)|(apply AP;omega)|refine AD (nf) ?_)<;>conv=>whnf
     exact A9 [] (ih m (i+1) O' ⟨g9,O'⟩)
    ·have g9:=hS.step fb ou
     have yu:=Q6 (z:=3) fb;have hRk:=Q6 (z:=3) hS.ht;have Mp:(BJ 3 eQ m).length=n:=by simp only[BJ,za];omega
     have Ez:(BJ 3 eQ m).set i (some (3,(ki (rq.getD c 0) rq u).map eQ))=BJ 3 eQ (m.set i (ki (rq.getD c 0) rq u)):=by simp only[BJ,Oe]
     have l9:(ki (rq.getD c 0) rq u).length=n+W:=by rw[lF O'];exact xn
     have ni : ∀ (j:Nat) (x y:Rat),rq[j]? = some x->u[j]? = some y->(ki (rq.getD c 0) rq u)[j]? = some (x-rq.getD c 0*y):=λ j x y h1 h2=>uO h1 h2
     generalize ki (rq.getD c 0) rq u=cb at *;generalize rq.getD c 0=f at *;repeat' (first|(apply AG<;>intro hc<;>try omega)|(apply AX;omega)|(refine GG ?_ (λ r hr => ?_);omega)|apply AE)<;>conv=>whnf
     cases fb.symm.trans hr;refine AX E' ?_;conv=>whnf
     repeat' (first|(apply AG<;>intro hc<;>try omega)|(refine GR ?_ (λ_=>rfl) (λ v hv => ?_);omega)|refine GX V' ?_)<;>conv=>whnf
     cases ui.symm.trans hv;repeat' (first|(apply AG<;>intro hc<;>try omega)|(apply AX;omega)|(refine GG ?_ (λ r hr => ?_);omega)|refine AD (nf) ?_)<;>conv=>whnf
     cases fb.symm.trans hr;rw[show (rq.map eQ).length=n+W by rw[za];exact xn];generalize BJ 3 eQ m=R1 at *;have Ae:R1.set i (some (3,rq.map eQ))=R1:=qF yu;refine DF (λ j=>n+W-j) (λ(j:Nat)=>j<=n+W) (λ j=>[(127,.int .i64 j)]) (λ j=>[(277003,277003,.mx (R1.set i (some (3,(cb.take j++rq.drop j).map eQ))))]) [] [] 0 (by first|exact B'|(rw[Ha,Ac,tc,Ae];exact B')) O' ?_;intro j j1 jh;have Ns:(cb.take j++rq.drop j).length=n+W:=by rw[ga,xa,tb];omega
     by_cases hj:j<n+W
     ·obtain ⟨x,hx⟩:=H' rq j
      obtain ⟨y,hy⟩:=H' u j;have Ii:=oV (a:=cb) O' hx;have lk:=oW (a:=cb) (b:=rq) O' (ni j x y hx hy);have Gp:=ON N.toa6 wv (oz.at hy) O' O';have Hd:=yM N.tok9 (qt.at hx) (wv.mul (oz.at hy)) O' O';generalize cb.take j++rq.drop j=cm at *;have Gz:(R1.set i (some (3,cm.map eQ)))[k]? = some (some (3,u.map eQ)):=by rw[Dc,if_neg ou];exact hRk
      repeat' (first|(apply AG<;>intro hc<;>try omega)|(apply AX;omega)|apply AE)<;>conv=>whnf
      refine RU O' O' ?_;conv=>whnf
      repeat' (first|(apply AX;omega)|fail)<;>conv=>whnf
      refine RU O' O' ?_;conv=>whnf
      skip
      refine AX E' ?_;conv=>whnf
      skip
      refine N0 O' O' ?_;conv=>whnf
      repeat' (first|(apply AX;omega)|(refine GR ?_ (λ_=>rfl) (λ v hv => ?_);omega))<;>conv=>whnf
      cases Ii.symm.trans hv;skip
      refine Ad8 (r:=some (3,u.map eQ)) (by rw[show 0+((k:Nat):Int).toNat=k by omega];exact Gz) ?_;conv=>whnf
      skip
      refine AX E' ?_;conv=>whnf
      skip
      refine cQ (by rw[show 0+((k:Nat):Int).toNat=k by omega];exact Gz) ?_;conv=>whnf
      repeat' (first|(refine GR ?_ (λ_=>rfl) (λ v hv => ?_);omega)|fail)<;>conv=>whnf
      cases hy.symm.trans hv;repeat' (first|refine AD (Gp) ?_|refine AD (Hd) ?_)<;>conv=>whnf
      refine AX E' ?_;conv=>whnf
      skip
      refine N0 O' O' ?_;conv=>whnf
      refine E5 (enc:=eQ) (x-f*y) rfl (λ_=>rfl) O' ?_;rw[lk];conv=>whnf
      refine dA O' (by rw[za,za,<-lk,Oa]) ?_;conv=>whnf
      repeat' (first|(apply AP;omega)|fail)<;>conv=>whnf
      exact A9 [] (jh (j+1) O' O')
     ·have ej:j=n+W:=O'
      clear jh;rw[ej,zT O',nb O',Ib,Ez];repeat' (first|(apply AG<;>intro hc<;>try omega)|(apply AP;omega)|apply AE)<;>conv=>whnf
      exact A9 [] (ih (m.set i cb) (i+1) O' ⟨g9,O'⟩)
  ·have ei:i=n:=O'
   rw[ei]at hS;obtain ⟨g1,g2⟩:=hS.fin lg;clear ih;repeat' (first|(apply AG<;>intro hc<;>try omega)|(apply AP;omega)|apply AE)<;>conv=>whnf
   exact BN [] B' (n8 m g1 (λ r hr=>by
    obtain ⟨q,hq⟩:=Jb hr;exact g2 q r hq))
theorem AlZ (N:aj L) (q1 q2 q3 q4:Bool) (a b T:J') (n W k0:Nat) (hn:1<=n/\n<=10) (hW:1<=W/\W<=10) (da:b.length=n) (hB:10*F6 k0 n<=100000000000) (hT:Sq n T) {m0:J'} (Gy:E1 T b n W m0 0 0) (Mi:Ms k0 m0) {kk:List It} {Q:Tm->Mem->Prop}
  (n8 : ∀ (m:J') (k c:Nat) (d:Rat),E1 T b n W m k c->(k<n/\c=n\/k=n/\c=n)->Ms (F6 k0 n) m->Bt 100000000000 d->AA L kk ([(8,.int .i64 c),(6,.int .i64 k),(7,.ptr 901007 0 0 0),(5,.ptr 901005 0 0 0),(0,.row 277003 0 1 0 n),(0+1,.int .i64 n)]++[(1000+38,.int .i64 n),(1000+37,.sl q1 (DC q2 a)),(1000+36,.row 277003 0 1 0 n),(1000+20,.bool false),(1000+19,.int .i64 n),(1000+18,.int .i64 n),(1000+6,.row 277003 0 1 0 n),(1000+0,.sl q1 (DC q2 a)),(1000+(0+1),.sl q3 (DC q4 b))]) [(277003,277003,.mx (BJ 3 eQ m)),(901007,901007,.bx (eQ d)),(901005,901005,.bx [.bool false,.nil,.nil])] Q) :
  AA L (.lp HT.l1 :: .c9 0::kk) ([(8,.int .i64 ((0:Nat):Int)),(6,.int .i64 ((0:Nat):Int)),(7,.ptr 901007 0 0 0),(5,.ptr 901005 0 0 0),(0,.row 277003 0 1 0 n),(0+1,.int .i64 n)]++[(1000+38,.int .i64 n),(1000+37,.sl q1 (DC q2 a)),(1000+36,.row 277003 0 1 0 n),(1000+20,.bool false),(1000+19,.int .i64 n),(1000+18,.int .i64 n),(1000+6,.row 277003 0 1 0 n),(1000+0,.sl q1 (DC q2 a)),(1000+(0+1),.sl q3 (DC q4 b))]) [(277003,277003,.mx (BJ 3 eQ m0)),(901007,901007,.bx (eQ ((1:Int):Rat))),(901005,901005,.bx [.bool false,.nil,.nil])] Q:=by
 refine XU (l:=[_,_]) rfl ?_;refine cK (λ_ c _ _=>n-c) (λ(m:J') (c k:Nat) (d:Rat)=>E1 T b n W m k c/\Ms (F6 k0 c) m/\Bt (c*F6 k0 n) d) (λ_ c k _=>[(8,.int .i64 c),(6,.int .i64 k)]) (λ m _ _ d=>[(277003,277003,.mx (BJ 3 eQ m)),(901007,901007,.bx (eQ d))]) [24] [] m0 0 0 ((1:Int):Rat) B' ⟨Gy,Mi,Bt.one _⟩ ?_;intro m c k d ⟨hR,hM,hd⟩ eh;have cq:=hR.len;have Pg:=hR.le;have Az8:=hR.cn;have hKc:=Vm k0 (c:=c) (n-c);rw[show c+(n-c)=n by omega]at hKc;have hcX:c*F6 k0 n<=10*F6 k0 n:=zR _ O';by_cases lg:c<n/\k<n
 ·repeat' (first|(apply AG<;>intro hc<;>try omega)|apply AE)<;>conv=>whnf
  refine CE (λ i=>n-i) (λ(i:Nat)=>k<=i/\i<=n /\ ∀ (q:Nat) (r:K'),k<=q->q<i->m[q]? = some r->r.getD c 0=0) (λ i=>[(9,.int .i64 i)]) (λ_=>[]) k ⟨zb _,O',λ q r h1 h2=>absurd h2 O'⟩ ?_;intro i ⟨i1,i2,i3⟩ ih;by_cases hi:i<n
  ·obtain ⟨rp,s8⟩:=H' m i
   have bh:=hR.wid rp (zM s8);have jx:rp[c]? = some (rp.getD c 0):=S3 O';obtain ⟨sg,nf,hz⟩:=yL N.tok9 (hM.at s8 _ (zM jx)) O';generalize ow:rp.getD c 0=rc at *;by_cases um:sg=0
   ·repeat' (first|(apply AG<;>intro hc<;>try omega)|(apply AX;omega)|(refine GG ?_ (λ r hr => ?_);omega)|apply AE)<;>conv=>whnf
    cases s8.symm.trans hr;refine AX E' ?_;conv=>whnf
    repeat' (first|(refine GR ?_ (λ_=>rfl) (λ v hv => ?_);omega)|refine GX V' ?_)<;>conv=>whnf
    cases jx.symm.trans hv;repeat' (first|(apply AG<;>intro hc<;>try omega)|(apply AP;omega)|refine AD (nf) ?_)<;>conv=>whnf
    have i4 : ∀ (q:Nat) (r:K'),k<=q->q<i+1->m[q]? = some r->r.getD c 0=0:=λ q r h1 h2 h3=>by
     by_cases e:q=i
     ·subst e
      cases s8.symm.trans h3;rw[ow];exact hz.1 um
     ·exact i3 q r h1 O' h3
    exact A9 [] (ih (i+1) O' ⟨O',O',i4⟩)
   ·clear ih i3
    have Io:rc≠0:=λ e=>um (hz.2 e)
    obtain ⟨t,zm⟩:=H' m k;have Ad:=hM.at s8 _ (zM jx);by_cases ou:i=k
    ·have Gp:=ON N.toa6 hd Ad O' O'
     have Nz:Bt ((c+1)*F6 k0 n) (d*rc):=(hd.mul Ad).le (by rw[Cb];omega);subst ou;repeat' (first|(apply AG<;>intro hc<;>try omega)|(apply AX;omega)|(refine GG ?_ (λ r hr => ?_);omega)|apply AE)<;>conv=>whnf
     cases s8.symm.trans hr;refine AX E' ?_;conv=>whnf
     repeat' (first|(refine GR ?_ (λ_=>rfl) (λ v hv => ?_);omega)|refine GX V' ?_)<;>conv=>whnf
     cases jx.symm.trans hv;repeat' (first|(apply AG<;>intro hc<;>try omega)|(apply AX;omega)|(refine GG ?_ (λ r hr => ?_);omega)|refine AD (nf) ?_)<;>conv=>whnf
     cases s8.symm.trans hr;refine AX E' ?_;conv=>whnf
     repeat' (first|(refine GR ?_ (λ_=>rfl) (λ v hv => ?_);omega)|refine GX V' ?_)<;>conv=>whnf
     cases jx.symm.trans hv;repeat' (first|(apply AX;omega)|(refine GG ?_ (λ r hr => ?_);omega)|refine AD (Gp) ?_)<;>conv=>whnf
     cases s8.symm.trans hr;rw[show (rp.map eQ).length=n+W by rw[za];exact bh];subst ow;exact BN [] B' (Vn N q1 q2 q3 q4 a b T n W (F6 k0 c) hn hW O' hR hM lg.2 lg.1 s8 Io λ m2 g1 g2=>BN [] B' (eh m2 (c+1) (i+1) _ O' ⟨g1,g2,Nz⟩))
    ·have hNg:=eN N.tok9 hd O'
     have Gp:=ON N.toa6 (Bt.yl hd) Ad O' O';have Nz:Bt ((c+1)*F6 k0 n) (-d*rc):=((Bt.yl hd).mul Ad).le (by rw[Cb];omega);refine rR 24 ?_;conv=>whnf
     repeat' (first|(apply AG<;>intro hc<;>try omega)|(apply AX;omega)|(refine GG ?_ (λ r hr => ?_);omega))<;>conv=>whnf
     cases s8.symm.trans hr;refine AX E' ?_;conv=>whnf
     repeat' (first|(refine GR ?_ (λ_=>rfl) (λ v hv => ?_);omega)|refine GX V' ?_)<;>conv=>whnf
     cases jx.symm.trans hv;repeat' (first|(apply AG<;>intro hc<;>try omega)|(apply AX;omega)|(refine GG ?_ (λ r hr => ?_);omega)|refine GX V' ?_|refine AD (nf) ?_)<;>conv=>whnf
     refine AX ⟨rfl,by simp only[BJ,za];omega⟩ ?_;conv=>whnf
     repeat' (first|(apply AX;omega)|refine GX V' ?_)<;>conv=>whnf
     rw[show 0+((i:Nat):Int).toNat=i by omega,show 0+((k:Nat):Int).toNat=k by omega];refine AX ⟨rfl,by simp only[BJ,za,Oa,cd];omega,Zt (by simp only[BJ,za];omega)⟩ ?_;conv=>whnf
     refine rP (k:=277003) (i:=i) (j:=k) rfl (Q6 s8) (Q6 zm) rfl rfl ?_;rw[Wa];have Mo:=hR.swap s8 zm i1;have de:Ms (F6 k0 c) ((m.set i t).set k rp):=λ x hx=>by
      rcases Fb hx with h|rfl
      ·rcases Fb h with h|rfl
       ·exact hM x h
       ·exact hM.at zm
      ·exact hM.at s8
     have ic:((m.set i t).set k rp)[k]? = some rp:=by rw[Dc,if_pos rfl,if_pos (by rw[Oa];omega)]
     have xf:=Mo.len;generalize (m.set i t).set k rp=m1 at *;repeat' (first|(apply AX;omega)|(refine GG ?_ (λ r hr => ?_);omega)|apply AE|refine AD (hNg) ?_)<;>conv=>whnf
     cases ic.symm.trans hr;refine AX E' ?_;conv=>whnf
     repeat' (first|(refine GR ?_ (λ_=>rfl) (λ v hv => ?_);omega)|refine GX V' ?_)<;>conv=>whnf
     cases jx.symm.trans hv;repeat' (first|(apply AX;omega)|(refine GG ?_ (λ r hr => ?_);omega)|refine AD (Gp) ?_)<;>conv=>whnf
     cases ic.symm.trans hr;rw[show (rp.map eQ).length=n+W by rw[za];exact bh];subst ow;exact BN [] B' (Vn N q1 q2 q3 q4 a b T n W (F6 k0 c) hn hW O' Mo de lg.2 lg.1 ic Io λ m2 g1 g2=>BN [] B' (eh m2 (c+1) (k+1) _ O' ⟨g1,g2,Nz⟩))
  ·have ei:i=n:=O'
   clear ih;have i4 : ∀ (q:Nat) (r:K'),k<=q->m[q]? = some r->r.getD c 0=0:=λ q r h1 h3=>i3 q r h1 (by have:=(zS h3).1;omega) h3
   have hR9:=hR.skip hT da lg.1 i4;clear i3 i4;repeat' (first|(apply AG<;>intro hc<;>try omega)|(apply AP;omega)|apply AE)<;>conv=>whnf
   exact BN [] B' (eh m (c+1) k d O' ⟨hR9,hM.le (show F6 k0 c<=4*F6 k0 c+1 by omega),hd.le (zR _ O')⟩)
 ·clear eh
  have Ia:k<n/\c=n\/k=n/\c=n:=O'
  repeat' (first|(apply AG<;>intro hc<;>try omega)|apply AE)<;>conv=>whnf
  exact BN [] B' (n8 m k c d hR Ia (hM.le hKc) (hd.le O'))
theorem AhE (N:aj L) (q1 q2 q3 q4:Bool) (a b:J') (n W k:Nat) (hT:Sq n a) (da:b.length=n) (va : ∀ r∈b,r.length=W) (jq:Ms k b) (hn:1<=n/\n<=10) (hW:1<=W/\W<=10) (bq:Ms k a) (hk:k<=1000) (hB:10*F6 k n<=100000000000) :
  ∃ v,Ev L 278 [.sl q1 (DC q2 a),.sl q3 (DC q4 b)] v/\((¬ NS n a/\v = .c5 [.sl false [],.int .i64 11])\/(NS n a /\ ∃ m:J',v = .c5 [.sl false (eM (m.map (·.drop n))),.int .i64 0]/\E1 a b n W m n n/\Ms (F6 k n) m)):=by
 have y9:=hT.l;have km : ∀ r∈a,r.length=n:=hT.r;have Gy:E1 a b n W (C1 a b) 0 0:=E1.start hT da va;have db:(C1 a b).length=n:=by simp [C1,y9,da]
 obtain ⟨Pb,Hx⟩:=Akp km va bq jq;have hI:=KE N.toa6 1 O';refine Ev.xE N.KO rfl rfl ?_;(repeat' (apply AE<;>conv=>whnf))
 refine GU 1000 N.MR rfl rfl ?_;repeat' (first|apply AR|apply AE)<;>conv=>whnf
 refine ZJ 277003 277003 rfl ?_;refine CE (λ i=>n-i) (λ(i:Nat)=>i<=n) (λ i=>[(11,.int .i64 i),(3,.row 277003 0 1 0 i)]) (λ i=>[(277003,277003,.mx (BJ 3 eQ (a.take i)))]) 0 O' ?_;intro i p1 ih;have zn:(a.take i).length=i:=by rw[xa];omega
 by_cases hi:i<n
 ·obtain ⟨r,hr⟩:=H' a i
  have ja:a[(i:Int).toNat]? = some r:=hr;have bh:=km r (zM hr);have jg:=bq.at hr;have oy:=NV hr;generalize a.take i=R0 at *;repeat' (first|(apply AG<;>intro hc<;>try omega)|apply AR|(refine A4 V' ?_ rfl ?_;omega)|apply AE)<;>conv=>whnf
  refine CE (λ j=>n-j) (λ(j:Nat)=>j<=n) (λ j=>[(17,.int .i64 j),(6,.row 277006 0 3 0 j)]) (λ j=>[(277006,277006,.rw 3 ((r.take j).map eQ))]) 0 O' ?_;intro j p2 jh;have Ch:(r.take j).length=j:=by rw[xa];omega
  by_cases hj:j<n
  ·obtain ⟨x,hx⟩:=H' r j
   have dv:r[(j:Int).toNat]? = some x:=hx;have lk:=NV hx;have hT:=fD N.toa6 (jg.at hx) O';generalize r.take j=M0 at *;repeat' (first|(apply AG<;>intro hc<;>try omega)|(refine A4 V' ?_ rfl ?_;omega)|apply DG|apply AE|refine AD (hT) ?_)<;>conv=>whnf
   refine EE (enc:=eQ) x rfl Ch.symm rfl O' O' ?_;conv=>whnf
   repeat' (first|(apply AP;omega)|fail)<;>conv=>whnf
   rw[<-lk,show (r.take (j+1)).length=j+1 by rw[xa];omega];exact A9 [(277006,277025)] (jh (j+1) O' O')
  ·obtain rfl:j=n:=O'
   clear jh;rw[zT O'];repeat' (first|(apply AG<;>intro hc<;>try omega)|apply AE)<;>conv=>whnf
   refine AX (by rw[za,bh]) ?_;refine RP (r:=r) (en:=eQ) zn.symm O' O' ?_;rw[<-oy,show (a.take (i+1)).length=i+1 by rw[xa];omega];conv=>whnf
   repeat' (first|(apply AP;omega)|fail)<;>conv=>whnf
   exact A9 [(277003,277030)] (ih (i+1) O' O')
 ·obtain rfl:i=n:=O'
  clear ih;rw[zT O'];repeat' (first|(apply AG<;>intro hc<;>try omega)|apply AE)<;>conv=>whnf
  refine ⟨rfl,_,rfl,?_⟩;conv=>whnf
  skip
  refine DF (λ j=>i-j) (λ(j:Nat)=>j<=i) (λ j=>[(19,.int .i64 j)]) (λ j=>[(277003,277003,.mx (BJ 3 eQ ((C1 a b).take j++a.drop j)))]) [] [] 0 (by first|exact B'|(rw[Ha,Ac,tc];exact B')) O' ?_;intro j p2 jh;have cq:((C1 a b).take j++a.drop j).length=i:=by rw[ga,xa,tb];omega
  by_cases hj:j<i
  ·obtain ⟨r,s8⟩:=H' a j
   obtain ⟨s,br⟩:=H' b j;have Qn:b[(j:Int).toNat]? = some s:=br;have bh:=km r (zM s8);have xq:=va s (zM br);have hRj:=oV (a:=C1 a b) O' s8;have hRs:=oW (a:=C1 a b) (b:=a) O' (WU s8 br);generalize (C1 a b).take j++a.drop j=R0 at *;repeat' (first|(apply AG<;>intro hc<;>try omega)|(apply AX;omega)|(refine A4 V' ?_ rfl ?_;omega)|(refine GG ?_ (λ r hr => ?_);omega)|refine GX V' ?_|apply AE)<;>conv=>whnf
   cases hRj.symm.trans hr;refine ZK (enc:=eQ) (by rw[za]) (λ_=>rfl) O' O' ?_;intro s' v;conv=>whnf
   repeat' (first|(apply AX;omega)|fail)<;>conv=>whnf
   refine AX ⟨rfl,by rw[za]⟩ ?_;refine R3 (i:=j) O' (by rw[Oa];simp only[BJ,za];omega) ?_;rw[show 0+((j:Int)).toNat=j by omega,Lg,show (BJ 3 eQ R0).set j (some (3,(r++s).map eQ))=BJ 3 eQ (R0.set j (r++s)) by simp only[BJ,Oe],hRs];conv=>whnf
   repeat' (first|(apply AP;omega)|fail)<;>conv=>whnf
   exact A9 [] (jh (j+1) O' O')
  ·have ej:j=i:=O'
   clear jh;rw[ej,zT O',nb O',Ib];repeat' (first|(apply AG<;>intro hc<;>try omega)|apply AR|apply AE)<;>conv=>whnf
   rw[y9];refine FV 1000 N.HT rfl rfl ?_;repeat' (first|apply AE|refine AD (hI) ?_)<;>conv=>whnf
   refine BN [] B' (AlZ N q1 q2 q3 q4 a b a i W k hn hW da hB hT Gy Hx (λ m k2 c2 d h1 h2 h3 h4 => ?_));by_cases ic:k2<i
   ·(repeat' (apply AE<;>conv=>whnf))
    refine ⟨rfl,?_⟩;conv=>whnf
    repeat' (first|(apply AG<;>intro hc<;>try omega)|apply AR)<;>conv=>whnf
    exact ⟨_,AY rfl (by simp only[A3,B7,EZ,true_and,and_true]),Or.inl ⟨h1.sk O',rfl⟩⟩
   ·have Fg:k2=i/\c2=i:=O'
    obtain ⟨rfl,rfl⟩:=Fg;(repeat' (apply AE<;>conv=>whnf))
    refine ⟨rfl,?_⟩;conv=>whnf
    repeat' (first|(apply AG<;>intro hc<;>try omega)|apply AR)<;>conv=>whnf
    refine ZJ 10 10 rfl ?_;have xf:=h1.len;have z9:NS c2 a:=h1.nsT hT;have n8 : ∀ r:AV,r = .c5 [.sl false (eM (m.map (·.drop c2))),.int .i64 0]->((¬ NS c2 a/\r = .c5 [.sl false [],.int .i64 11])\/(NS c2 a /\ ∃ m:J',r = .c5 [.sl false (eM (m.map (·.drop c2))),.int .i64 0]/\E1 a b c2 W m c2 c2/\Ms (F6 k c2) m)):=λ r hr=>Or.inr ⟨z9,m,hr,h1,h3⟩
    have Bm:(m.map (·.drop c2)).length=c2:=by rw[za];exact xf
    have Mz : ∀ (q:Nat) (r:K'),m[q]? = some r->(m.map (·.drop c2))[q]? = some (r.drop c2):=λ q r hq=>by rw[sa,hq];rfl
    generalize m.map (·.drop c2)=U at *;refine CE (λ i=>c2-i) (λ(i:Nat)=>i<=c2) (λ i=>[(48,.int .i64 i),(10,.row 10 0 1 0 i)]) (λ i=>[(10,10,.mx (BJ 3 eQ (U.take i)))]) 0 O' ?_;intro i i1 ih;have Qz:(U.take i).length=i:=by rw[xa];omega
    by_cases ue:i<c2
    ·obtain ⟨rp,s8⟩:=H' m i
     have bh:=h1.wid rp (zM s8);have jg:=h3.at s8;have hut:=NV (Mz i rp s8);have Hr:(rp.drop c2).length=W:=by rw[tb];omega
     have po : ∀ (j:Nat),(rp.drop c2)[j]? = rp[c2+j]? := λ j=>by rw[ie]
     generalize U.take i=R0 at *;repeat' (first|(apply AG<;>intro hc<;>try omega)|(apply AX;omega)|apply AR|(refine GG ?_ (λ r hr => ?_);omega)|apply AE)<;>conv=>whnf
     cases s8.symm.trans hr;refine rU c2 O' E' ?_;rw[za,show rp.length=c2+W from bh];conv=>whnf
     skip
     refine CE (λ j=>W-j) (λ(j:Nat)=>j<=W) (λ j=>[(59,.int .i64 j),(12,.row 12 0 3 0 j)]) (λ j=>[(12,12,.rw 3 (((rp.drop c2).take j).map eQ))]) 0 O' ?_;intro j j1 jh;have Ch:((rp.drop c2).take j).length=j:=by rw[xa];omega
     by_cases hj:j<W
     ·obtain ⟨x,hx⟩:=H' (rp.drop c2) j
      have dv:=hx;rw[po]at dv;have lk:=NV hx;have Kf:=fD N.toa6 (jg.at dv) O';generalize (rp.drop c2).take j=M0 at *;repeat' (first|(apply AG<;>intro hc<;>try omega)|(apply AX;omega)|refine GX V' ?_|apply AE)<;>conv=>whnf
      refine XZ (enc:=eQ) (e:=x) (l:=rp) (by rw[show 0+c2+((j:Nat):Int).toNat=c2+j by omega];exact dv) rfl ?_;conv=>whnf
      repeat' (first|apply DG|refine AD (Kf) ?_)<;>conv=>whnf
      refine EE (enc:=eQ) x rfl Ch.symm rfl O' O' ?_;conv=>whnf
      repeat' (first|(apply AP;omega)|fail)<;>conv=>whnf
      rw[<-lk,show ((rp.drop c2).take (j+1)).length=j+1 by rw[xa];omega];exact A9 [(12,67)] (jh (j+1) O' O')
     ·have ej:j=W:=O'
      clear jh;rw[ej,zT O'];repeat' (first|(apply AG<;>intro hc<;>try omega)|apply AE)<;>conv=>whnf
      refine AX (by rw[za,Hr]) ?_;refine RP (r:=rp.drop c2) (en:=eQ) Qz.symm O' O' ?_;rw[<-hut,show (U.take (i+1)).length=i+1 by rw[xa];omega];conv=>whnf
      repeat' (first|(apply AP;omega)|fail)<;>conv=>whnf
      exact A9 [(10,72)] (ih (i+1) O' O')
    ·have ei:i=c2:=O'
     clear ih;rw[ei,zT O'];repeat' (first|(apply AG<;>intro hc<;>try omega)|apply AE)<;>conv=>whnf
     refine ⟨.c5 [.sl false (eM U),.int .i64 0],?_,n8 _ rfl⟩;conv=>whnf
     refine H1 (λ_=>rfl) rfl Bm.symm ?_;conv=>whnf
     exact AY rfl (JO U 0)
end Go.c6

namespace Go.c6
theorem pF (x:Rat):x.num<0↔x<0:=by rw[<-Int.not_le,Rat.num_nonneg,Rat.not_le]
theorem N6 (x:Rat):CW x=if x<0 then -x else x:=by
 unfold CW;by_cases h:x<0
 ·rw[if_pos h,if_pos ((pF x).2 h)]
 ·rw[if_neg h,if_neg (λ e=>h ((pF x).1 e))]
theorem tD {a b c d:Rat} (h1:a<=b) (h2:c<=d):a+c<=b+d:=A'
theorem R5 (x:Rat):0<=CW x:=by
 rw[N6];split
 ·grind
 ·grind
theorem X2 (x y:Rat):CW (x*y)=CW x*CW y:=by
 have pp : ∀ a b:Rat,0<=a->0<=b->0<=a*b:=λ a b=>Na
 rw[N6,N6,N6];by_cases hx:x<0
 ·by_cases hy:y<0
  ·have h:=pp (-x) (-y) A' A'
   rw[if_pos hx,if_pos hy,if_neg (by rw[Rat.not_lt];grind)];grind
  ·have h:=pp (-x) y A' A'
   rw[if_pos hx,if_neg hy];by_cases h0:x*y<0
   ·rw[if_pos h0];grind
   ·rw[if_neg h0];grind
 ·by_cases hy:y<0
  ·have h:=pp x (-y) A' A'
   rw[if_neg hx,if_pos hy];by_cases h0:x*y<0
   ·rw[if_pos h0];grind
   ·rw[if_neg h0];grind
  ·have h:=pp x y A' A'
   rw[if_neg hx,if_neg hy,if_neg A']
theorem sW (x y:Rat):CW (x+y)<=CW x+CW y:=by
 rw[N6,N6,N6];split<;>split<;>split<;>grind
theorem sY {x:Rat} (h:0<=x):CW x=x:=by
 rw[N6,if_neg A']
theorem kF:CW 0=0:=sY Y'
def BQ:K'->Rat
 | []=>0
 | x::l=>CW x+BQ l
theorem Ys (x:Rat) : ∀ l,BQ (l++[x])=BQ l+CW x
 | []=>by simp only[tc,BQ];grind
 | y::l=>by
  simp only[ig,BQ,Ys x l];grind
theorem bV : ∀ l,0<=BQ l
 | []=>by simp [BQ]
 | x::l=>by
  have h1:=R5 x;have h2:=bV l;simp only[BQ];grind
theorem qK {c:Rat} (hc:0<=c) : ∀ l,BQ (l.map (· * c))=BQ l*c
 | []=>by simp only[Nc,BQ];grind
 | x::l=>by
  simp only[Qc,BQ,qK hc l,X2,sY hc];grind
def QW (m x:Rat):Rat:=if m<CW x then CW x else m
def WQ (l:K'):Rat:=l.foldl QW 0
theorem Ajj (m x:Rat):m<=QW m x/\CW x<=QW m x:=by
 unfold QW;split<;>exact ⟨A',A'⟩
theorem nM : ∀ (l:K') (m:Rat),m<=l.foldl QW m /\ ∀ x∈l,CW x<=l.foldl QW m
 | [],m=>⟨Ec,λ x h=>by cases h⟩
 | y::l,m=>by
  obtain ⟨h1,h2⟩:=nM l (QW m y);obtain ⟨h3,h4⟩:=Ajj m y;refine ⟨gb h3 h1,λ x hx => ?_⟩;rcases Gc.1 hx with rfl|hx
  ·exact gb h4 h1
  ·exact h2 x hx
theorem nU {l:K'} {x:Rat} (h:x∈l):CW x<=WQ l:=(nM l 0).2 x h
theorem fP (l:K'):0<=WQ l:=(nM l 0).1
theorem zX {l:K'} {c:Rat} (hc:0<=c) (h : ∀ x∈l,CW x<=c):WQ l<=c:=by
 have : ∀ (l:K') (m:Rat),m<=c->(∀ x∈l,CW x<=c)->l.foldl QW m<=c:=by
  intro l;induction l with
  | nil=>intro m hm _;exact hm
  | cons x l ih =>
   intro m hm h;refine ih _ ?_ λ y hy=>h y (pc _ hy)
   unfold QW;split
   ·exact h x xc
   ·exact hm
 exact this l 0 hc h
theorem mF : ∀ (r v:K') (g:Rat),0<=g->(∀ x∈v,CW x<=g)->CW (AZ r v)<=BQ r*g
 | [],v,g,hg,_=>by
  have:AZ [] v=0:=by cases v<;>rfl
  rw[this,kF];simp only[BQ];grind
 | x::r,[],g,hg,_=>by
  show CW 0<=_;rw[kF];exact Na (bV _) hg
 | x::r,y::v,g,hg,h=>by
  have h1:=mF r v g hg λ z hz=>h z (pc _ hz)
  have h2:=h y xc;have h3:CW x*CW y<=CW x*g:=Ra h2 (R5 x);have h4:=sW (x*y) (AZ r v);rw[X2]at h4;simp only[AZ,BQ];rw[Dg];exact gb h4 (tD h3 h1)
theorem Ak3 {a:J'} {s:Rat} (hs:0<=s) (h : ∀ r∈a,BQ r<=s) (v:K'):WQ (EK a v)<=s*WQ v:=by
 refine zX (Na hs (fP v)) λ x hx => ?_
 obtain ⟨r,hr,rfl⟩:=oa.1 hx;exact gb (mF r v _ (fP v) λ y hy=>nU hy) (Db (h r hr) (fP v))
def DH (a:J'):Bool:=a.all λ r=>decide (BQ r<=1/2)
def B8 (n:Nat) (a:J'):Nat->J'
 | 0=>a
 | k+1=>HB (B8 n a k) (B8 n a k) n
theorem VG {n:Nat} {a:J'} (h:Sq n a) : ∀ k,Sq n (B8 n a k)
 | 0=>h
 | k+1=>Sq.mul (VG h k).l _
def C9 (c:Rat) (a:J'):J':=a.map λ r=>r.map (· * c)
theorem Yu (c:Rat) (a:J'):(C9 c a).length=a.length:=by simp [C9]
theorem Yv {n:Nat} (c:Rat) {a:J'} (h : ∀ r∈a,r.length=n) : ∀ r∈C9 c a,r.length=n:=λ r hr=>by
 obtain ⟨s,hs,rfl⟩:=oa.1 hr;rw[za];exact h s hs
theorem AmG {n:Nat} (c:Rat) {a:J'} (h:Sq n a):Sq n (C9 c a):=⟨by rw[Yu,h.l],Yv c h.r⟩
theorem AmF {c:Rat} {a:J'} {i:Nat} {r:K'} (h:a[i]? = some r):(C9 c a)[i]? = some (r.map (· * c)):=by rw[C9,sa,h];rfl
theorem Ajb (r:K') (c:Rat) (j:Nat):(r.map (· * c)).getD j 0=r.getD j 0*c:=by
 rw[ya,ya,sa];cases r[j]? with
 | none=>simp [Ed]
 | some x=>rfl
theorem AfD (c:Rat) (a:J') (j:Nat):DI (C9 c a) j=(DI a j).map (· * c):=by
 rw[DI,DI,C9,xb,xb];exact Qb λ r _=>Ajb r c j
theorem AgU (c d:Rat) (u v:K'):AZ (u.map (· * c)) (v.map (· * d))=AZ u v*(c*d):=by
 rw[WB,HN,WB,HN];grind
theorem AkW (c d:Rat) (a b:J') (n:Nat):HB (C9 c a) (C9 d b) n=C9 (c*d) (HB a b n):=by
 show (a.map λ r=>r.map (· * c)).map (λ r=>EX r (C9 d b) n)=(a.map λ r=>EX r b n).map (λ r=>r.map (· * (c*d)));rw[xb,xb];refine Qb λ r _ => ?_
 show EX (r.map (· * c)) (C9 d b) n=(EX r b n).map (· * (c*d));rw[EX,EX,xb];refine Qb λ j _ => ?_
 show AZ (r.map (· * c)) (DI (C9 d b) j)=AZ r (DI b j)*(c*d);rw[AfD,AgU]
def DZ (D:Rat):Nat->Rat
 | 0=>D
 | i+1=>DZ D i*DZ D i
theorem mB {D:Rat} (h:0<D) : ∀ i,0<DZ D i
 | 0=>h
 | i+1=>Rat.mul_pos (mB h i) (mB h i)
theorem Zk (n:Nat) (a:J') (D:Rat) (i:Nat):HB (C9 (DZ D i) (B8 n a i)) (C9 (DZ D i) (B8 n a i)) n=C9 (DZ D (i+1)) (B8 n a (i+1)):=AkW _ _ _ _ _
theorem zZ {s D:Rat} (hD:0<D):s*D+s*D<=D↔s<=1/2:=by
 have e:s*D+s*D=(s+s)*D:=A'
 have h1:(s+s)*D<=1*D↔s+s<=1:=⟨λ h=>Rat.le_of_mul_le_mul_right h hD,λ h=>Db h A'⟩;rw[Jf]at h1;rw[e,h1];constructor<;>intro h<;>grind
theorem AnC {k:Nat} {x:Rat} (hx:Bt k x) {S:Nat} {z:Int} (hz:x*(S:Rat)=(z:Rat)) {M:Nat} (hS:S<=2^M):Wh (k+M) (x*(S:Rat)):=by
 refine ⟨z,hz,?_⟩;have h1:=TH x;have h2:((z*(x.den:Int):Int):Rat)=((x.num*(S:Int):Int):Rat):=by
  rw[fc,fc,<-h1,<-hz,Ja,Ja];grind
 have h3:=congrArg Int.natAbs (fg.1 h2);rw[lf,lf,Kb,Kb]at h3;have h4:z.natAbs<=z.natAbs*x.den:=Nat.le_mul_of_pos_right _ x.den_pos;rw[Fe];exact oc h4 (by rw[h3];exact qe hx.1 hS)
theorem Ams (S:Nat) (x:Rat):((S:Rat)*x).den ∣ x.den:=by
 refine eB (z:=S*x.num) ?_;have h:=TH x;rw[fc,<-h,Ja];grind
theorem Uw {k:Nat} : ∀ (l:K') (S:Nat),0<S->Bs k l -> ∃ S':Nat,l.foldl P1 (S:Rat)=(S':Rat)/\0<S'/\S'<=S*2^(l.length*k)/\S ∣ S' /\ ∀ x∈l,∃ z:Int,x*(S':Rat)=(z:Rat)
 | [],S,h,_=>⟨S,rfl,h,Z',Nat.dvd_refl S,λ x hx=>by cases hx⟩
 | x::l,S,h,hb=>by
  have h1:=Ams S x;have hx:=hb x xc;have h2:((S:Rat)*x)*((((S:Rat)*x).den:Nat):Rat)=(((S:Rat)*x).num:Rat):=TH _;have h3:=Nat.le_of_dvd x.den_pos h1;have h4:=((S:Rat)*x).den_pos;generalize ((S:Rat)*x).num=u at h2;obtain ⟨S',e,p1,p2,p3,p4⟩:=Uw l (S*((S:Rat)*x).den) (Nat.mul_pos h h4) λ y hy=>hb y (pc _ hy)
  refine ⟨S',by rw[List.foldl_cons,<-e,P1,yc],p1,?_,Nat.dvd_trans (Nat.dvd_mul_right _ _) p3,λ y hy => ?_⟩
  ·have h5:S*((S:Rat)*x).den<=S*2^k:=yg S (oc h3 hx.2)
   have h6:=zR (2^(l.length*k)) h5;rw[Eb,Cb,Fe,Nat.mul_comm (2^(l.length*k)),<-Nat.mul_assoc];exact oc p2 h6
  ·rcases Gc.1 hy with rfl|hy
   ·obtain ⟨t,rfl⟩:=p3
    refine ⟨u*(t:Int),?_⟩;rw[yc,yc,fc,<-h2,Ja];grind
   ·exact p4 y hy
theorem Ux {k:Nat} {l:K'} (hb:Bs k l) : ∃ S:Nat,C7 l=(S:Rat)/\0<S/\S<=2^(l.length*k) /\ ∀ x∈l,∃ z:Int,x*(S:Rat)=(z:Rat):=by
 obtain ⟨S,e,h1,h2,_,h3⟩:=Uw l 1 O' hb;exact ⟨S,e,h1,by rwa [Ef]at h2,h3⟩
theorem Af4 (S:Nat) (x:Rat):((S:Rat)/(x.den:Rat)).den=((S:Rat)*x).den:=by
 have vb:(x.den:Rat)≠0:=λ e=>by
  have:((x.den:Nat):Rat)=((0:Nat):Rat):=e
  have:=De.1 this
  have:=x.den_pos
  omega
 have hx:=TH x;refine Nat.dvd_antisymm ?_ ?_
 ·-- e=(S x).den: e S num/d whole,so d ∣ e S
  have h1:=TH ((S:Rat)*x);generalize hE:((S:Rat)*x).den=E at *;generalize ((S:Rat)*x).num=u at h1;have h2:(((E*S:Nat):Int)*x.num:Int)=u*(x.den:Int):=by
   refine fg.1 ?_;rw[fc,fc,<-hx,<-h1,Ja,Ja,yc];grind
  have h3:x.den ∣ E*S*x.num.natAbs:=by
   have h4:(x.den:Int) ∣ ((E*S:Nat):Int)*x.num:=⟨u,by rw[h2,Int.mul_comm]⟩;have:=Int.natAbs_dvd_natAbs.2 h4
   rw[lf,Kb,Kb]at this;exact this
  obtain ⟨t,ht⟩:=Nat.Coprime.dvd_of_dvd_mul_right (Nat.Coprime.symm x.reduced) h3;refine eB (z:=t) ?_;have h5:((E*S:Nat):Rat)=((x.den*t:Nat):Rat):=congrArg _ ht;rw[yc,yc]at h5;rw[ve,<-ff,h5,Ja];have:=kd _ vb
  grind
 ·have h1:=TH ((S:Rat)/(x.den:Rat))
  generalize ((S:Rat)/(x.den:Rat)).num=u at h1;generalize ((S:Rat)/(x.den:Rat)).den=E at *;refine eB (z:=u*x.num) ?_;rw[fc,<-h1,<-hx,ve];have:=kd _ vb
  grind
def JH (a:J') (b:K'):Nat->K'
 | 0=>b
 | k+1=>EK a (JH a b k)
theorem jR {a:J'} {b:K'} {n:Nat} (ha:a.length=n) (hb:b.length=n) : ∀ k,(JH a b k).length=n
 | 0=>hb
 | k+1=>by rw[JH,gJ,ha]
theorem rL (a:J') (b:K') (k:Nat) : ∀ m,JH a b (k+m)=JH a (JH a b k) m
 | 0=>rfl
 | m+1=>by rw[<-Nat.add_assoc,JH,rL a b k m];rfl
theorem qS {n:Nat} {a:J'} (h:Sq n a) : ∀ (i:Nat) (v:K'),v.length=n->EK (B8 n a i) v=JH a v (2^i)
 | 0,_,_=>rfl
 | i+1,v,hv=>by
  rw[B8,Ak2 _ _ _ (VG h i).r,qS h i v hv,qS h i _ (jR h.l hv _),<-rL,Ke,Cf]
theorem AfN {a:J'} (h:DH a=true) : ∀ r∈a,BQ r<=1/2:=λ r hr=>by
 have:=Fa.1 h r hr
 simpa using this
theorem AfM {a:J'}:DH a=true ↔ ∀ r∈a,BQ r<=1/2:=by
 rw[DH,Fa];exact ⟨λ h r hr=>by simpa using h r hr,λ h r hr=>by simpa using h r hr⟩
theorem cB {f g:Nat->Rat} : ∀ n,(∀ j,j<n->f j<=g j)->A6 f n<=A6 g n
 | 0,_=>Ec
 | n+1,h=>by
  have h1:=cB n λ j hj=>h j O'
  have h2:=h n O';simp only[A6];exact tD h1 h2
theorem qY {f:Nat->Rat} (h : ∀ j,0<=f j) : ∀ n,0<=A6 f n
 | 0=>Ec
 | n+1=>by
  have h1:=qY h n;have h2:=h n;simp only[A6];grind
theorem Xw {f:Nat->Rat} {c:Rat} : ∀ n,A6 (λ j=>c*f j) n=c*A6 f n
 | 0=>by simp only[A6];grind
 | n+1=>by simp only[A6,Xw n];grind
def LX (a:J') (b:K') (k:Nat):Rat:=WQ (JH a b k)
theorem Aje {n:Nat} {a:J'} {b:K'} (ha:Sq n a) (hb:b.length=n) {i:Nat} (hc:DH (B8 n a i)=true) (j:Nat):LX a b (2^i+j)<=(1/2)*LX a b j:=by
 rw[LX,LX,Je,rL,<-qS ha i _ (jR ha.l hb j)];exact Ak3 A' (AfN hc) _
theorem kQ {k:Nat} {x:Rat} {S:Nat} (hS:0<S) (yw:S<=2^k) (h:Wh k (x*(S:Rat))):Bt k x:=by
 obtain ⟨z,hz,hk⟩:=h;have h0:(S:Rat)≠0:=λ e=>by
  have:((S:Nat):Rat)=((0:Nat):Rat):=e
  have:=De.1 this
  omega
 have e:x=mkRat z S:=by
  rw[Rat.mkRat_eq_div,<-hz,ve,ff,kd _ h0,Od]
 rw[e];exact Bt.mk hk yw
theorem Yx {n k:Nat} {a:J'} (hs:Sq n a) (hb:Ms k a) : ∃ S:Nat,C7 a.flatten=(S:Rat)/\0<S/\S<=2^(n*n*k) /\ ∀ r∈C9 (S:Rat) a,∀ x∈r,Wh (k+n*n*k) x:=by
 have hl:a.flatten.length=n*n:=by
  have : ∀ (a:J'),(∀ r∈a,r.length=n)->a.flatten.length=a.length*n:=by
   intro a;induction a with
   | nil=>intro _;simp
   | cons r a ih =>
    intro h;rw[Cc,ga,ih λ x hx=>h x (pc _ hx),h r xc,Eb,Cb,Je]
  rw[this a hs.r,hs.l]
 have hbf:Bs k a.flatten:=λ x hx=>by
  obtain ⟨r,hr,hx⟩:=He.1 hx;exact hb r hr x hx
 obtain ⟨S,e,h1,h2,h3⟩:=Ux hbf;rw[hl]at h2;refine ⟨S,e,h1,h2,λ r hr x hx => ?_⟩;obtain ⟨s,hs,rfl⟩:=oa.1 hr;obtain ⟨y,hy,rfl⟩:=oa.1 hx;obtain ⟨z,hz⟩:=h3 y (He.2 ⟨s,hs,hy⟩);exact AnC (hb s hs y hy) hz h2
def IY (n:Nat) (a:J') (i:Nat):Prop:=DH (B8 n a i)=true /\ ∀ j,j<i->DH (B8 n a j)=false
def FS (k:Nat):Nat->Nat
 | 0=>17*k
 | i+1=>FS k i+FS k i+4
theorem Zz {k:Nat} : ∀ i,i<=7->FS k i<=2176*k+508:=by
 intro i hi;have h1:FS k 0=17*k:=rfl;have e1:FS k 1=FS k 0+FS k 0+4:=rfl;have e2:FS k 2=FS k 1+FS k 1+4:=rfl;have e3:FS k 3=FS k 2+FS k 2+4:=rfl;have e4:FS k 4=FS k 3+FS k 3+4:=rfl;have e5:FS k 5=FS k 4+FS k 4+4:=rfl;have e6:FS k 6=FS k 5+FS k 5+4:=rfl;have e7:FS k 7=FS k 6+FS k 6+4:=rfl;obtain rfl|rfl|rfl|rfl|rfl|rfl|rfl|rfl:i=0\/i=1\/i=2\/i=3\/i=4\/i=5\/i=6\/i=7:=O'
 all_goals omega
theorem AnB {k l n:Nat} {a b:J'} (ha : ∀ r∈a,∀ x∈r,Wh k x) (hl : ∀ r∈a,r.length=n) (hb : ∀ r∈b,∀ x∈r,Wh l x) : ∀ r∈HB a b n,∀ x∈r,Wh (k+l+n) x:=λ r hr x hx=>by
 obtain ⟨s,hs,rfl⟩:=oa.1 hr;obtain ⟨j,_,rfl⟩:=oa.1 hx;have hc : ∀ x∈DI b j,Wh l x:=λ x hx=>by
  obtain ⟨t,ht,rfl⟩:=oa.1 hx;rw[ya];cases e:t[j]? with
  | none=>exact Wh.zero l
  | some y=>exact hb t ht y (zM e)
 have:=Wh.dot (ha s hs) hc
 rwa [hl s hs]at this
theorem jA {n k:Nat} {a:J'} {D:Nat} (hs:Sq n a) (hn:n<=4) (hA : ∀ r∈C9 (D:Rat) a,∀ x∈r,Wh (k+n*n*k) x) : ∀ i,∀ r∈C9 (DZ (D:Rat) i) (B8 n a i),∀ x∈r,Wh (FS k i) x
 | 0=>λ r hr x hx=>(hA r hr x hx).le (by
   show k+n*n*k<=17*k;have:n*n<=4*4:=qe hn hn
   have:=zR k this
   omega)
 | i+1=>λ r hr x hx=>by
  rw[<-Zk]at hr;exact (AnB (jA hs hn hA i) (Yv _ (VG hs i).r) (jA hs hn hA i) r hr x hx).le (by simp only[FS];omega)
theorem mC {D M:Nat} (hD:D<=2^M) : ∀ i,Wh (2^i*M) (DZ (D:Rat) i)
 | 0=>⟨(D:Int),by rw[DZ,Ja],by rw[Hg,Ef];simpa using hD⟩
 | i+1=>((mC hD i).mul (mC hD i)).le (by rw[Ke,Cf,Nat.add_mul];exact zb _)
theorem vN (D:Nat) : ∀ i,DZ (D:Rat) i=((D^2^i:Nat):Rat)
 | 0=>by simp [DZ]
 | i+1=>by
  rw[DZ,vN D i,<-yc,<-Fe,Ke,Cf]
theorem AfO {n i:Nat} {a:J'} {D:Rat} (hD:0<D):(∀ r∈C9 (DZ D i) (B8 n a i),BQ r+BQ r<=DZ D i)↔DH (B8 n a i)=true:=by
 have hp:=mB hD i;rw[AfM];constructor
 ·intro h r hr
  have:=h _ (oa.2 ⟨r,hr,rfl⟩)
  rw[qK A']at this;exact (zZ hp).1 this
 ·intro h r hr
  obtain ⟨s,hs,rfl⟩:=oa.1 hr;rw[qK A'];exact (zZ hp).2 (h s hs)
theorem bU {k:Nat} : ∀ {l:K'},Bs k l->Bt (l.length*(k+1)) (BQ l)
 | [],_=>Bt.zero _
 | x::l,h=>by
  have h1:=bU (l:=l) λ y hy=>h y (pc _ hy)
  have h2:Bt k (CW x):=by
   unfold CW;split
   ·exact (h x xc).yl
   ·exact h x xc
  refine (h2.add h1).le ?_;rw[Eb,Cb];omega
theorem sX {k:Nat} {x:Rat} (h:Bt k x):Bt k (CW x):=by
 unfold CW;split
 ·exact h.yl
 ·exact h
theorem Bt.ngN {k:Nat} {x:Rat} (h:Bt k x):Bt k (-x):=⟨by rw[Hf,mf];exact h.1,by rw[Gf];exact h.2⟩
def dc (n i j:Nat):Nat:=i*n-i*(i-1)/2+j-i
def DT (i m:Nat):List (Nat × Nat):=(Qa m).map λ t=>(i,i+t)
def BC (n:Nat):Nat->List (Nat × Nat)
 | 0=>[]
 | i+1=>BC n i++DT i (n-i)
theorem Uz (i m:Nat):DT i (m+1)=DT i m++[(i,i+m)]:=by
 rw[DT,yb,kc];rfl
theorem Y1 (i m:Nat):(DT i m).length=m:=by simp [DT]
theorem pM {n:Nat} : ∀ {m i j:Nat},(i,j)∈BC n m->i<m/\i<=j/\j<n
 | 0,_,_,h=>by cases h
 | m+1,i,j,h=>by
  rcases Ga.1 h with h|h
  ·have:=pM h;omega
  ·obtain ⟨t,ht,e⟩:=oa.1 h
   have:=vf.1 ht
   have h1:=congrArg Prod.fst e;have h2:=congrArg xh e;simp only at h1 h2;omega
theorem QV {n:Nat} (h:n<=4):n=0\/n=1\/n=2\/n=3\/n=4:=O'
theorem Alu {n:Nat} (hn:n<=4):(BC n n).length=n*(n+1)/2:=by
 rcases QV hn with rfl|rfl|rfl|rfl|rfl<;>rfl
theorem iC {n:Nat} (hn:n<=4):(BC n n).length<=10:=by
 rcases QV hn with rfl|rfl|rfl|rfl|rfl<;>decide
def gC (A:J') (p q:Nat × Nat):Rat :=
 if q=p then (if q.1=q.2 then -(A2 A p.1 q.1*A2 A p.2 q.2) else -(A2 A p.1 q.1*A2 A p.2 q.2)-A2 A p.1 q.2*A2 A p.2 q.1)+1
 else if q.1=q.2 then -(A2 A p.1 q.1*A2 A p.2 q.2) else -(A2 A p.1 q.1*A2 A p.2 q.2)-A2 A p.1 q.2*A2 A p.2 q.1
def D7 (A:J') (n:Nat) (p:Nat × Nat):K':=(BC n n).map (gC A p)
def gM (A:J') (n:Nat):J':=(BC n n).map (D7 A n)
def bQ (B:K') (i:Nat):Rat:=B.getD i 0
theorem kJ {B:K'} {i:Nat} {x:Rat} (h:B[i]? = some x):bQ B i=x:=by rw[bQ,ya,h];rfl
def gR (B:K') (n:Nat):K':=(BC n n).map λ p=>bQ B p.1*bQ B p.2
theorem GC {k:Nat} {A:J'} (h:Ms k A) (i j:Nat):Bt k (A2 A i j):=by
 cases e:A[i]? with
 | none =>
  rw[A2,show A.getD i []=[] by rw[ya,e];rfl];exact Bt.zero k
 | some r =>
  rw[J9 e];exact Bs.getD (h.at e) j
theorem Ai4 {k:Nat} {A:J'} (h:Ms k A) (p q:Nat × Nat):Bt (4*k+2) (gC A p q):=by
 have h1:=((GC h p.1 q.1).mul (GC h p.2 q.2)).ngN;have h2:=(GC h p.1 q.2).mul (GC h p.2 q.1);unfold gC;split<;>split
 ·exact (h1.add (Bt.one 0)).le O'
 ·exact ((h1.pf h2).add (Bt.one 0)).le O'
 ·exact h1.le O'
 ·exact (h1.pf h2).le O'
theorem Ai6 {k:Nat} {A:J'} (h:Ms k A) (n:Nat):Ms (4*k+2) (gM A n):=λ r hr=>by
 obtain ⟨p,_,rfl⟩:=oa.1 hr;intro x hx;obtain ⟨q,_,rfl⟩:=oa.1 hx;exact Ai4 h p q
theorem Ai7 {k:Nat} {B:K'} (h:Bs k B) (n:Nat):Bs (4*k+2) (gR B n):=λ x hx=>by
 obtain ⟨p,_,rfl⟩:=oa.1 hx;exact ((Bs.getD h p.1).mul (Bs.getD h p.2)).le O'
theorem SY {n:Nat} (A:J'):Sq (BC n n).length (gM A n):=⟨by simp [gM],λ r hr=>by
 obtain ⟨p,_,rfl⟩:=oa.1 hr;simp [D7]⟩
theorem aP (B:K') (n:Nat):(gR B n).length=(BC n n).length:=by simp [gR]
theorem zO {M k:Nat} {A:J'} (h : ∀ i j,Wh k ((M:Rat)*A2 A i j)) (hM:M<=2^k) {n:Nat} : ∀ r∈gM A n,∀ x∈r,Wh (2*k+2) (((M*M:Nat):Rat)*x):=λ r hr x hx=>by
 obtain ⟨p,_,rfl⟩:=oa.1 hr;obtain ⟨q,_,rfl⟩:=oa.1 hx;have h1:=(h p.1 q.1).mul (h p.2 q.2);have h2:=(h p.1 q.2).mul (h p.2 q.1);have h3:Wh (k+k) (((M*M:Nat):Rat)):=⟨((M*M:Nat):Int),by rw[Ja],by
  rw[Kb,Fe];exact qe hM hM⟩
 have e1:(M:Rat)*A2 A p.1 q.1*((M:Rat)*A2 A p.2 q.2)=((M*M:Nat):Rat)*(A2 A p.1 q.1*A2 A p.2 q.2):=by rw[yc];grind
 have e2:(M:Rat)*A2 A p.1 q.2*((M:Rat)*A2 A p.2 q.1)=((M*M:Nat):Rat)*(A2 A p.1 q.2*A2 A p.2 q.1):=by rw[yc];grind
 rw[e1]at h1;rw[e2]at h2;unfold gC;generalize A2 A p.1 q.1*A2 A p.2 q.2=u at *;generalize A2 A p.1 q.2*A2 A p.2 q.1=v at *;generalize ((M*M:Nat):Rat)=w at *;split<;>split
 ·rw[show w*(-u+1) = -(w*u)+w by grind]
  exact (h1.neg.add h3).le O'
 ·rw[show w*(-u-v+1) = -(w*u)-w*v+w by grind]
  exact ((h1.neg.sub h2).add (h3.le (Nat.le_succ _))).le O'
 ·rw[show w * -u = -(w*u) by grind]
  exact h1.neg.le O'
 ·rw[show w*(-u-v) = -(w*u)-w*v by grind]
  exact (h1.neg.sub h2).le O'
def kM (X:K') (n:Nat):J':=(Qa n).map λ i=>(Qa n).map λ j=>X.getD (dc n (min i j) (max i j)) 0
theorem TC (X:K') (n:Nat):Sq n (kM X n):=⟨by simp [kM],λ r hr=>by
 obtain ⟨i,_,rfl⟩:=oa.1 hr;simp⟩
theorem aS (X:K') {n i j:Nat} (hi:i<n) (hj:j<n):A2 (kM X n) i j=X.getD (dc n (min i j) (max i j)) 0:=by
 rw[J9 (r:=(Qa n).map λ j=>X.getD (dc n (min i j) (max i j)) 0) (by rw[kM,sa,Ba hi];rfl),ya,sa,Ba hj];rfl
theorem TB {k:Nat} {X:K'} (h:Bs k X) (n:Nat):Ms k (kM X n):=λ r hr=>by
 obtain ⟨i,_,rfl⟩:=oa.1 hr;intro x hx;obtain ⟨j,_,rfl⟩:=oa.1 hx;exact Bs.getD h _
def H2 (A K:J') (n i j:Nat):Rat:=A6 (λ a=>A6 (λ b=>A2 A i a*A2 A j b*A2 K a b) n) n
def HZ (A:J') (B X:K') (n:Nat):Prop:=X.length=(BC n n).length /\ ∀ (i:Nat) (r:K') (s:Rat),(gM A n)[i]? = some r->(gR B n)[i]? = some s->AZ r X=s
theorem HZ.eq {A:J'} {B X:K'} {n:Nat} (hn:n<=4) (h:HZ A B X n) : ∀ i j,i<n->j<n->A2 (kM X n) i j=bQ B i*bQ B j+H2 A (kM X n) n i j:=by
 obtain ⟨hl,h⟩:=h;rcases QV hn with rfl|rfl|rfl|rfl|rfl
 ·intro i j hi;omega
 ·obtain ⟨x0,rfl⟩ : ∃ x0,X=[x0]:=by
   match X,hl with
   | [x0],_=>exact ⟨x0,rfl⟩
  have h0:=h 0 _ _ rfl rfl;simp [AZ,D7,gC,BC,DT,yb]at h0;intro i j hi hj;obtain rfl:i=0:=O'
  obtain rfl:j=0:=O'
  simp only[H2,A6,aS _ (show 0<1 by omega) (show 0<1 by omega)];show x0=_+(0+(0+_*x0));grind
 ·obtain ⟨x0,x1,x2,rfl⟩ : ∃ x0 x1 x2,X=[x0,x1,x2]:=by
   match X,hl with
   | [x0,x1,x2],_=>exact ⟨x0,x1,x2,rfl⟩
  have h0:=h 0 _ _ rfl rfl;have h1:=h 1 _ _ rfl rfl;have h2:=h 2 _ _ rfl rfl;simp [AZ,D7,gC,BC,DT,yb]at h0 h1 h2;have key : ∀ i j,i<2->j<2->A2 (kM [x0,x1,x2] 2) i j=if i=0 then (if j=0 then x0 else x1) else (if j=0 then x1 else x2):=by
   intro i j hi hj;rw[aS _ hi hj];obtain rfl|rfl:i=0\/i=1:=O'
   all_goals obtain rfl|rfl:j=0\/j=1:=O'
   all_goals rfl
  intro i j hi hj;rw[key i j hi hj];simp only[H2,A6,key 0 0 O' O',key 0 1 O' O',key 1 0 O' O',key 1 1 O' O'];obtain rfl|rfl:i=0\/i=1:=O'
  all_goals obtain rfl|rfl:j=0\/j=1:=O'
  all_goals simp
  all_goals grind
 ·obtain ⟨x0,x1,x2,x3,x4,x5,rfl⟩ : ∃ x0 x1 x2 x3 x4 x5,X=[x0,x1,x2,x3,x4,x5]:=by
   match X,hl with
   | [x0,x1,x2,x3,x4,x5],_=>exact ⟨x0,x1,x2,x3,x4,x5,rfl⟩
  have h0:=h 0 _ _ rfl rfl;have h1:=h 1 _ _ rfl rfl;have h2:=h 2 _ _ rfl rfl;have h3:=h 3 _ _ rfl rfl;have h4:=h 4 _ _ rfl rfl;have h5:=h 5 _ _ rfl rfl;clear h hl;simp [AZ,D7,gC,BC,DT,yb]at h0 h1 h2 h3 h4 h5;have key : ∀ i j,i<3->j<3->A2 (kM [x0,x1,x2,x3,x4,x5] 3) i j=if i=0 then (if j=0 then x0 else if j=1 then x1 else x2) else if i=1 then (if j=0 then x1 else if j=1 then x3 else x4) else (if j=0 then x2 else if j=1 then x4 else x5):=by
   intro i j hi hj;rw[aS _ hi hj];obtain rfl|rfl|rfl:i=0\/i=1\/i=2:=O'
   all_goals obtain rfl|rfl|rfl:j=0\/j=1\/j=2:=O'
   all_goals rfl
  intro i j hi hj;rw[key i j hi hj];simp only[H2,A6,key 0 0 O' O',key 0 1 O' O',key 0 2 O' O',key 1 0 O' O',key 1 1 O' O',key 1 2 O' O',key 2 0 O' O',key 2 1 O' O',key 2 2 O' O'];obtain rfl|rfl|rfl:i=0\/i=1\/i=2:=O'
  all_goals obtain rfl|rfl|rfl:j=0\/j=1\/j=2:=O'
  all_goals simp
  ·clear h1 h2 h3 h4 h5;grind
  ·clear h0 h2 h3 h4 h5;grind
  ·clear h0 h1 h3 h4 h5;grind
  ·clear h0 h2 h3 h4 h5;grind
  ·clear h0 h1 h2 h4 h5;grind
  ·clear h0 h1 h2 h3 h5;grind
  ·clear h0 h1 h3 h4 h5;grind
  ·clear h0 h1 h2 h3 h5;grind
  ·clear h0 h1 h2 h3 h4;grind
 ·obtain ⟨x0,x1,x2,x3,x4,x5,x6,x7,x8,x9,rfl⟩ : ∃ x0 x1 x2 x3 x4 x5 x6 x7 x8 x9,X=[x0,x1,x2,x3,x4,x5,x6,x7,x8,x9]:=by
   match X,hl with
   | [x0,x1,x2,x3,x4,x5,x6,x7,x8,x9],_=>exact ⟨x0,x1,x2,x3,x4,x5,x6,x7,x8,x9,rfl⟩
  have h0:=h 0 _ _ rfl rfl;have h1:=h 1 _ _ rfl rfl;have h2:=h 2 _ _ rfl rfl;have h3:=h 3 _ _ rfl rfl;have h4:=h 4 _ _ rfl rfl;have h5:=h 5 _ _ rfl rfl;have h6:=h 6 _ _ rfl rfl;have h7:=h 7 _ _ rfl rfl;have h8:=h 8 _ _ rfl rfl;have h9:=h 9 _ _ rfl rfl;clear h hl;simp [AZ,D7,gC,BC,DT,yb]at h0 h1 h2 h3 h4 h5 h6 h7 h8 h9;have key : ∀ i j,i<4->j<4->A2 (kM [x0,x1,x2,x3,x4,x5,x6,x7,x8,x9] 4) i j=if i=0 then (if j=0 then x0 else if j=1 then x1 else if j=2 then x2 else x3) else if i=1 then (if j=0 then x1 else if j=1 then x4 else if j=2 then x5 else x6) else if i=2 then (if j=0 then x2 else if j=1 then x5 else if j=2 then x7 else x8) else (if j=0 then x3 else if j=1 then x6 else if j=2 then x8 else x9):=by
   intro i j hi hj;rw[aS _ hi hj];obtain rfl|rfl|rfl|rfl:i=0\/i=1\/i=2\/i=3:=O'
   all_goals obtain rfl|rfl|rfl|rfl:j=0\/j=1\/j=2\/j=3:=O'
   all_goals rfl
  intro i j hi hj;rw[key i j hi hj];simp only[H2,A6,key 0 0 O' O',key 0 1 O' O',key 0 2 O' O',key 0 3 O' O',key 1 0 O' O',key 1 1 O' O',key 1 2 O' O',key 1 3 O' O',key 2 0 O' O',key 2 1 O' O',key 2 2 O' O',key 2 3 O' O',key 3 0 O' O',key 3 1 O' O',key 3 2 O' O',key 3 3 O' O'];clear key;obtain rfl|rfl|rfl|rfl:i=0\/i=1\/i=2\/i=3:=O'
  ·obtain rfl|rfl|rfl|rfl:j=0\/j=1\/j=2\/j=3:=O'
   ·clear h1 h2 h3 h4 h5 h6 h7 h8 h9;simp;grind
   ·clear h0 h2 h3 h4 h5 h6 h7 h8 h9;simp;grind
   ·clear h0 h1 h3 h4 h5 h6 h7 h8 h9;simp;grind
   ·clear h0 h1 h2 h4 h5 h6 h7 h8 h9;simp;grind
  ·obtain rfl|rfl|rfl|rfl:j=0\/j=1\/j=2\/j=3:=O'
   ·clear h0 h2 h3 h4 h5 h6 h7 h8 h9;simp;grind
   ·clear h0 h1 h2 h3 h5 h6 h7 h8 h9;simp;grind
   ·clear h0 h1 h2 h3 h4 h6 h7 h8 h9;simp;grind
   ·clear h0 h1 h2 h3 h4 h5 h7 h8 h9;simp;grind
  ·obtain rfl|rfl|rfl|rfl:j=0\/j=1\/j=2\/j=3:=O'
   ·clear h0 h1 h3 h4 h5 h6 h7 h8 h9;simp;grind
   ·clear h0 h1 h2 h3 h4 h6 h7 h8 h9;simp;grind
   ·clear h0 h1 h2 h3 h4 h5 h6 h8 h9;simp;grind
   ·clear h0 h1 h2 h3 h4 h5 h6 h7 h9;simp;grind
  ·obtain rfl|rfl|rfl|rfl:j=0\/j=1\/j=2\/j=3:=O'
   ·clear h0 h1 h2 h4 h5 h6 h7 h8 h9;simp;grind
   ·clear h0 h1 h2 h3 h4 h5 h7 h8 h9;simp;grind
   ·clear h0 h1 h2 h3 h4 h5 h6 h7 h9;simp;grind
   ·clear h0 h1 h2 h3 h4 h5 h6 h7 h8;simp;grind
theorem HZ.uniq {A:J'} {B X Y:K'} {n:Nat} (hx:HZ A B X n) (hy:HZ A B Y n) (hs:NS (BC n n).length (gM A n)):X=Y:=by
 have h1:=hs (R6 X (Y.map (-1 * ·))) (by simp [R6,hx.1,hy.1]) (λ r hr=>by
  obtain ⟨i,hi⟩:=Jb hr;have w9:=(zS hi).1;obtain ⟨s,hs⟩:=H' (gR B n) i (by rw[aP];rw[(SY A).l]at w9;exact w9);have e1:=hx.2 i r s hi hs;have e2:=hy.2 i r s hi hs;rw[mE (by simp [hx.1,hy.1]),HN r (Y.map _),X9,HN Y r,e1,e2];grind)
 refine List.ext_getElem? λ i => ?_
 by_cases hi:i<(BC n n).length
 ·obtain ⟨x,dv⟩:=H' X i (by rw[hx.1];exact hi)
  obtain ⟨y,vl⟩:=H' Y i (by rw[hy.1];exact hi);have h2:=h1 i;rw[ya,R6,Mf,dv,sa,vl]at h2;have h3:x + -1*y=0:=h2;rw[dv,vl,show x=y by grind]
 ·rw[Cd (by rw[hx.1];omega),Cd (by rw[hy.1];omega)]
def RB (n:Nat) (row:List (Option Rat)) (k h:Nat) (v:Rat):List (Option Rat):=row.set (dc n (min k h) (max k h)) (some ((((row[dc n (min k h) (max k h)]?).getD none).getD 0)-v))
def JC (n:Nat) (row:List (Option Rat)) (k:Nat) (f:Nat->Rat):Nat->List (Option Rat)
 | 0=>row
 | h+1=>RB n (JC n row k f h) k h (f h)
def JY (n:Nat) (row:List (Option Rat)) (f:Nat->Nat->Rat):Nat->List (Option Rat)
 | 0=>row
 | k+1=>JC n (JY n row f k) k (f k) n
def P0 (n i j:Nat):List (Option Rat):=(qa (n*(n+1)/2) none).set (dc n i j) (some 1)
theorem pT (n:Nat) (row:List (Option Rat)) (k:Nat) (f:Nat->Rat) : ∀ h,(JC n row k f h).length=row.length
 | 0=>rfl
 | h+1=>by rw[JC,RB,Oa,pT n row k f h]
theorem Vo (n:Nat) (row:List (Option Rat)) (f:Nat->Nat->Rat) : ∀ k,(JY n row f k).length=row.length
 | 0=>rfl
 | k+1=>by rw[JY,pT,Vo n row f k]
theorem iE {n k h:Nat} (hn:n<=4) (hk:k<n) (hh:h<n):dc n (min k h) (max k h)<n*(n+1)/2:=by
 have h1 : ∀ n,n<5 -> ∀ k,k<n -> ∀ h,h<n->dc n (min k h) (max k h)<n*(n+1)/2:=Y'
 exact h1 n O' k hk h hh
def OB (k:Nat) (row:List (Option Rat)):Prop := ∀ x,some x∈row->Bt k x
theorem OB.at {k:Nat} {row:List (Option Rat)} (h:OB k row) (i:Nat):Bt k (((row[i]?).getD none).getD 0):=by
 cases e:row[i]? with
 | none=>exact Bt.zero k
 | some o =>
  cases o with
  | none=>exact Bt.zero k
  | some x=>exact h x (zM e)
theorem Al2 {n k l:Nat} {row:List (Option Rat)} {a b:Nat} {v:Rat} (h:OB k row) (hv:Bt l v):OB (k+l+1) (RB n row a b v):=λ x hx=>by
 rcases Fb hx with hx|hx
 ·exact (h x hx).le O'
 ·obtain rfl:=uc hx
  exact (h.at _).pf hv
theorem pU {n k l:Nat} {row:List (Option Rat)} {a:Nat} {f:Nat->Rat} (h:OB k row) (hf : ∀ i,Bt l (f i)) : ∀ t,OB (k+t*(l+1)) (JC n row a f t)
 | 0=>by simpa [JC] using h
 | t+1=>by
  have:=Al2 (n:=n) (a:=a) (b:=t) (pU (n:=n) (a:=a) h hf t) (hf t)
  intro x hx;exact (this x hx).le (by rw[Cb];omega)
theorem Vp {n k l:Nat} {row:List (Option Rat)} {f:Nat->Nat->Rat} (h:OB k row) (hf : ∀ i j,Bt l (f i j)) : ∀ t,OB (k+t*(n*(l+1))) (JY n row f t)
 | 0=>by simpa [JY] using h
 | t+1=>by
  have:=pU (n:=n) (a:=t) (Vp (n:=n) h hf t) (hf t) n
  intro x hx;exact (this x hx).le (by rw[Cb];omega)
theorem Al1 (n i j:Nat):OB 0 (P0 n i j):=λ x hx=>by
 rcases Fb hx with hx|hx
 ·have:=List.eq_of_mem_replicate hx
  cases this
 ·obtain rfl:=uc hx
  exact Bt.one 0
theorem Al0 {A:J'} {n i j:Nat} (hn:n<=4) (fm:i<=j) (hj:j<n):JY n (P0 n i j) (λ k h=>A2 A i k*A2 A j h) n=(D7 A n (i,j)).map some:=by
 rcases QV hn with rfl|rfl|rfl|rfl|rfl
 ·omega
 ·obtain rfl:j=0:=O'
  obtain rfl:i=0:=O'
  simp [JY,JC,RB,P0,D7,gC,BC,DT,dc,yb];grind
 ·obtain ⟨rfl,rfl⟩|⟨rfl,rfl⟩|⟨rfl,rfl⟩:(i=0/\j=0)\/(i=0/\j=1)\/(i=1/\j=1):=O'
  all_goals simp [JY,JC,RB,P0,D7,gC,BC,DT,dc,yb]
  all_goals grind
 ·obtain ⟨rfl,rfl⟩|⟨rfl,rfl⟩|⟨rfl,rfl⟩|⟨rfl,rfl⟩|⟨rfl,rfl⟩|⟨rfl,rfl⟩:(i=0/\j=0)\/(i=0/\j=1)\/(i=0/\j=2)\/(i=1/\j=1)\/(i=1/\j=2)\/(i=2/\j=2):=O'
  all_goals simp [JY,JC,RB,P0,D7,gC,BC,DT,dc,yb]
  all_goals grind
 ·obtain ⟨rfl,rfl⟩|⟨rfl,rfl⟩|⟨rfl,rfl⟩|⟨rfl,rfl⟩|⟨rfl,rfl⟩|⟨rfl,rfl⟩|⟨rfl,rfl⟩|⟨rfl,rfl⟩|⟨rfl,rfl⟩|⟨rfl,rfl⟩:(i=0/\j=0)\/(i=0/\j=1)\/(i=0/\j=2)\/(i=0/\j=3)\/(i=1/\j=1)\/(i=1/\j=2)\/(i=1/\j=3)\/(i=2/\j=2)\/(i=2/\j=3)\/(i=3/\j=3):=O'
  all_goals simp [JY,JC,RB,P0,D7,gC,BC,DT,dc,yb]
  all_goals grind
def WN (M:List (List (Option Rat))) (i j:Nat) (x:Rat):List (List (Option Rat)):=(M.set i ((M.getD i []).set j (some x))).set j (((M.set i ((M.getD i []).set j (some x))).getD j []).set i (some x))
def NC (X:K') (n:Nat):Nat->List (List (Option Rat))
 | 0=>qa n (qa n none)
 | u+1=>WN (NC X n u) ((BC n n).getD u (0,0)).1 ((BC n n).getD u (0,0)).2 (X.getD u 0)
theorem AiW {n i j:Nat} {M:List (List (Option Rat))} {x:Rat} (h:M.length=n /\ ∀ r∈M,r.length=n) (hi:i<n) (hj:j<n):(WN M i j x).length=n /\ ∀ r∈WN M i j x,r.length=n:=by
 have hg : ∀ (M:List (List (Option Rat))) (i:Nat),M.length=n->(∀ r∈M,r.length=n)->i<n->(M.getD i []).length=n:=λ M i h1 h2 h3=>by
  rw[ya,zE O'];exact h2 _ (Ld _)
 have h1:(M.set i ((M.getD i []).set j (some x))).length=n /\ ∀ r∈M.set i ((M.getD i []).set j (some x)),r.length=n:=⟨by rw[Oa,h.1],λ r hr=>by
  rcases Fb hr with hr|rfl
  ·exact h.2 r hr
  ·rw[Oa,hg M i h.1 h.2 hi]⟩
 refine ⟨by rw[WN,Oa];exact h1.1,λ r hr => ?_⟩;rcases Fb hr with hr|rfl
 ·exact h1.2 r hr
 ·rw[Oa,hg _ j h1.1 h1.2 hj]
theorem AiT {X:K'} {n:Nat} (hn:n<=4) (h:X.length=(BC n n).length):NC X n (BC n n).length=(kM X n).map (·.map some):=by
 rcases QV hn with rfl|rfl|rfl|rfl|rfl
 ·rfl
 ·match X,h with
  | [x0],_=>rfl
 ·match X,h with
  | [x0,x1,x2],_=>rfl
 ·match X,h with
  | [x0,x1,x2,x3,x4,x5],_=>rfl
 ·match X,h with
  | [x0,x1,x2,x3,x4,x5,x6,x7,x8,x9],_=>rfl
theorem VI (f g:Nat->Rat) : ∀ n,A6 (λ i=>f i+g i) n=A6 f n+A6 g n
 | 0=>by simp only[A6];grind
 | n+1=>by
  have:=VI f g n
  simp only[A6]at this ⊢;rw[this];grind
theorem jF (f:Nat->Nat->Rat) (m:Nat) : ∀ n,A6 (λ i=>A6 (λ j=>f i j) m) n=A6 (λ j=>A6 (λ i=>f i j) n) m
 | 0=>by
  rw[A6];exact (RL m λ j _=>rfl).symm
 | n+1=>by
  have e:(λ j=>A6 (λ i=>f i j) (n+1))=λ j=>A6 (λ i=>f i j) n+f n j:=rfl
  rw[e,VI,<-jF f m n];rfl
def FD (K:J') (v:K') (n:Nat):Rat:=A6 (λ i=>A6 (λ j=>A2 K i j*(bQ v i*bQ v j)) n) n
def M4 (c:K') (A:J') (n:Nat):K':=(Qa n).map λ j=>A6 (λ i=>bQ c i*A2 A i j) n
def IW (c:K') (A:J') (n:Nat):Nat->K'
 | 0=>c
 | k+1=>M4 (IW c A n k) A n
def NU (S:G7) (K:J') (n:Nat):Nat->Rat
 | 0=>S.d*S.d+FD K S.c n
 | k+1=>FD K (IW S.c S.a n k) n
theorem rK (c:K') (A:J') (n:Nat):(M4 c A n).length=n:=by simp [M4]
theorem ZH {c:K'} {A:J'} {n:Nat} (h:c.length=n) : ∀ k,(IW c A n k).length=n
 | 0=>h
 | k+1=>rK _ _ _
theorem jQ (c:K') (A:J') {n j:Nat} (hj:j<n):bQ (M4 c A n) j=A6 (λ i=>bQ c i*A2 A i j) n:=kJ (by rw[M4,sa,Ba hj];rfl)
theorem WA {a b:K'} {n:Nat} (ha:a.length=n):AZ a b=A6 (λ i=>bQ a i*bQ b i) n:=by
 rw[SI a b n O'];rfl
theorem NT (c:Rat) (f:Nat->Rat) (n:Nat):c*A6 f n=A6 (λ i=>c*f i) n:=(Xw n).symm
theorem RK (c:Rat) (f:Nat->Rat) (n:Nat):A6 f n*c=A6 (λ i=>f i*c) n:=by
 rw[Me,NT];exact E8 n λ i _=>Me _ _
theorem pC {A:J'} {v:K'} {n i:Nat} (hA:Sq n A) (hi:i<n):bQ (EK A v) i=A6 (λ j=>A2 A i j*bQ v j) n:=by
 obtain ⟨r,hr⟩:=H' A i (by rw[hA.l];exact hi);rw[kJ (x:=AZ r v) (by rw[EK,sa,hr];rfl),WA (hA.at hr)];refine E8 n λ j _ => ?_
 rw[J9 hr];rfl
theorem Anv {c v:K'} {A:J'} {n:Nat} (hA:Sq n A) (hc:c.length=n):AZ (M4 c A n) v=AZ c (EK A v):=by
 rw[WA (rK c A n),WA hc,E8 n (g:=λ j=>A6 (λ i=>bQ c i*(A2 A i j*bQ v j)) n) λ j hj=>by
  rw[jQ c A hj,RK];exact E8 n λ i _=>A',jF]
 refine E8 n λ i hi => ?_
 rw[pC hA hi,NT]
theorem Zs (A:J') (v:K') : ∀ k,JH A (EK A v) k=JH A v (k+1)
 | 0=>rfl
 | k+1=>by rw[JH,Zs A v k];rfl
theorem Zo {c:K'} {A:J'} {n:Nat} (hA:Sq n A) (hc:c.length=n) : ∀ (k:Nat) (v:K'),AZ (IW c A n k) v=AZ c (JH A v k)
 | 0,_=>rfl
 | k+1,v=>by rw[IW,Anv hA (ZH hc k),Zo hA hc k,Zs]
def M6 (K:J') (u v:K') (n:Nat):Rat:=A6 (λ i=>A6 (λ j=>A2 K i j*(bQ u i*bQ v j)) n) n
theorem Yd (G:Nat->Nat->Nat->Rat) (n:Nat):A6 (λ i=>A6 (λ j=>A6 (λ a=>G i j a) n) n) n=A6 (λ a=>A6 (λ i=>A6 (λ j=>G i j a) n) n) n :=
 (E8 n λ i _=>jF (λ j a=>G i j a) n n).trans (jF (λ i a=>A6 (λ j=>G i j a) n) n n)
theorem Ye (F:Nat->Nat->Nat->Nat->Rat) (n:Nat):A6 (λ i=>A6 (λ j=>A6 (λ a=>A6 (λ b=>F i j a b) n) n) n) n=A6 (λ a=>A6 (λ b=>A6 (λ i=>A6 (λ j=>F i j a b) n) n) n) n :=
 (Yd (λ i j a=>A6 (λ b=>F i j a b) n) n).trans (E8 n λ a _=>Yd (λ i j b=>F i j a b) n)
theorem tM {A K:J'} {B u v:K'} {n:Nat} (hu:u.length=n) (hv:v.length=n) (hK : ∀ i j,i<n->j<n->A2 K i j=bQ B i*bQ B j+H2 A K n i j):M6 K u v n=AZ u B*AZ v B+M6 K (M4 u A n) (M4 v A n) n:=by
 rw[WA hu,WA hv];have h1:M6 K u v n=A6 (λ i=>A6 (λ j=>bQ B i*bQ B j*(bQ u i*bQ v j)) n) n+A6 (λ i=>A6 (λ j=>H2 A K n i j*(bQ u i*bQ v j)) n) n:=by
  rw[<-VI];refine E8 n λ i hi => ?_
  rw[<-VI];exact E8 n λ j hj=>by rw[hK i j hi hj,Dg]
 have h2:A6 (λ i=>A6 (λ j=>bQ B i*bQ B j*(bQ u i*bQ v j)) n) n=A6 (λ i=>bQ u i*bQ B i) n*A6 (λ i=>bQ v i*bQ B i) n:=by
  rw[RK];refine E8 n λ i _ => ?_
  rw[NT];exact E8 n λ j _=>A'
 have h3:A6 (λ i=>A6 (λ j=>H2 A K n i j*(bQ u i*bQ v j)) n) n=A6 (λ i=>A6 (λ j=>A6 (λ a=>A6 (λ b=>A2 A i a*A2 A j b*A2 K a b*(bQ u i*bQ v j)) n) n) n) n:=by
  refine E8 n λ i _=>E8 n λ j _ => ?_
  rw[H2,RK];exact E8 n λ a _=>by rw[RK]
 have h4:M6 K (M4 u A n) (M4 v A n) n=A6 (λ a=>A6 (λ b=>A6 (λ i=>A6 (λ j=>A2 A i a*A2 A j b*A2 K a b*(bQ u i*bQ v j)) n) n) n) n:=by
  refine E8 n λ a ha=>E8 n λ b hb => ?_
  rw[jQ u A ha,jQ v A hb,RK,NT];refine E8 n λ i _ => ?_
  rw[NT,NT];exact E8 n λ j _=>A'
 rw[h1,h2,h3,h4,Ye (λ i j a b=>A2 A i a*A2 A j b*A2 K a b*(bQ u i*bQ v j))]
theorem Ai2 {A K:J'} {B c:K'} {n:Nat} (hc:c.length=n) (hK : ∀ i j,i<n->j<n->A2 K i j=bQ B i*bQ B j+H2 A K n i j):FD K c n=AZ c B*AZ c B+FD K (M4 c A n) n:=tM hc hc hK
theorem AiY {K:J'} {c:K'} {n:Nat} (hK:Sq n K) (hc:c.length=n):AZ c (EK K c)=FD K c n:=by
 rw[WA hc,FD];refine E8 n λ i hi => ?_
 rw[pC hK hi,NT];exact E8 n λ j _=>A'
theorem zL {A K:J'} {B c:K'} {n:Nat} (hK : ∀ i j,i<n->j<n->A2 K i j=bQ B i*bQ B j+H2 A K n i j) (hc:c.length=n) : ∀ t,FD K (IW c A n t) n<=FD K c n
 | 0=>Ec
 | t+1=>by
  have h1:=zL hK hc t;have h2:=Ai2 (ZH (A:=A) hc t) hK;have h3:=jB (AZ (IW c A n t) B);rw[IW];grind
theorem ZV (f:Nat->Rat) : ∀ n,CW (A6 f n)<=A6 (λ i=>CW (f i)) n
 | 0=>by simp only[A6];rw[kF];exact Ec
 | n+1=>by
  simp only[A6];exact gb (sW _ _) (Rat.add_le_add_right.2 (ZV f n))
def J6 (K:J') (n:Nat):Rat:=A6 (λ i=>A6 (λ j=>CW (A2 K i j)) n) n
theorem jG (K:J') (n:Nat):0<=J6 K n:=qY (λ i=>qY (λ j=>R5 _) n) n
theorem AiX {K:J'} {v:K'} {n:Nat} {s:Rat} (hs:0<=s) (hv : ∀ j,j<n->CW (bQ v j)<=s):CW (FD K v n)<=J6 K n*(s*s):=by
 refine gb (ZV _ n) ?_;rw[J6,RK];refine cB n λ i hi => ?_
 refine gb (ZV _ n) ?_;rw[RK];refine cB n λ j hj => ?_
 rw[X2,X2];refine Ra ?_ (R5 _);exact gb (Db (hv i hi) (R5 _)) (Ra (hv j hj) hs)
theorem nR {n:Nat} {a:J'} {b:K'} (ha:Sq n a) (hb:b.length=n) {i:Nat} (hc:DH (B8 n a i)=true) : ∀ m,LX a b (2^i*m)<=(1/2)^m*LX a b 0
 | 0=>by rw[Nat.mul_zero,zd,Jf];exact Ec
 | m+1=>by
  have h1:=Aje ha hb hc (2^i*m);have h2:=nR ha hb hc m;rw[Nat.mul_succ,Je,Dd];have h3:(1/2:Rat)*LX a b (2^i*m)<=(1/2)*((1/2)^m*LX a b 0):=Ra h2 A';grind
theorem Xi (n j:Nat):WQ (B9 n (j:Int))<=1:=zX Y' λ x hx=>by
 obtain ⟨i,_,rfl⟩:=oa.1 hx;split<;>decide
theorem AgV {v:K'} {n j:Nat} (hv:v.length=n) (hj:j<n):AZ v (B9 n (j:Int))=bQ v j:=by
 rw[HN];exact eH hv hj
theorem WT : ∀ m:Nat,(0:Rat)<=(1/2)^m
 | 0=>by rw[zd];decide
 | m+1=>by rw[Dd];exact Na (WT m) A'
theorem Zq {c:K'} {A:J'} {n i:Nat} (hA:Sq n A) (hc:c.length=n) (hi:DH (B8 n A i)=true) (m:Nat) : ∀ j,j<n->CW (bQ (IW c A n (2^i*m)) j)<=BQ c*(1/2)^m:=by
 intro j hj;have jz:(B9 n (j:Int)).length=n:=NW n _;rw[<-AgV (ZH hc _) hj,Zo hA hc];have h1:CW (AZ c (JH A (B9 n (j:Int)) (2^i*m)))<=BQ c*LX A (B9 n (j:Int)) (2^i*m):=mF c _ _ (fP _) λ_ hx=>nU hx
 have h2:=nR hA jz hi m;have h3:(1/2:Rat)^m*LX A (B9 n (j:Int)) 0<=(1/2)^m*1:=Ra (Xi n j) (WT m);rw[Od]at h3;exact gb h1 (Ra (gb h2 h3) (bV c))
theorem iG : ∀ m:Nat,(1/2:Rat)^m*((m:Rat)+1)<=1
 | 0=>by rw[zd,show ((0:Nat):Rat)=0 from rfl];grind
 | m+1=>by
  have h1:=iG m;have h2:=WT m;have h3:(0:Rat)<=(m:Rat):=ae;rw[Dd,Rat.natCast_add];have h4:=Na h2 h3;have e:((1:Nat):Rat)=1:=rfl;rw[e];grind
theorem Sy {x G:Rat} (hG:0<=G) (h : ∀ m:Nat,-(G*(1/2)^m)<=x):0<=x:=by
 rcases (Rat.le_total:0<=x\/x<=0) with h0|h0
 ·exact h0
 by_cases hx:x=0
 ·rw[hx];exact Ec
 have Lj:0 < -x:=A'
 exfalso;obtain ⟨m,hm⟩ : ∃ m:Nat,G/(-x)<(m:Rat)+1:=by
  refine ⟨(G/(-x)).floor.toNat,?_⟩;have h1:=Rat.lt_floor_add_one (G/(-x));have h2:(G/(-x)).floor<=((G/(-x)).floor.toNat:Int):=Int.self_le_toNat _;have h3:(((G/(-x)).floor+1:Int):Rat)<=((((G/(-x)).floor.toNat:Int)+1:Int):Rat):=Rat.intCast_le_intCast.2 O';have h4:G/(-x)<((((G/(-x)).floor.toNat:Int)+1:Int):Rat):=A'
  rw[Rat.intCast_add,Ja]at h4;exact h4
 have h1:G<((m:Rat)+1)*(-x):=by
  have:=Rat.mul_lt_mul_of_pos_right hm Lj
  rwa [og A']at this
 have h2:=h m;have h3:=iG m;have h4:=WT m;have h5:(1/2:Rat)^m*((m:Rat)+1)*(-x)<=1*(-x):=Db h3 A';by_cases hz:(1/2:Rat)^m=0
 ·rw[hz]at h2;grind
 have h6:0<(1/2:Rat)^m:=by
  rcases Rat.le_iff_lt_or_eq.1 h4 with h|h
  ·exact h
  ·exact absurd h.symm hz
 have h7:=Rat.mul_lt_mul_of_pos_left h1 h6;grind
theorem Ai1 {A K:J'} {B c:K'} {n i:Nat} (hA:Sq n A) (hc:c.length=n) (hi:DH (B8 n A i)=true) (hK : ∀ i j,i<n->j<n->A2 K i j=bQ B i*bQ B j+H2 A K n i j):0<=FD K c n:=by
 refine Sy (G:=J6 K n*(BQ c*BQ c)) (Na (jG K n) (jB _)) λ m => ?_
 have h1:=zL hK hc (2^i*m);have hs:=Zq hA hc hi m;have h2:=WT m;have h3:=AiX (K:=K) (Na (bV c) h2) hs;have h4:(1/2:Rat)^m<=1:=by
  have:=iG m
  have h3:(0:Rat)<=(m:Rat):=ae;have h4:=Na h2 h3;grind
 have h5 : -CW (FD K (IW c A n (2^i*m)) n)<=FD K (IW c A n (2^i*m)) n:=by
  rw[N6];split<;>grind
 have h6:J6 K n*(BQ c*(1/2)^m*(BQ c*(1/2)^m))<=J6 K n*(BQ c*BQ c)*(1/2)^m:=by
  have e:J6 K n*(BQ c*(1/2)^m*(BQ c*(1/2)^m))=J6 K n*(BQ c*BQ c)*(1/2)^m*(1/2)^m:=A'
  rw[e];have:=Ra h4 (Na (Na (jG K n) (jB (BQ c))) h2)
  rwa [Od]at this
 grind
theorem MZ {k:Nat} {f:Nat->Rat} (h : ∀ j,Bt k (f j)) : ∀ m,Bt (m*(k+1)) (A6 f m)
 | 0=>Bt.zero _
 | m+1=>by
  rw[A6];exact ((MZ h m).add (h m)).le (by rw[Cb];omega)
theorem H3 {k:Nat} {v:K'} (h:Bs k v) (i:Nat):Bt k (bQ v i):=Bs.getD h i
def IG (A:J') (n:Nat):J':=(Qa n).map λ i=>(Qa n).map λ j=>A2 A j i
theorem Xc (A:J') {n i:Nat} (hi:i<n):(IG A n)[i]? = some ((Qa n).map λ j=>A2 A j i):=by rw[IG,sa,Ba hi];rfl
theorem Xd (A:J') (n:Nat):Sq n (IG A n):=⟨by simp [IG],λ r hr=>by
 obtain ⟨i,_,rfl⟩:=oa.1 hr;simp⟩
theorem rH (A:J') {n i j:Nat} (hi:i<n) (hj:j<n):A2 (IG A n) i j=A2 A j i:=by
 rw[J9 (Xc A hi),ya,sa,Ba hj];rfl
theorem Ang {k:Nat} {A:J'} (h:Ms k A) (n:Nat):Ms k (IG A n):=λ r hr=>by
 obtain ⟨i,_,rfl⟩:=oa.1 hr;intro x hx;obtain ⟨j,_,rfl⟩:=oa.1 hx;exact GC h j i
theorem AiZ {A K W:J'} {b c:K'} {n:Nat} (hK : ∀ i j,i<n->j<n->A2 K i j=bQ b i*bQ b j+H2 A K n i j) (hW : ∀ i j,i<n->j<n->A2 W i j=bQ c i*bQ c j+H2 (IG A n) W n i j):FD K c n=FD W b n:=by
 have h1:A6 (λ i=>A6 (λ j=>A2 W i j*A2 K i j) n) n=FD W b n+A6 (λ i=>A6 (λ j=>A6 (λ p=>A6 (λ q=>A2 W i j*(A2 A i p*A2 A j q*A2 K p q)) n) n) n) n:=by
  rw[FD,<-VI];refine E8 n λ i hi => ?_
  rw[<-VI];refine E8 n λ j hj => ?_
  rw[hK i j hi hj,Eg,H2,NT];congr 1;exact E8 n λ p _=>by rw[NT]
 have h2:A6 (λ i=>A6 (λ j=>A2 W i j*A2 K i j) n) n=FD K c n+A6 (λ p=>A6 (λ q=>A6 (λ i=>A6 (λ j=>A2 W i j*(A2 A i p*A2 A j q*A2 K p q)) n) n) n) n:=by
  rw[FD,<-VI];refine E8 n λ p hp => ?_
  rw[<-VI];refine E8 n λ q hq => ?_
  rw[hW p q hp hq,Me,Eg,H2,NT];congr 1;refine E8 n λ i hi => ?_
  rw[NT];exact E8 n λ j hj=>by rw[rH A hp hi,rH A hq hj];grind
 rw[Ye (λ i j p q=>A2 W i j*(A2 A i p*A2 A j q*A2 K p q))]at h1;rw[h1]at h2;grind
theorem Afe {K:J'} {u v:K'} {n:Nat} {s t:Rat} (hs:0<=s) (hu : ∀ j,j<n->CW (bQ u j)<=s) (hv : ∀ j,j<n->CW (bQ v j)<=t):CW (M6 K u v n)<=J6 K n*(s*t):=by
 refine gb (ZV _ n) ?_;rw[J6,RK];refine cB n λ i hi => ?_
 refine gb (ZV _ n) ?_;rw[RK];refine cB n λ j hj => ?_
 rw[X2,X2];refine Ra ?_ (R5 _);exact gb (Db (hu i hi) (R5 _)) (Ra (hv j hj) hs)
theorem tN {A K:J'} {B:K'} {n:Nat} (hB : ∀ u:K',u.length=n->AZ u B=0) (hK : ∀ i j,i<n->j<n->A2 K i j=bQ B i*bQ B j+H2 A K n i j) {u v:K'} (hu:u.length=n) (hv:v.length=n) : ∀ t,M6 K u v n=M6 K (IW u A n t) (IW v A n t) n
 | 0=>rfl
 | t+1=>by
  rw[tN hB hK hu hv t,tM (ZH (A:=A) hu t) (ZH (A:=A) hv t) hK,hB _ (ZH (A:=A) hu t),Ed,Rat.zero_add];rfl
theorem dH {n a j:Nat} (hj:j<n):bQ (B9 n (a:Int)) j=if j=a then 1 else 0:=by
 rw[kJ (x:=if (j:Int)=(a:Int) then 1 else 0) (by rw[B9,sa,Ba hj];rfl)];by_cases h:j=a
 ·rw[if_pos h,if_pos O']
 ·rw[if_neg h,if_neg O']
theorem Aff {K:J'} {n a b:Nat} (ha:a<n) (hb:b<n):M6 K (B9 n (a:Int)) (B9 n (b:Int)) n=A2 K a b:=by
 rw[M6,cC (k:=a) n ha,cC (k:=b) n hb]
 ·rw[dH ha,dH hb,if_pos rfl,if_pos rfl];grind
 ·intro j hj k7
  rw[dH hj,if_neg k7];grind
 ·intro i hi k7
  refine RL n λ j hj => ?_
  rw[dH hi,if_neg k7];grind
theorem Alv {n u i j:Nat} (hn:n<=4) (h:(BC n n)[u]? = some (i,j)):dc n i j=u:=by
 have h1 : ∀ n,n<5 -> ∀ u,u<(BC n n).length->dc n ((BC n n).getD u (0,0)).1 ((BC n n).getD u (0,0)).2=u:=Y'
 have h2:=h1 n O' u (zS h).1;rw[ya,h]at h2;exact h2
theorem Wg {A:J'} {n:Nat} (hn:n<=4) (tt:Nat->Nat) (s:Nat->Rat) (hs : ∀ a,0<=s a) (h : ∀ m a,a<n -> ∀ j,j<n->CW (bQ (IW (B9 n (a:Int)) A n (tt m)) j)<=s a*(1/2)^m):NS (BC n n).length (gM A n):=by
 intro X hX Ph j;have hz : ∀ i,bQ (qa n 0) i=0:=λ i=>by
  rw[bQ,ya,List.getElem?_replicate];split<;>rfl
 have hG:HZ A (qa n 0) X n:=⟨hX,λ i r s h1 h2=>by
  rw[Ph r (zM h1)];obtain ⟨p,_,hp⟩:=oa.1 (zM h2);rw[<-hp,hz,hz,Ig]⟩
 have hE:=hG.eq hn;have hB : ∀ u:K',u.length=n->AZ u (qa n 0)=0:=λ u hu=>by
  rw[WA hu];exact RL n λ i _=>by rw[hz,Ig]
 have key : ∀ a b,a<n->b<n->A2 (kM X n) a b=0:=λ a b ha hb=>by
  have ua:(B9 n (a:Int)).length=n:=NW n _;have ub:(B9 n (b:Int)).length=n:=NW n _;have h0:0 <= -CW (M6 (kM X n) (B9 n (a:Int)) (B9 n (b:Int)) n):=by
   refine Sy (G:=J6 (kM X n) n*(s a*s b)) (Na (jG _ n) (Na (hs a) (hs b))) λ m => ?_
   have h2:=WT m;have h3:=Afe (K:=kM X n) (Na (hs a) h2) (h m a ha) (h m b hb);rw[<-tN hB hE ua ub (tt m)]at h3;have h4:(1/2:Rat)^m<=1:=by
    have:=iG m
    have h3:(0:Rat)<=(m:Rat):=ae;have h4:=Na h2 h3;grind
   have h6:J6 (kM X n) n*(s a*(1/2)^m*(s b*(1/2)^m))<=J6 (kM X n) n*(s a*s b)*(1/2)^m:=by
    have e:J6 (kM X n) n*(s a*(1/2)^m*(s b*(1/2)^m))=J6 (kM X n) n*(s a*s b)*(1/2)^m*(1/2)^m:=A'
    rw[e];have:=Ra h4 (Na (Na (jG (kM X n) n) (Na (hs a) (hs b))) h2)
    rwa [Od]at this
   grind
  have h1:=R5 (M6 (kM X n) (B9 n (a:Int)) (B9 n (b:Int)) n);rw[Aff ha hb]at h0 h1;rw[N6]at h0 h1;split at h0<;>grind
 by_cases hj:j<(BC n n).length
 ·obtain ⟨⟨a,b⟩,bq⟩:=H' (BC n n) j hj
  have hl:=pM (zM bq);have h1:=key a b O' O';rw[aS X (show a<n by omega) (show b<n by omega),Fc O',Nat.max_eq_right O',Alv hn bq]at h1;exact h1
 ·rw[ya,Cd O'];rfl
theorem Wf {A:J'} {n i:Nat} (hn:n<=4) (hA:Sq n A) (hi:DH (B8 n A i)=true):NS (BC n n).length (gM A n) :=
 Wg hn (λ m=>2^i*m) (λ a=>BQ (B9 n (a:Int))) (λ_=>bV _) λ m a _ j hj=>Zq hA (NW n _) hi m j hj
theorem Ae9 {a b:K'} {n:Nat} (ha:a.length=n) (hb:b.length=n) (h : ∀ j,j<n->bQ a j=bQ b j):a=b:=by
 refine List.ext_getElem O' λ j h1 h2 => ?_
 have:=h j O'
 rw[bQ,bQ,ya,ya,zE h1,zE h2]at this;exact this
theorem Anw {A:J'} {u:K'} {n:Nat} (hA:Sq n A) (hu:u.length=n):M4 u (IG A n) n=EK A u:=by
 refine Ae9 (rK _ _ _) (by rw[gJ,hA.l]) λ j hj => ?_
 rw[jQ u _ hj,pC hA hj];exact E8 n λ i hi=>by rw[rH A hi hj,Me]
theorem Zp {A:J'} {u:K'} {n:Nat} (hA:Sq n A) (hu:u.length=n) : ∀ t,IW u (IG A n) n t=JH A u t
 | 0=>rfl
 | t+1=>by rw[IW,Zp hA hu t,Anw hA (jR hA.l hu t)];rfl
theorem Ala {A:J'} {n i:Nat} (hn:n<=4) (hA:Sq n A) (hi:DH (B8 n A i)=true):NS (BC n n).length (gM (IG A n) n):=by
 refine Wg hn (λ m=>2^i*m) (λ_=>1) (λ_=>Y') λ m a ha j hj => ?_
 have jz:(B9 n (a:Int)).length=n:=NW n _;have gd:=jR hA.l jz (2^i*m);rw[Zp hA jz,Jf];have h1:CW (bQ (JH A (B9 n (a:Int)) (2^i*m)) j)<=LX A (B9 n (a:Int)) (2^i*m):=by
  rw[bQ,ya,zE O'];exact nU (Ld _)
 have h2:=nR hA jz hi m;have h3:(1/2:Rat)^m*LX A (B9 n (a:Int)) 0<=(1/2)^m*1:=Ra (Xi n a) (WT m);rw[Od]at h3;exact gb h1 (gb h2 h3)
def EQ (mw x:Nat->Rat):Nat->Rat
 | 0=>0
 | k+1=>if 0<mw k then EQ mw x k+x k else EQ mw x k
theorem sZ {mw x:Nat->Rat} (hx : ∀ k,0<=x k) : ∀ m,0<=EQ mw x m
 | 0=>Ec
 | k+1=>by
  have h1:=sZ (mw:=mw) hx k;have h2:=hx k;rw[EQ];split<;>grind
theorem tC {mw x:Nat->Rat} (hl : ∀ k,0<=mw k) (hx : ∀ k,0<=x k) : ∀ m,EQ mw x m=0 ↔ ∀ k,k<m->mw k=0\/x k=0
 | 0=>⟨λ_ k hk=>O',λ_=>rfl⟩
 | m+1=>by
  have h1:=sZ (mw:=mw) hx m;have h2:=hx m;have h3:=hl m;have ih:=tC hl hx m;rw[EQ];constructor
  ·intro h k hk
   split at h
   ·rcases bf.1 hk with hk|rfl
    ·exact ih.1 A' k hk
    ·exact Or.inr A'
   ·rcases bf.1 hk with hk|rfl
    ·exact ih.1 h k hk
    ·exact Or.inl A'
  ·intro h
   have h4:=ih.2 λ k hk=>h k O'
   have h5:=h m O';split<;>grind
theorem ZW {mw x:Nat->Rat} {k:Nat} (hx : ∀ j,Bt k (x j)) : ∀ m,Bt (m*(k+1)) (EQ mw x m)
 | 0=>Bt.zero _
 | m+1=>by
  rw[EQ];split
  ·exact ((ZW hx m).add (hx m)).le (by rw[Cb];omega)
  ·exact (ZW hx m).le (by rw[Cb];omega)
end Go.c6

namespace Go.c6
open F
attribute [local irreducible] AA AF AL AC CQ AW BA A8 B3 BL CN D4 BP A1 B6 CF AB BG AH pw BV BO CS CY C2 BX CG BU CX
variable {L:Lib}
set_option maxRecDepth 8000
theorem lR {k:Nat} {x:Rat} (h:Bt k x):Bt k ((x.den:Nat):Rat):=by
 refine ⟨?_,?_⟩
 ·rw[Ee,Kb];exact h.2
 ·rw[Ce];exact Re
theorem Af3 (x:Rat):((x.den:Nat):Rat)≠0:=λ e=>by
 have:((x.den:Nat):Rat)=((0:Nat):Rat):=e
 have:=De.1 this
 have:=x.den_pos
 omega
theorem xS (N:v7 L) {x:Rat} {k:Nat} (hx:Bt k x) (hk:k<2199023255552):Ev L 294 [.agg (eQ x)] (.agg (eQ ((x.den:Nat):Rat))):=by
 have hT:=K7 N.toa5 hx hk;have l9:=DK ((x.den:Nat):Rat);have e:eQ ((x.den:Nat):Rat)=[.bool false,.sl false ((dg x.den).map AM),.sl false [[.int .u32 1]]]:=by
  rw[<-Ja,Ag6,Kb,show decide (((x.den:Nat):Int)<0)=false by simp]
 rw[e]at l9 ⊢;refine Ev.x N.TS rfl rfl ?_;repeat' (first|refine GS rfl ?_|apply AE|refine AD (hT) ?_)<;>conv=>whnf
 exact AY rfl l9
theorem Aia (N:v7 L) (q q':Bool) (ls:J') (k:Nat) (hb:Ms k ls) (hl:ls.flatten.length<=64) (zk:ls.length<=1000) (hk:k<=1000000):Ev L 295 [.sl q (DC q' ls)] (.agg (eQ (C7 ls.flatten))):=by
 have hO:=GZ N.toa5 1 O';rw[show ((1:Int):Rat)=1 from rfl]at hO;have key : ∀ (i j:Nat) (r:K') (x:Rat),ls[i]? = some r->r[j]? = some x -> ∃ S:Nat,C7 ((ls.take i).flatten++r.take j)=(S:Rat)/\Bt (64*k) (S:Rat)/\C7 ((ls.take i).flatten++r.take (j+1))=(S:Rat)*(((S:Rat)/((x.den:Nat):Rat)).den:Nat):=by
  intro i j r x hr hx;have db:=(zS hx).1;have hlen:((ls.take i).flatten++r.take j).length<=64:=by
   have e:ls.flatten=(ls.take i).flatten++(r++(ls.drop (i+1)).flatten):=by
    have h1:=(zS hr);obtain ⟨h1,h2⟩:=h1;conv=>lhs;rw[<-Qf i ls,od,Lc h1,h2,Cc]
   rw[e,ga,ga]at hl;rw[ga,xa];omega
  have tz:Bs k ((ls.take i).flatten++r.take j):=λ y hy=>by
   rcases Ga.1 hy with hy|hy
   ·obtain ⟨s,hs,hy⟩:=He.1 hy
    exact hb s (ud hs) y hy
   ·exact hb r (zM hr) y (ud hy)
  obtain ⟨S,e,h1,h2,_⟩:=Ux tz;refine ⟨S,e,⟨?_,?_⟩,?_⟩
  ·rw[Ee,Kb]
   exact oc h2 (te O' (zR k hlen))
  ·rw[Ce];exact Re
  ·rw[Ob,hx,Jc,<-Qd,Uy,e,P1,Af4]
 refine Ev.x N.MJ rfl rfl ?_;repeat' (first|apply AR|apply AE|refine AD (hO) ?_)<;>conv=>whnf
 refine DF (λ i=>ls.length-i) (λ(i:Nat)=>i<=ls.length) (λ i=>[(13,.int .i64 i)]) (λ i=>[(3,3,.bx (eQ (C7 (ls.take i).flatten)))]) [] [] 0 (by rw[show C7 (ls.take 0).flatten=1 from rfl];exact B') O' ?_;intro i p1 ih;by_cases hi:i<ls.length
 ·obtain ⟨r,hr⟩:=H' ls i hi
  have ja:ls[(i:Int).toNat]? = some r:=hr;have jg:=hb r (zM hr);have bh:r.length<=64:=by
   have e:ls.flatten=(ls.take i).flatten++(r++(ls.drop (i+1)).flatten):=by
    obtain ⟨h1,h2⟩:=zS hr;conv=>lhs;rw[<-Qf i ls,od,Lc h1,h2,Cc]
   rw[e,ga,ga]at hl;omega
  have dp:(ls.take (i+1)).flatten=(ls.take i).flatten++r:=by
   rw[Ob,hr,od];simp
  repeat' (first|(apply AG<;>intro hc<;>try omega)|apply AR|(refine A4 V' ?_ rfl ?_;omega)|apply AE)<;>conv=>whnf
  refine DF (λ j=>r.length-j) (λ(j:Nat)=>j<=r.length) (λ j=>[(19,.int .i64 j)]) (λ j=>[(3,3,.bx (eQ (C7 ((ls.take i).flatten++r.take j))))]) [] [] 0 (by rw[Ha,Ib];exact B') O' ?_;intro j r1 jh;by_cases hj:j<r.length
  ·obtain ⟨x,hx⟩:=H' r j hj
   have dv:r[(j:Int).toNat]? = some x:=hx;obtain ⟨S,e,hS,e2⟩:=key i j r x hr hx;have lu:=jg.at hx;have wg:=xS N lu O';have hq:=hS.Aa (lR lu);have hDv:=aF N.toa5 hS (lR lu) O' O' (Af3 x);have wi:=xS N hq O';have hM:=H7 N.toa5 hS (lR hq) O' O';rw[<-e2]at hM;rw[e];generalize (S:Rat)/((x.den:Nat):Rat)=y at *;generalize ((x.den:Nat):Rat)=d at *;generalize (S:Rat)=s at *;generalize ((y.den:Nat):Rat)=d2 at *;repeat' (first|(apply AG<;>intro hc<;>try omega)|(apply AP;omega)|(refine A4 V' ?_ rfl ?_;omega)|apply AE|refine AD (wg) ?_|refine AD (hDv) ?_|refine AD (wi) ?_|refine AD (hM) ?_)<;>conv=>whnf
   exact A9 [] (jh (j+1) O' O')
  obtain rfl:j=r.length:=O'
  clear jh;rw[zT (zb _),<-dp];repeat' (first|(apply AG<;>intro hc<;>try omega)|(apply AP;omega)|apply AE)<;>conv=>whnf
  exact A9 [] (ih (i+1) O' O')
 obtain rfl:i=ls.length:=O'
 clear ih;rw[zT (zb _)];repeat' (first|(apply AG<;>intro hc<;>try omega)|apply AE)<;>conv=>whnf
 exact AY rfl (DK _)
theorem Aig (N:v7 L) (q:Bool) (v:K') (c:Rat) (k l:Nat) (hv:Bs k v) (hc:Bt l c) (hk:k<1099511627776) (hl:l<1099511627776) (hn:v.length<=1000000):Ev L 296 [.sl q (v.map eQ),.agg (eQ c)] (.sl false ((v.map (· * c)).map eQ)):=by
 refine Ev.x N.PC rfl rfl ?_;repeat' (first|apply AR|apply AE)<;>conv=>whnf
 refine DW (enc:=eO) none v.length rfl rfl O' ?_;conv=>whnf
 (repeat' (apply AR<;>conv=>whnf))
 refine DF (λ i=>v.length-i) (λ(i:Nat)=>i<=v.length) (λ i=>[(12,.int .i64 i)]) (λ i=>[(9,9,.rw 3 ((FH ((v.map (· * c)).take i) v.length).map eO))]) [] [] 0 (by first|exact B'|(rw[Ha,<-SP];exact B')) O' ?_;intro i p1 ih;have ct:((v.map (· * c)).take i).length=i:=by rw[xa,za];omega
 have Pm:=QU (l:=(v.map (· * c)).take i) (m:=v.length) O';by_cases hi:i<v.length
 ·obtain ⟨x,hx⟩:=H' v i hi
  have dv:v[(i:Int).toNat]? = some x:=hx;have hy:(v.map (· * c))[i]? = some (x*c):=by rw[sa,hx];rfl
  have hs:=SR (l:=(v.map (· * c)).take i) (m:=v.length) (x:=x*c) O';rw[ct,<-P6 hy]at hs;have hM:=H7 N.toa5 (hv.at hx) hc O' O';generalize FH ((v.map (· * c)).take i) v.length=F0 at *;generalize x*c=y at *;repeat' (first|(apply AG<;>intro hc<;>try omega)|(apply AX;omega)|(refine A4 V' ?_ rfl ?_;omega)|apply AE|refine AD (hM) ?_)<;>conv=>whnf
  refine E5 (enc:=eO) (some y) rfl (λ e=>by cases e<;>rfl) O' ?_;conv=>whnf
  rw[hs];repeat' (first|(apply AP;omega)|fail)<;>conv=>whnf
  exact A9 [] (ih (i+1) O' O')
 obtain rfl:i=v.length:=O'
 clear ih;have cq:(v.map (· * c)).length=v.length:=za _;rw[zT O',SN cq];repeat' (first|(apply AG<;>intro hc<;>try omega)|(refine C8 (λ_=>rfl) rfl ?_ ?_;(first|rfl|simp))|apply AE)<;>conv=>whnf
 exact AY rfl (by simp only[A3,true_and];exact KA _)
abbrev mJ (q:Bool) (x:Rat):u_:=rQ q q (decide (x.num<0)) (dg x.num.natAbs) (dg x.den)
theorem AiL (N:a5 L) (q:Bool) {x:Rat} {k:Nat} (hx:Bt k x) (hk:k<2199023255552):Ev L 97 [.agg (mJ q x)] (.int .i64 (o3 x.num)):=by
 have hs:=hx.sm hk;have:=yH N (decide (x.num<0)) q q (dg x.num.natAbs) (dg x.den) (hs.1.le O') (hs.2.le O')
 rwa [EL]at this
theorem Ah0 (N:a5 L) (q:Bool) {x y:Rat} {k l:Nat} (hx:Bt k x) (hy:Bt l y) (hk:k<2199023255552) (hl:l<2199023255552):Ev L 99 [.agg (eQ x),.agg (mJ q y)] (.agg (eQ (x*y))):=by
 have h1:=hx.sm hk;have h2:=hy.sm hl;have:=aG N 68719476736 O' (decide (x.num<0)) (decide (y.num<0)) false false q q (dg x.num.natAbs) (dg x.den) (dg y.num.natAbs) (dg y.den) h1.1 h1.2 h2.1 h2.2
 rwa [EL,EL]at this
theorem Aid (N:v7 L) (q1 q2 qb:Bool) (a b:K') (k l:Nat) (hl:a.length=b.length) (ha:Bs k a) (hb:Bs l b) (hn:a.length<=64) (hk:k<=1000000000) (ic:l<=1000000000):Ev L 297 [.sl q1 (a.map eQ),.sl q2 (b.map (mJ qb))] (.agg (eQ (AZ a b))):=by
 have hO:=GZ N.toa5 0 O';rw[show ((0:Int):Rat)=0 from rfl]at hO;refine Ev.x N.PA rfl rfl ?_;repeat' (first|apply AR|apply AE|refine AD (hO) ?_)<;>conv=>whnf
 refine DF (λ i=>a.length-i) (λ(i:Nat)=>i<=a.length) (λ i=>[(10,.int .i64 i)]) (λ i=>[(5,5,.bx (eQ (AZ (a.take i) (b.take i))))]) [] [] 0 (by rw[show AZ (a.take 0) (b.take 0)=0 from rfl];exact B') O' ?_;intro i p1 ih;by_cases hi:i<a.length
 ·obtain ⟨x,hx⟩:=H' a i hi
  obtain ⟨y,hy⟩:=H' b i;have dv:a[(i:Int).toNat]? = some x:=hx;have vl:b[(i:Int).toNat]? = some y:=hy;have su:=WK N.toa5 (ha.at hx) O';have yw:=AiL N.toa5 qb (hb.at hy) O';have hM:=Ah0 N.toa5 qb (ha.at hx) (hb.at hy) O' O';have hd:Bt (64*(k+l+1)) (AZ (a.take i) (b.take i)):=by
   refine ((ha.take i).dot (hb.take i)).le (zR _ ?_);rw[xa];omega
  have hA:=NA N.toa5 hd ((ha.at hx).mul (hb.at hy)) O' O';rw[<-YA hx hy]at hA;have hz:x=0\/y=0->AZ (a.take i) (b.take i)=AZ (a.take (i+1)) (b.take (i+1)):=λ h=>by
   rw[YA hx hy];rcases h with h|h<;>rw[h]<;>grind
  by_cases h1:x=0
  ·have s1:o3 x.num=0:=MV.2 h1
   rw[s1]at su;rw[hz (Or.inl h1)];clear hA hz hd;repeat' (first|(apply AG<;>intro hc<;>try omega)|(apply AP;omega)|(refine A4 V' ?_ rfl ?_;omega)|apply AE|refine AD (su) ?_)<;>conv=>whnf
   exact A9 [] (ih (i+1) O' O')
  ·have s1:o3 x.num≠0:=λ h=>h1 (MV.1 h)
   generalize o3 x.num=g1 at *;by_cases h2:y=0
   ·have s2:o3 y.num=0:=MV.2 h2
    rw[s2]at yw;rw[hz (Or.inr h2)];clear hA hz hd;repeat' (first|(apply AG<;>intro hc<;>try omega)|(apply AP;omega)|(refine A4 V' ?_ rfl ?_;omega)|apply AE|refine AD (su) ?_|refine AD (yw) ?_)<;>conv=>whnf
    exact A9 [] (ih (i+1) O' O')
   ·have s2:o3 y.num≠0:=λ h=>h2 (MV.1 h)
    generalize o3 y.num=g2 at *;clear hz hd;generalize AZ (a.take i) (b.take i)=w at *;generalize x*y=p at *;repeat' (first|(apply AG<;>intro hc<;>try omega)|(apply AP;omega)|(refine A4 V' ?_ rfl ?_;omega)|apply AE|refine AD (su) ?_|refine AD (yw) ?_|refine AD (hM) ?_|refine AD (hA) ?_)<;>conv=>whnf
    exact A9 [] (ih (i+1) O' O')
 obtain rfl:i=a.length:=O'
 clear ih;rw[V9 rfl];repeat' (first|(apply AG<;>intro hc<;>try omega)|apply AE)<;>conv=>whnf
 exact AY rfl (DK _)
theorem Aic (N:v7 L) (q1 q2:Bool) (a b:K') (k l:Nat) (hl:a.length=b.length) (ha:Bs k a) (hb:Bs l b) (hn:a.length<=64) (hk:k<=1000000000) (ic:l<=1000000000):Ev L 297 [.sl q1 (a.map eQ),.sl q2 (b.map eQ)] (.agg (eQ (AZ a b))):=Aid N q1 q2 false a b k l hl ha hb hn hk ic
end Go.c6

namespace Go.c6
open F
attribute [local irreducible] AA AF AL AC CQ AW BA A8 B3 BL CN D4 BP A1 B6 CF AB BG AH pw BV BO CS CY C2 BX CG BU CX
attribute [local irreducible] NY
variable {L:Lib}
set_option maxRecDepth 8000
abbrev SK (p:Nat × Nat):u_:=[.int .i64 ((p.1:Nat):Int),.int .i64 ((p.2:Nat):Int)]
theorem Afq (l:List (Nat × Nat)):EZ (l.map SK):=QK (λ p=>by simp only[B7,A3,and_true]) l
theorem Xb {n i:Nat} (hi:i<n):(BC n (i+1)).length=(BC n i).length+(n-i):=by
 show (BC n i++DT i (n-i)).length=_;rw[ga,Y1]
theorem iD (n:Nat) {i:Nat} : ∀ d,(BC n i).length<=(BC n (i+d)).length
 | 0=>zb _
 | d+1=>by
  refine oc (iD n d) ?_;show _<=(BC n (i+d)++DT (i+d) (n-(i+d))).length;rw[ga];omega
theorem xV (N:o9 L) (q1 q2 q3:Bool) (A:J') (b:K') (n:Nat) (hA:A.length=n) (hn:n<=4):Ev L 321 [.agg [.sl q1 (DC q2 A),.sl q3 (b.map eQ)]] (.sl false ((BC n n).map SK)):=by
 have hlen:=iC hn;refine Ev.x N.MI rfl rfl ?_;repeat' (first|apply AR|apply AE)<;>conv=>whnf
 refine CE (λ i=>n-i) (λ(i:Nat)=>i<=n) (λ i=>[(9,.int .i64 i),(3,.row 3 0 2 0 (BC n i).length)]) (λ i=>[(3,3,.rw 2 ((BC n i).map SK))]) 0 O' ?_;intro i p1 ih;have Pn:=iD n (i:=i) (n-i);rw[show i+(n-i)=n by omega]at Pn;by_cases hi:i<n
 ·have hS:=Xb hi
  have Dz:=iD n (i:=i+1) (n-(i+1));rw[show i+1+(n-(i+1))=n by omega]at Dz;repeat' (first|(apply AG<;>intro hc<;>try omega)|apply AE)<;>conv=>whnf
  refine DF (λ t=>n-i-t) (λ(t:Nat)=>t<=n-i) (λ t=>[(5,.int .i64 ((i+t:Nat):Int)),(3,.row 3 0 2 0 ((BC n i).length+t))]) (λ t=>[(3,3,.rw 2 ((BC n i++DT i t).map SK))]) [] [] 0 (by first|exact B'|(rw[show DT i 0=[] from rfl,Ib];exact B')) O' ?_;intro t p2 th;by_cases ht:t<n-i
  ·have vg:=Uz i t
   have eo:(BC n i++DT i t).length=(BC n i).length+t:=by rw[ga,Y1]
   have uz:BC n i++DT i (t+1)=(BC n i++DT i t)++[(i,i+t)]:=by rw[vg,Qd]
   generalize BC n i++DT i t=R0 at *;repeat' (first|(apply AG<;>intro hc<;>try omega)|apply AR|apply DG|apply AE)<;>conv=>whnf
   refine EE (enc:=SK) (i,i+t) rfl O' rfl O' O' ?_;conv=>whnf
   rw[<-uz,show (BC n i++DT i (t+1)).length=(BC n i).length+(t+1) by rw[ga,Y1]];repeat' (first|(apply AP;omega)|fail)<;>conv=>whnf
   exact A9 [(3,25)] (th (t+1) O' O')
  ·have et:t=n-i:=O'
   clear th;have e1:BC n i++DT i t=BC n (i+1):=by rw[et];rfl
   have e2:(BC n i).length+t=(BC n (i+1)).length:=by rw[hS,et]
   rw[e1,e2];repeat' (first|(apply AG<;>intro hc<;>try omega)|(apply AP;omega)|apply AR|apply AE)<;>conv=>whnf
   exact A9 [] (ih (i+1) O' O')
 ·obtain rfl:i=n:=O'
  clear ih;repeat' (first|(apply AG<;>intro hc<;>try omega)|(refine C8 (λ_=>rfl) rfl ?_ ?_;(first|rfl|simp))|apply AE)<;>conv=>whnf
  exact AY rfl (by simp only[A3];exact ⟨trivial,Afq _⟩)
theorem Y7 {A:J'} {n i:Nat} (hA:Sq n A) (hi:i<n) : ∃ r,A[i]? = some r/\r.length=n /\ ∀ j,j<n->r[j]? = some (A2 A i j):=by
 obtain ⟨r,hr⟩:=H' A i (by rw[hA.l];exact hi);have hl:=hA.at hr;refine ⟨r,hr,hl,λ j hj => ?_⟩;rw[J9 hr,ya,zE O'];rfl
theorem N8 {B:K'} {n i:Nat} (hB:B.length=n) (hi:i<n):B[i]? = some (bQ B i):=by
 rw[bQ,ya,zE O'];rfl
theorem iB {n u i j:Nat} (h:(BC n n)[u]? = some (i,j)):i<n/\j<n/\i<=j:=by
 have:=pM (zM h)
 omega
theorem P5 {α:Type} {l:List α} {i:Nat} {x:α} (h:l[i]? = some x):l.take (i+1)=l.take i++[x]:=by rw[Ob,h];rfl
theorem cL {a b c d:Nat} {K:Bool->Prop} (hk:K (decide ((a,b)=(c,d)))):NY 2 (SK (a,b)) (SK (c,d)) K:=by
 unfold NY;refine ⟨[(a:Int),(b:Int)],[(c:Int),(d:Int)],rfl,rfl,rfl,rfl,?_⟩;have:decide ([(a:Int),(b:Int)]=[(c:Int),(d:Int)])=decide ((a,b)=(c,d)):=by
  apply decide_eq_decide.2;simp
  omega
 rw[this];exact hk
theorem AhK (N:o9 L) (q1 q2 q3:Bool) (A:J') (B:K') (n k p1 p2:Nat) (hA:Sq n A) (hB:B.length=n) (me:Ms k A) (Bj:Bs k B) (hk:k<=1000000) (hn:n<=4) (h1:p1<n) (h2:p2<n) :
  Ev L 322 [.agg [.sl q1 (DC q2 A),.sl q3 (B.map eQ)],.agg (SK (p1,p2))] (.c5 [.sl false ((D7 A n (p1,p2)).map eQ),.agg (eQ (bQ B p1*bQ B p2))]):=by
 have hlen:=iC hn;have hP:=λ q1 q2 q3=>xV N q1 q2 q3 A B n hA.l hn
 obtain ⟨r1,z0,iv,tv⟩:=Y7 hA h1;obtain ⟨r2,au,eo,qi⟩:=Y7 hA h2;have Iw:A[((p1:Nat):Int).toNat]? = some r1:=z0;have Qe:A[((p2:Nat):Int).toNat]? = some r2:=au;have Ai:B[((p1:Nat):Int).toNat]? = some (bQ B p1):=N8 hB h1;have Nn:B[((p2:Nat):Int).toNat]? = some (bQ B p2):=N8 hB h2;have Mk:=H7 N.toa5 (Bs.at Bj (N8 hB h1)) (Bs.at Bj (N8 hB h2)) O' O';refine Ev.x N.O6 rfl rfl ?_;repeat' (first|apply AR|apply AE|refine AD (hP _ _ _) ?_)<;>conv=>whnf
 refine CE (λ u=>(BC n n).length-u) (λ(u:Nat)=>u<=(BC n n).length) (λ u=>[(13,.int .i64 u),(6,.row 6 0 3 0 u)]) (λ u=>[(6,6,.rw 3 (((D7 A n (p1,p2)).take u).map eQ))]) 0 O' ?_;intro u u1 uh;have hgl:(D7 A n (p1,p2)).length=(BC n n).length:=by simp [D7]
 by_cases hu:u<(BC n n).length
 ·obtain ⟨⟨i,j⟩,fm⟩:=H' (BC n n) u hu
  have Hv:(BC n n)[((u:Nat):Int).toNat]? = some (i,j):=fm;obtain ⟨g1,g2,g3⟩:=iB fm;have mn:(D7 A n (p1,p2))[u]? = some (gC A (p1,p2) (i,j)):=by rw[D7,sa,fm];rfl
  have vg:=P5 mn;have ct:((D7 A n (p1,p2)).take u).length=u:=by rw[xa];omega
  have a1:r1[((i:Nat):Int).toNat]? = some (A2 A p1 i):=tv i g1;have a2:r2[((j:Nat):Int).toNat]? = some (A2 A p2 j):=qi j g2;have a3:r1[((j:Nat):Int).toNat]? = some (A2 A p1 j):=tv j g2;have a4:r2[((i:Nat):Int).toNat]? = some (A2 A p2 i):=qi i g1;have b1:=GC me p1 i;have b2:=GC me p2 j;have b3:=GC me p1 j;have b4:=GC me p2 i;have m1:=H7 N.toa5 b1 b2 O' O';have n1:=xQ N.toq8 (b1.mul b2) O';have c1:=(b1.mul b2).ngN;have zi:gC A (p1,p2) (i,j)=if (i,j)=(p1,p2) then (if i=j then -(A2 A p1 i*A2 A p2 j) else -(A2 A p1 i*A2 A p2 j)-A2 A p1 j*A2 A p2 i)+1 else if i=j then -(A2 A p1 i*A2 A p2 j) else -(A2 A p1 i*A2 A p2 j)-A2 A p1 j*A2 A p2 i:=rfl
  generalize gC A (p1,p2) (i,j)=gc at *;generalize (D7 A n (p1,p2)).take u=R0 at *;have hO:=GZ N.toa5 1 O';by_cases hd:i=j
  ·rw[if_pos hd]at zi
   have ad:=NA N.toa5 c1 (Bt.one 0) O' O';by_cases he:(i,j)=(p1,p2)
   ·have Aj:decide ((i,j)=(p1,p2))=true:=decide_eq_true he
    rw[if_pos he]at zi;repeat' (first|(apply AG<;>intro hc<;>try omega)|(refine A4 V' ?_ rfl ?_;omega)|apply AE|refine AD (m1) ?_|refine AD (n1) ?_)<;>conv=>whnf
    ·refine cL ?_
     rw[Aj];conv=>whnf
     repeat' (first|apply DG|refine AD (hO) ?_|refine AD (ad) ?_)<;>conv=>whnf
     refine EE (enc:=eQ) _ rfl ct.symm rfl O' O' ?_;rw[<-zi,<-vg,show ((D7 A n (p1,p2)).take (u+1)).length=u+1 by rw[xa];omega];conv=>whnf
     repeat' (first|(apply AP;omega)|fail)<;>conv=>whnf
     exact A9 [(6,76)] (uh (u+1) O' O')
   ·have Aj:decide ((i,j)=(p1,p2))=false:=decide_eq_false he
    rw[if_neg he]at zi;repeat' (first|(apply AG<;>intro hc<;>try omega)|(refine A4 V' ?_ rfl ?_;omega)|apply AE|refine AD (m1) ?_|refine AD (n1) ?_)<;>conv=>whnf
    ·refine cL ?_
     rw[Aj];conv=>whnf
     (repeat' (apply DG<;>conv=>whnf))
     refine EE (enc:=eQ) _ rfl ct.symm rfl O' O' ?_;rw[<-zi,<-vg,show ((D7 A n (p1,p2)).take (u+1)).length=u+1 by rw[xa];omega];conv=>whnf
     repeat' (first|(apply AP;omega)|fail)<;>conv=>whnf
     exact A9 [(6,76)] (uh (u+1) O' O')
  ·rw[if_neg hd]at zi
   have m2:=H7 N.toa5 b3 b4 O' O';have s2:=fA N.toq9 c1 (b3.mul b4) O' O';have ad:=NA N.toa5 (c1.pf (b3.mul b4)) (Bt.one 0) O' O';by_cases he:(i,j)=(p1,p2)
   ·have Aj:decide ((i,j)=(p1,p2))=true:=decide_eq_true he
    rw[if_pos he]at zi;repeat' (first|(apply AG<;>intro hc<;>try omega)|(refine A4 V' ?_ rfl ?_;omega)|apply AE|refine AD (m1) ?_|refine AD (n1) ?_|refine AD (m2) ?_|refine AD (s2) ?_)<;>conv=>whnf
    ·refine cL ?_
     rw[Aj];conv=>whnf
     repeat' (first|apply DG|refine AD (hO) ?_|refine AD (ad) ?_)<;>conv=>whnf
     refine EE (enc:=eQ) _ rfl ct.symm rfl O' O' ?_;rw[<-zi,<-vg,show ((D7 A n (p1,p2)).take (u+1)).length=u+1 by rw[xa];omega];conv=>whnf
     repeat' (first|(apply AP;omega)|fail)<;>conv=>whnf
     exact A9 [(6,76)] (uh (u+1) O' O')
   ·have Aj:decide ((i,j)=(p1,p2))=false:=decide_eq_false he
    rw[if_neg he]at zi;repeat' (first|(apply AG<;>intro hc<;>try omega)|(refine A4 V' ?_ rfl ?_;omega)|apply AE|refine AD (m1) ?_|refine AD (n1) ?_|refine AD (m2) ?_|refine AD (s2) ?_)<;>conv=>whnf
    ·refine cL ?_
     rw[Aj];conv=>whnf
     (repeat' (apply DG<;>conv=>whnf))
     refine EE (enc:=eQ) _ rfl ct.symm rfl O' O' ?_;rw[<-zi,<-vg,show ((D7 A n (p1,p2)).take (u+1)).length=u+1 by rw[xa];omega];conv=>whnf
     repeat' (first|(apply AP;omega)|fail)<;>conv=>whnf
     exact A9 [(6,76)] (uh (u+1) O' O')
 ·have eu:u=(BC n n).length:=O'
  clear uh;rw[zT O'];repeat' (first|(apply AG<;>intro hc<;>try omega)|(refine A4 V' ?_ rfl ?_;omega)|apply AE|refine AD (Mk) ?_)<;>conv=>whnf
  refine C8 (enc:=eQ) (λ_=>rfl) rfl O' ?_;conv=>whnf
  refine AY rfl ?_;simp only[A3,B7,and_true,true_and];exact ⟨KA _,CP _,CP _⟩
end Go.c6

namespace Go.c6
open F
attribute [local irreducible] AA AF AL AC CQ AW BA A8 B3 BL CN D4 BP A1 B6 CF AB BG AH pw BV BO CS CY C2 BX CG BU CX
variable {L:Lib}
set_option maxRecDepth 8000
theorem Yt {l:K'} {i:Nat} {x:Rat} (h:l[i]? = some x):BQ (l.take (i+1))=BQ (l.take i)+CW x:=by rw[P6 h,Ys]
theorem Aih (N:v7 L) (q:Bool) (v:K') (k:Nat) (hv:Bs k v) (hn:v.length<=1000) (hk:k<=1000000000):Ev L 300 [.sl q (v.map eQ)] (.agg (eQ (BQ v))):=by
 have hO:=GZ N.toa5 0 O';rw[show ((0:Int):Rat)=0 from rfl]at hO;refine Ev.x N.PD rfl rfl ?_;repeat' (first|apply AR|apply AE|refine AD (hO) ?_)<;>conv=>whnf
 refine DF (λ i=>v.length-i) (λ(i:Nat)=>i<=v.length) (λ i=>[(9,.int .i64 i)]) (λ i=>[(3,3,.bx (eQ (BQ (v.take i))))]) [] [] 0 (by rw[show BQ (v.take 0)=0 from rfl];exact B') O' ?_;intro i p1 ih;by_cases hi:i<v.length
 ·obtain ⟨x,hx⟩:=H' v i hi
  have dv:v[(i:Int).toNat]? = some x:=hx;have hA:=Ahk N.tofw (hv.at hx) O';have hz:Bt (1000*(k+1)) (BQ (v.take i)):=(bU (hv.take i)).le (zR _ F');have hP:=NA N.toa5 hz (sX (hv.at hx)) O' O';rw[<-Yt hx]at hP;generalize BQ (v.take i)=w at *;generalize CW x=y at *;repeat' (first|(apply AG<;>intro hc<;>try omega)|(apply AP;omega)|(refine A4 V' ?_ rfl ?_;omega)|apply AE|refine AD (hA) ?_|refine AD (hP) ?_)<;>conv=>whnf
  exact A9 [] (ih (i+1) O' O')
 obtain rfl:i=v.length:=O'
 clear ih;rw[zT (zb _)];repeat' (first|(apply AG<;>intro hc<;>try omega)|apply AE)<;>conv=>whnf
 exact AY rfl (DK _)
theorem bT {x y:Rat}:0<o3 (x-y).num↔y<x:=by
 have h:=qG (x-y).num;have e1:(x-y).num<0↔x<y:=by rw[pF];constructor<;>intro h<;>grind
 have e2:(x-y).num=0↔x=y:=by rw[Rat.num_eq_zero];constructor<;>intro h<;>grind
 rcases h with ⟨h1,h2⟩|⟨h1,h2⟩|⟨h1,h2⟩
 ·have:=e1.1 h2
  rw[h1];constructor
  ·intro h;omega
  ·intro h;grind
 ·have:=e2.1 h2
  rw[h1];constructor
  ·intro h;omega
  ·intro h;grind
 ·have h3 : ¬ x<y:=λ h=>by have:=e1.2 h;omega
  have h4 : ¬ x=y:=λ h=>by have:=e2.2 h;omega
  rw[h1];constructor
  ·intro _;grind
  ·intro _;omega
theorem Aib (N:v7 L) (q q':Bool) (a:J') (D:Rat) (n k l:Nat) (hs:Sq n a) (ha:Ms k a) (hD:Bt l D) (hn:n<=16) (hk:k<=1000000000) (hl:l<=1000000000):Ev L 302 [.sl q (DC q' a),.agg (eQ D)] (.bool (decide (∀ r∈a,BQ r+BQ r<=D))):=by
 have y9:=hs.l;refine Ev.x N.O9 rfl rfl ?_;repeat' (first|apply AR|apply AE)<;>conv=>whnf
 refine CE (λ i=>n-i) (λ(i:Nat)=>i<=n /\ ∀ r∈a.take i,BQ r+BQ r<=D) (λ i=>[(10,.int .i64 i)]) (λ_=>[]) 0 ⟨O',λ r hr=>by cases hr⟩ ?_;intro i ⟨p1,p2⟩ ih;by_cases hi:i<n
 ·obtain ⟨r,hr⟩:=H' a i
  have ja:a[(i:Int).toNat]? = some r:=hr;have bh:=hs.at hr;have hT:=λ q=>Aih N q r k (ha.at hr) O' hk
  have hz:Bt (16*(k+1)) (BQ r):=(bU (ha.at hr)).le (zR _ O');have hP:=NA N.toa5 hz hz O' O';have hC:=xB N.toq8 (hz.add hz) hD O' O';have hg:=bT (x:=BQ r+BQ r) (y:=D);by_cases h:D<BQ r+BQ r
  ·have Ca : ¬ ∀ r∈a,BQ r+BQ r<=D:=λ e=>by
    have:=e r (zM hr)
    grind
   have:=hg.2 h
   rw[decide_eq_false Ca];clear Ca p2 ih hz h hg;generalize o3 (BQ r+BQ r-D).num=g at *;generalize BQ r+BQ r=w at *;generalize BQ r=z at *;repeat' (first|(apply AG<;>intro hc<;>try omega)|(refine A4 V' ?_ rfl ?_;omega)|apply AE|refine AD (hT _) ?_|refine AD (hP) ?_|refine AD (hC) ?_)<;>conv=>whnf
   exact FB rfl
  ·have Rk : ∀ r∈a.take (i+1),BQ r+BQ r<=D:=λ s hs=>by
    rw[P6 hr]at hs;rcases Ga.1 hs with hs|hs
    ·exact p2 s hs
    ·obtain rfl:=Ma.1 hs
     grind
   have : ¬ 0<o3 (BQ r+BQ r-D).num:=λ e=>h (hg.1 e)
   clear p2 hz h hg;generalize o3 (BQ r+BQ r-D).num=g at *;generalize BQ r+BQ r=w at *;generalize BQ r=z at *;repeat' (first|(apply AG<;>intro hc<;>try omega)|(apply AP;omega)|(refine A4 V' ?_ rfl ?_;omega)|apply AE|refine AD (hT _) ?_|refine AD (hP) ?_|refine AD (hC) ?_)<;>conv=>whnf
   exact A9 [] (ih (i+1) O' ⟨O',Rk⟩)
 obtain rfl:i=n:=O'
 clear ih;rw[zT O']at p2;rw[decide_eq_true p2];repeat' (first|(apply AG<;>intro hc<;>try omega)|apply AE)<;>conv=>whnf
 exact FB rfl
theorem Tn {α:Type} {a b:List α} {j:Nat} {y:α} (hl:a.length=b.length) (hy:a[j]? = some y):(a.take j++b.drop j).set j y=a.take (j+1)++b.drop (j+1):=by
 have h:=(zS hy).1;rw[Pf _ _ F',xa,Fc O',Le,Lc O',xg,Ob,hy,Jc,Qd];rfl
def IM (Q:J') (n j:Nat):List (P'):=Q.map λ r=>some (3,(FH (r.take j) n).map eO)
def LS (Q:J') (n j m:Nat):List (P'):=(IM Q n (j+1)).take m++(IM Q n j).drop m
theorem QL (Q:J') (n j:Nat):(IM Q n j).length=Q.length:=by simp [IM]
theorem AfJ (Q:J') (n j:Nat):LS Q n j 0=IM Q n j:=by simp [LS]
theorem AfG (Q:J') (n j:Nat):LS Q n j Q.length=IM Q n (j+1):=by
 rw[LS,zT (by rw[QL];exact zb _),nb (by rw[QL];exact zb _),Ib]
theorem AfH {Q:J'} {n j m:Nat} (h:m<=Q.length):(LS Q n j m).length=Q.length:=by
 rw[LS,ga,xa,tb,QL,QL];omega
theorem AfF {Q:J'} {n j m:Nat} {r:K'} (hr:Q[m]? = some r):(LS Q n j m)[m]? = some (some (3,(FH (r.take j) n).map eO)):=by
 have h:=(zS hr).1;rw[LS,tf (by rw[xa,QL];omega),xa,QL,Fc O',Le,ie,Nat.add_zero,IM,sa,hr];rfl
theorem AfI {Q:J'} {n j m:Nat} {r:K'} (hr:Q[m]? = some r):(LS Q n j m).set m (some (3,(FH (r.take (j+1)) n).map eO))=LS Q n j (m+1):=by
 have h:=(zS hr).1;exact Tn (by rw[QL,QL]) (by rw[IM,sa,hr];rfl)
theorem Ad7 {R:List (P')} {i z:Nat} {es:o_} {K:Nat->o_->Prop} (h:R[i]? = some (some (z,es))) (hk:K z es):BO R i K:=by
 unfold BO;exact ⟨z,es,h,hk⟩
theorem AfK {Q:J'} {n:Nat} (h : ∀ r∈Q,r.length=n):IM Q n n=BJ 3 eQ Q:=by
 refine Qb λ r hr => ?_
 have:=h r hr
 rw[zT O',SN this]
theorem Aie (N:v7 L) (q q':Bool) (a:J') (n k:Nat) (hs:Sq n a) (ha:Ms k a) (hn:n<=4) (hk:k<=1000000000):Ev L 299 [.sl q (DC q' a)] (.sl false (eM (HB a a n))):=by
 have y9:=hs.l;have Bl:Sq n (HB a a n):=Sq.mul hs.l a;have Gx : ∀ (i:Nat) (r:K'),a[i]? = some r->(HB a a n)[i]? = some (EX r a n):=λ i r hr=>by rw[HB,sa,hr];rfl
 have yq : ∀ (j:Nat) (r:K'),j<n->(EX r a n)[j]? = some (AZ r (DI a j)):=λ j r hj=>by rw[EX,sa,Ba hj];rfl
 have uy:=Bl.l;have Ey:=Bl.r;generalize HB a a n=Q at *;refine Ev.x N.I8 rfl rfl ?_;repeat' (first|apply AR|apply AE)<;>conv=>whnf
 unfold C2;refine ⟨⟨O',O',by simp only[DX];omega,O'⟩,?_⟩;rw[zc,y9];conv=>whnf
 skip
 have jf:=QL Q n 0;have Jy : ∀ i,i<n->(IM Q n 0)[i]? = some (some (3,(qa n (none:Option Rat)).map eO)):=λ i hi=>by
  rw[IM,sa,zE O',Ab,Ha,SP]
 refine DF (λ i=>n-i) (λ(i:Nat)=>i<=n) (λ i=>[(15,.int .i64 i)]) (λ i=>[(13,13,.mx (fz none ((IM Q n 0).take i) n))]) [] [] 0 (by first|exact B'|(rw[Ha,show fz (none:P') [] n=qa n none by simp [fz]];exact B')) O' ?_;intro i p1 ih;have ct:((IM Q n 0).take i).length=i:=by rw[xa];omega
 have dp:=K9 (z:=(none:P')) (l:=(IM Q n 0).take i) (m:=n) O';by_cases hi:i<n
 ·have iu:=LA (z:=(none:P')) (x:=some (3,(qa n (none:Option Rat)).map eO)) (l:=(IM Q n 0).take i) (m:=n) O'
  rw[ct,<-P6 (Jy i hi)]at iu;generalize fz (none:P') ((IM Q n 0).take i) n=J at *;repeat' (first|(apply AG<;>intro hc<;>try omega)|apply AE)<;>conv=>whnf
  refine DW (enc:=eO) none n rfl rfl O' ?_;conv=>whnf
  repeat' (first|(apply AX;omega)|fail)<;>conv=>whnf
  unfold AL CS;refine ⟨Z',O',?_⟩;conv=>whnf
  rw[show 0+((i:Int)).toNat=i by omega,iu];repeat' (first|(apply AP;omega)|fail)<;>conv=>whnf
  exact A9 [] (ih (i+1) O' O')
 have ei:i=n:=O'
 clear ih dp;rw[ei,zT O',K8 O'];repeat' (first|(apply AG<;>intro hc<;>try omega)|apply AE)<;>conv=>whnf
 refine DW (enc:=eO) none n rfl rfl O' ?_;conv=>whnf
 skip
 refine FJ (λ j _=>n-j) (λ(j:Nat) (C:List (Option Rat))=>j<=n/\C.length=n) (λ j _=>[(27,.int .i64 j)]) (λ j C=>[(25,25,.rw 3 (C.map eO)),(13,13,.mx (IM Q n j))]) 0 (qa n none) ⟨O',Z'⟩ ?_;intro j C ⟨r1,r2⟩ jh;by_cases hj:j<n
 ·have l9:(DI a j).length=n:=by rw[AfC];exact y9
  have Ns:((DI a j).map some).length=n:=by rw[za];exact l9
  repeat' (first|(apply AG<;>intro hc<;>try omega)|apply AE)<;>conv=>whnf
  refine DF (λ i=>n-i) (λ(i:Nat)=>i<=n) (λ i=>[(31,.int .i64 i)]) (λ i=>[(25,25,.rw 3 ((((DI a j).map some).take i++C.drop i).map eO))]) [] [] 0 (by rw[Ha,Ac,tc];exact B') O' ?_;intro i2 s1 kh;have cq:(((DI a j).map some).take i2++C.drop i2).length=n:=by rw[ga,xa,tb];omega
  by_cases ue:i2<n
  ·obtain ⟨r,hr⟩:=H' a i2
   have bh:=hs.at hr;obtain ⟨x,hx⟩:=H' r j;have ja:a[(i2:Int).toNat]? = some r:=hr;have dv:r[(j:Int).toNat]? = some x:=hx;have hcx:((DI a j).map some)[i2]? = some (some x):=by
    rw[sa,DI,sa,hr];simp only[Ab,ya,hx,Oc]
   have g9:=Tn (a:=(DI a j).map some) (b:=C) O' hcx;generalize ((DI a j).map some).take i2++C.drop i2=W at *;repeat' (first|(apply AG<;>intro hc<;>try omega)|(apply AX;omega)|(refine A4 V' ?_ rfl ?_;omega)|apply AE)<;>conv=>whnf
   refine E5 (enc:=eO) (some x) rfl (λ e=>by cases e<;>rfl) O' ?_;conv=>whnf
   rw[g9];repeat' (first|(apply AP;omega)|fail)<;>conv=>whnf
   exact A9 [] (kh (i2+1) O' O')
  obtain rfl:i2=n:=O'
  clear kh cq;rw[zT O',nb O',Ib,show ((DI a j).map some).map eO=(DI a j).map eQ by rw[xb];rfl];repeat' (first|(apply AG<;>intro hc<;>try omega)|apply AE)<;>conv=>whnf
  refine DF (λ i=>i2-i) (λ(i:Nat)=>i<=i2) (λ i=>[(46,.int .i64 i)]) (λ i=>[(13,13,.mx (LS Q i2 j i))]) [] [] 0 (by rw[AfJ];exact B') O' ?_;intro i3 s2 lh;have cq:=AfH (Q:=Q) (n:=i2) (j:=j) (m:=i3) O';by_cases Al:i3<i2
  ·obtain ⟨r,hr⟩:=H' a i3
   have bh:=hs.at hr;have ja:a[(i3:Int).toNat]? = some r:=hr;have hq:=Gx i3 r hr;have az:=AfF (n:=i2) (j:=j) hq;have mq:=AfI (n:=i2) (j:=j) hq;have hxx:=yq j r hj;have xn:(EX r a i2).length=i2:=Ey _ (zM hq);have zn:((EX r a i2).take j).length=j:=by rw[xa];omega
   have iu:=SR (l:=(EX r a i2).take j) (m:=i2) (x:=AZ r (DI a j)) O';rw[zn,<-P6 hxx]at iu;have dp:=QU (l:=(EX r a i2).take j) (m:=i2) O';rw[<-iu]at mq;have hD:=λ q q'=>Aic N q q' r (DI a j) k k O' (ha.at hr) (Ms.Lu ha j) O' hk hk
   clear hq hxx iu zn xn;generalize FH ((EX r a i2).take j) i2=W at *;generalize AZ r (DI a j)=y at *;generalize LS Q i2 j i3=R0 at *;repeat' (first|(apply AG<;>intro hc<;>try omega)|(apply AX;omega)|apply AE)<;>conv=>whnf
   refine cS (r:=some (3,W.map eO)) (by rw[Rf,zc];exact az) ?_;conv=>whnf
   repeat' (first|(refine A4 V' ?_ rfl ?_;omega)|fail)<;>conv=>whnf
   refine C8 (enc:=eQ) (λ_=>rfl) rfl l9.symm ?_;conv=>whnf
   (repeat' (refine AD (hD _ _) ?_<;>conv=>whnf))
   refine AX E' ?_;conv=>whnf
   skip
   refine Ad7 (z:=3) (es:=W.map eO) (by rw[Rf,zc];exact az) ?_;conv=>whnf
   refine E5 (enc:=eO) (some y) rfl (λ e=>by cases e<;>rfl) O' ?_;conv=>whnf
   unfold CY;refine ⟨by rw[za,za,Oa],?_⟩;rw[show 0+((i3:Int)).toNat=i3 by omega,mq];conv=>whnf
   repeat' (first|(apply AP;omega)|fail)<;>conv=>whnf
   exact A9 [] (lh (i3+1) O' O')
  obtain rfl:i3=i2:=O'
  clear lh cq;have Bu:=AfG Q i3 j;rw[uy]at Bu;rw[Bu];repeat' (first|(apply AG<;>intro hc<;>try omega)|(apply AP;omega)|apply AE)<;>conv=>whnf
  rw[show (DI a j).map eQ=((DI a j).map some).map eO by rw[xb];rfl];exact A9 [] (jh (j+1) ((DI a j).map some) O' ⟨O',by rw[za];exact l9⟩)
 have ej:j=n:=O'
 clear jh;rw[ej,AfK Ey];repeat' (first|(apply AG<;>intro hc<;>try omega)|apply AE)<;>conv=>whnf
 refine H1 (λ_=>rfl) rfl O' ?_;conv=>whnf
 exact AY rfl (uE Q)
abbrev SJ (q:Bool) (R:J') (D:Rat) (p:Int) (T:Rat):u_:=[.sl false (DC q R)]++eQ D++[.int .i64 p]++eQ T
theorem kW (R:J') (D:Rat) (p:Int) (T:Rat) (e:Int):A3 (.c5 [.agg (SJ false R D p T),.int .i64 e]):=by
 have h1:=kX R;have h2:=DK D;have h3:=DK T;simp only[A3,B7,true_and,and_true,SJ,ig,tc]at h1 h2 h3 ⊢;exact ⟨h1,h2.1,h2.2,h3.1,h3.2⟩
theorem pN {i:Nat} (h:i<=6):2^i<=64/\(2^i=64->i=6)/\1<=2^i:=by
 obtain rfl|rfl|rfl|rfl|rfl|rfl|rfl:i=0\/i=1\/i=2\/i=3\/i=4\/i=5\/i=6:=O'
 all_goals decide
theorem Vd {D:Rat} {d:Nat} (h:Bt d D) : ∀ j:Nat,Bt (j*d) (D^j)
 | 0=>by rw[zd];exact Bt.one _
 | j+1=>by
  rw[Dd];exact ((Vd h j).mul h).le (by rw[Cb];omega)
theorem Ak6 {S M:Nat} (h:S<=2^M):Bt M (S:Rat):=by
 refine ⟨?_,?_⟩
 ·rw[Ee,Kb];exact h
 ·rw[Ce];exact Re
theorem Ak7 {S:Nat} (h:0<S):(0:Rat)<(S:Rat):=by
 have:=Rat.natCast_lt_natCast.2 h
 exact this
theorem Aif (N:v7 L) (q q':Bool) (a:J') (n k:Nat) (hs:Sq n a) (ha:Ms k a) (hn:n<=4) (hk:k<=100000) :
  ∃ v,Ev L 303 [.sl q (DC q' a)] v/\((∃ i,i<=6/\IY n a i/\v = .c5 [.agg (SJ false (C9 (C7 a.flatten) a) (C7 a.flatten) ((2^i:Nat):Int) (C7 a.flatten^(2^i+2^i-1))),.int .i64 0]) \/
   ((∀ j,j<=6->DH (B8 n a j)=false)/\v = .c5 [.agg [.sl false [],.bool false,.sl false [],.sl false [],.int .i64 0,.bool false,.sl false [],.sl false []],.int .i64 14])):=by
 have y9:=hs.l;have Ps:n*n<=4*4:=qe hn hn;have Ky:n*n*k<=16*k:=zR k Ps;have dp:a.flatten.length<=64:=by
  have : ∀ (a:J'),(∀ r∈a,r.length=n)->a.flatten.length=a.length*n:=by
   intro a;induction a with
   | nil=>intro _;simp
   | cons r a ih =>
    intro h;rw[Cc,ga,ih λ x hx=>h x (pc _ hx),h r xc,Eb,Cb,Je]
  rw[this a hs.r,y9];omega
 have Ew:=Aia N q q' a k ha dp O' O';have hO:=GZ N.toa5 1 O';rw[show ((1:Int):Rat)=1 from rfl]at hO;obtain ⟨D0,eD,d1,d2,d3⟩:=Yx hs ha;have Mb:Bt (16*k) (D0:Rat):=Ak6 (oc d2 (te O' Ky));have hDp:(0:Rat)<(D0:Rat):=Ak7 d1;have hDN:=mC (oc d2 (te O' Ky));have hRW:=jA hs hn d3;rw[eD]at Ew ⊢;generalize (D0:Rat)=D at *;clear eD d1 d2 d3;have Df:(C9 D a).length=n:=by rw[Yu];exact y9
 have Nf : ∀ (i:Nat) (r:K'),a[i]? = some r->(C9 D a)[i]? = some (r.map (· * D)):=λ i r hr=>AmF hr
 have fb : ∀ i,Sq n (C9 (DZ D i) (B8 n a i)):=λ i=>AmG _ (VG hs i)
 have qt : ∀ i,i<=6->Ms 300000000 (C9 (DZ D i) (B8 n a i)):=λ i hi r hr x hx=>((hRW i r hr x hx).le (by have:=Zz (k:=k) i O';omega)).bt
 have bg : ∀ i,i<=6->Bt 300000000 (DZ D i):=λ i hi=>((hDN i).le (by
  have:=(pN hi).1
  have:=zR (16*k) this
  omega)).bt
 have hCt:=λ(i:Nat) (q q':Bool) (hi:i<=6)=>Aib N q q' (C9 (DZ D i) (B8 n a i)) (DZ D i) n 300000000 300000000 (fb i) (qt i hi) (bg i hi) O' O' O'
 have Hc:=λ(i:Nat) (q q':Bool) (hi:i<=6)=>Aie N q q' (C9 (DZ D i) (B8 n a i)) n 300000000 (fb i) (qt i hi) hn O'
 have hMD:=λ(i:Nat) (hi:i<=6)=>H7 N.toa5 (bg i hi) (bg i hi) O' O'
 have g9 : ∀ i,HB (C9 (DZ D i) (B8 n a i)) (C9 (DZ D i) (B8 n a i)) n=C9 (DZ D (i+1)) (B8 n a (i+1)):=λ i=>Zk n a D i
 have hci : ∀ i,(∀ r∈C9 (DZ D i) (B8 n a i),BQ r+BQ r<=DZ D i)↔DH (B8 n a i)=true:=λ i=>AfO hDp
 have hLs:=λ(j:Nat) (hj:j<=128)=>H7 N.toa5 (Vd Mb j) Mb (show j*(16*k)<2199023255552 by
  have:=zR (16*k) hj
  omega) O'
 have Ho : ∀ (i:Nat) (q q':Bool),i<=6->Ev L 302 [.sl q (DC q' (C9 (DZ D i) (B8 n a i))),.agg (eQ (DZ D i))] (.bool (DH (B8 n a i))):=λ i q q' hi=>by
  have:=hCt i q q' hi
  rwa [show decide (∀ r∈C9 (DZ D i) (B8 n a i),BQ r+BQ r<=DZ D i)=DH (B8 n a i) by rw[Bool.eq_iff_iff,decide_eq_true_iff];exact hci i]at this
 have Hb : ∀ (i:Nat) (q q':Bool),i<=6->Ev L 299 [.sl q (DC q' (C9 (DZ D i) (B8 n a i)))] (.sl false (eM (C9 (DZ D (i+1)) (B8 n a (i+1))))):=λ i q q' hi=>by
  have:=Hc i q q' hi
  rwa [g9]at this
 have de : ∀ i,i<=6->Ev L 99 [.agg (eQ (DZ D i)),.agg (eQ (DZ D i))] (.agg (eQ (DZ D (i+1)))):=hMD;have Mh : ∀ j:Nat,j<=128->Ev L 99 [.agg (eQ (D^j)),.agg (eQ D)] (.agg (eQ (D^(j+1)))):=λ j hj=>by
  have:=hLs j hj
  rwa [<-Dd]at this
 have Lz : ∀ q q':Bool,Ev L 302 [.sl q (DC q' (C9 D a)),.agg (eQ D)] (.bool (DH (B8 n a 0))):=λ q q'=>Ho 0 q q' O'
 have Ag : ∀ q q':Bool,Ev L 299 [.sl q (DC q' (C9 D a))] (.sl false (eM (C9 (DZ D 1) (B8 n a 1)))):=λ q q'=>Hb 0 q q' O'
 have Mi:Ev L 99 [.agg (eQ D),.agg (eQ D)] (.agg (eQ (DZ D 1))):=de 0 O';clear hCt Hc hMD hLs g9 hci qt bg fb hRW hDN;refine Ev.xE N.KL rfl rfl ?_;by_cases h0:n=0
 ·obtain rfl:a=[]:=List.length_eq_zero_iff.1 O'
  have hb:DH (B8 n [] 0)=true:=rfl;have nc:=Lz false false;rw[hb]at nc;have Ka:Ev L 302 [.sl false [],.agg (eQ D)] (.bool true):=nc;have Kc:=Mh 0 O';rw[zd]at Kc;repeat' (first|apply AR|apply AE|refine AD (Ew) ?_|refine AD (hO) ?_)<;>conv=>whnf
  refine F8 ?_;repeat' (first|(apply AG<;>intro hc<;>try omega)|apply AE)<;>conv=>whnf
  refine F8 ?_;repeat' (first|(apply BS;omega)|(apply FL;omega)|apply AE|refine AD (Ka) ?_)<;>conv=>whnf
  refine F8 ?_;repeat' (first|(apply AG<;>intro hc<;>try omega)|(apply AP;omega)|apply AE|refine AD (Kc) ?_)<;>conv=>whnf
  refine F8 ?_;repeat' (first|(apply AG<;>intro hc<;>try omega)|apply AE)<;>conv=>whnf
  refine ⟨.c5 [.agg (SJ false [] D 1 (D^1)),.int .i64 0],?_,Or.inl ⟨0,O',⟨rfl,λ j hj=>absurd hj O'⟩,rfl⟩⟩;exact AY rfl (kW [] D 1 (D^1) 0)
 repeat' (first|apply AR|apply AE|refine AD (Ew) ?_|refine AD (hO) ?_)<;>conv=>whnf
 refine FJ (λ i _=>n-i) (λ(i:Nat) (fl:Bool)=>i<=n/\fl=decide (i=0)) (λ i _=>[(15,.int .i64 i)]) (λ i fl=>bif fl then [] else [(4,4,.bx ([.row 1000 0 1 0 i]++eQ D++[.int .i64 1]++eQ 1)),(1000,26,.rw 1 (((C9 D a).take i).map λ r=>[AV.sl false (r.map eQ)]))]) 0 true ⟨O',rfl⟩ ?_;intro i fl ⟨p1,p2⟩ ih;have bh:((C9 D a).take i).length=i:=by rw[xa];omega
 by_cases hi:i<n
 ·obtain ⟨r,hr⟩:=H' a i
  have ja:a[(i:Int).toNat]? = some r:=hr;have fp:=hs.at hr;have hTm:=λ q=>Aig N q r D k (16*k) (ha.at hr) Mb O' O' O'
  have az:=Nf i r hr;generalize r.map (· * D)=w at *;cases fl
  ·have td:i≠0:=by simpa using p2.symm
   repeat' (first|(apply AG<;>intro hc<;>try omega)|(refine A4 V' ?_ rfl ?_;omega)|apply DG|apply AE|refine AD (hTm _) ?_)<;>conv=>whnf
   refine EE (l:=(C9 D a).take i) (z:=1) (bytes:=24) (enc:=λ r:K'=>[AV.sl false (r.map eQ)]) w rfl bh.symm rfl O' O' ?_;conv=>whnf
   repeat' (first|(apply AP;omega)|fail)<;>conv=>whnf
   rw[<-P6 az,show ((C9 D a).take (i+1)).length=i+1 by rw[xa];omega];exact A9 [(1000,26)] (ih (i+1) false O' ⟨O',Z'⟩)
  ·have td:i=0:=by simpa using p2.symm
   subst td;repeat' (first|(apply AG<;>intro hc<;>try omega)|(refine A4 V' ?_ rfl ?_;omega)|apply DG|apply AE|refine AD (hTm _) ?_)<;>conv=>whnf
   refine RR (enc:=λ r:K'=>[AV.sl false (r.map eQ)]) w rfl rfl O' ?_;conv=>whnf
   repeat' (first|(apply AP;omega)|fail)<;>conv=>whnf
   rw[show [w]=(C9 D a).take (0+1) by rw[P6 az];rfl];exact A9 [(1000,26)] (ih 1 false O' ⟨O',Z'⟩)
 have ei:i=n:=O'
 obtain rfl:fl=false:=by rw[p2];simp;omega
 clear ih p2 bh;rw[ei,zT O'];repeat' (first|(apply AG<;>intro hc<;>try omega)|apply AE)<;>conv=>whnf
 refine FJ (λ i _=>7-i) (λ(i:Nat) (fl:Bool)=>i<=6/\(fl=true->i=0) /\ ∀ j,j<i->DH (B8 n a j)=false) (λ i fl=>[(7,bif fl then .row 1000 0 1 0 n else .sl false (eM (C9 (DZ D i) (B8 n a i))))]) (λ i _=>[(8,8,.bx (eQ (DZ D i))),(4,4,.bx ([.row 1000 0 1 0 n]++eQ D++[.int .i64 ((2^i:Nat):Int)]++eQ 1))]) 0 true ⟨O',λ_=>rfl,λ j hj=>absurd hj O'⟩ ?_;intro i fl ⟨s1,s2,s3⟩ jh;obtain ⟨g1,g2,g3⟩:=pN s1;have vd:((2^(i+1):Nat):Int)=((2^i:Nat):Int)*2:=by rw[Ke];omega
 have Hq:=λ q q'=>Ho i q q' s1
 have hsi:=λ q q'=>Hb i q q' s1
 have Pn:=de i s1;cases hb:DH (B8 n a i)
 ·rw[hb]at Hq
  by_cases h6:i=6
  ·have e64:((2^i:Nat):Int)=64:=by rw[h6];rfl
   have kj : ∀ j,j<=6->DH (B8 n a j)=false:=λ j hj=>by
    by_cases h:j=6
    ·rw[h,<-h6];exact hb
    ·exact s3 j O'
   cases fl
   ·rw[e64]
    repeat' (first|(apply AG<;>intro hc<;>try omega)|apply AE|refine AD (Hq _ _) ?_)<;>conv=>whnf
    exact ⟨_,AY rfl (by simp [A3,B7,EZ]),Or.inr ⟨kj,rfl⟩⟩
   ·exact absurd (s2 rfl) O'
  ·have AAL:((2^i:Nat):Int)≠64:=λ e=>h6 (g2 O')
   have y7 : ∀ j,j<i+1->DH (B8 n a j)=false:=λ j hj=>by
    by_cases h:j=i
    ·rw[h];exact hb
    ·exact s3 j O'
   cases fl
   ·generalize 2^i=P at *
    repeat' (first|(apply AG<;>intro hc<;>try omega)|(apply FL;omega)|apply AE|refine AD (Hq _ _) ?_|refine AD (hsi _ _) ?_|refine AD (Pn) ?_)<;>conv=>whnf
    rw[<-vd];exact A9 [] (jh (i+1) false O' ⟨O',(λ h=>by cases h),y7⟩)
   ·obtain rfl:=s2 rfl
    have nc:=Lz;rw[hb]at nc;generalize 2^0=P at *;(repeat' (apply AE<;>conv=>whnf))
    refine C8 (enc:=λ r:K'=>[AV.sl false (r.map eQ)]) (λ_=>rfl) rfl Df.symm ?_;conv=>whnf
    repeat' (first|(apply AG<;>intro hc<;>try omega)|refine AD (nc _ _) ?_)<;>conv=>whnf
    refine C8 (enc:=λ r:K'=>[AV.sl false (r.map eQ)]) (λ_=>rfl) rfl Df.symm ?_;conv=>whnf
    repeat' (first|(apply FL;omega)|refine AD (Ag _ _) ?_|refine AD (Mi) ?_)<;>conv=>whnf
    rw[<-vd];exact A9 [] (jh (0+1) false O' ⟨O',(λ h=>by cases h),y7⟩)
 ·rw[hb]at Hq
  have mg:IY n a i:=⟨hb,s3⟩;have n8 : ∀ r:AV,r = .c5 [.agg (SJ false (C9 D a) D ((2^i:Nat):Int) (D^(2^i+2^i-1))),.int .i64 0]->((∃ i,i<=6/\IY n a i/\r = .c5 [.agg (SJ false (C9 D a) D ((2^i:Nat):Int) (D^(2^i+2^i-1))),.int .i64 0])\/((∀ j,j<=6->DH (B8 n a j)=false)/\r = .c5 [.agg [.sl false [],.bool false,.sl false [],.sl false [],.int .i64 0,.bool false,.sl false [],.sl false []],.int .i64 14])):=λ r hr=>Or.inl ⟨i,s1,mg,hr⟩
  clear vd jh;generalize 2^i=P at *;cases fl
  ·repeat' (first|(apply BS;omega)|(apply FL;omega)|apply AE|refine AD (Hq _ _) ?_)<;>conv=>whnf
   refine DF (λ j=>P+P-1-j) (λ(j:Nat)=>j<=P+P-1) (λ j=>[(54,.int .i64 j)]) (λ j=>[(4,4,.bx ([.row 1000 0 1 0 n]++eQ D++[.int .i64 (P:Int)]++eQ (D^j)))]) [] [] 0 (by rw[zd];exact B') O' ?_;intro j t1 kh;by_cases hj:j<P+P-1
   ·have hl:=Mh j O'
    repeat' (first|(apply AG<;>intro hc<;>try omega)|(apply AP;omega)|apply AE|refine AD (hl) ?_)<;>conv=>whnf
    exact A9 [] (kh (j+1) O' O')
   have ej:j=P+P-1:=O'
   clear kh;rw[ej];repeat' (first|(apply AG<;>intro hc<;>try omega)|apply AE)<;>conv=>whnf
   refine ⟨.c5 [.agg (SJ false (C9 D a) D (P:Int) (D^(P+P-1))),.int .i64 0],?_,n8 _ rfl⟩;conv=>whnf
   refine C8 (enc:=λ r:K'=>[AV.sl false (r.map eQ)]) (λ_=>rfl) rfl Df.symm ?_;conv=>whnf
   exact AY rfl (kW _ _ _ _ 0)
  ·obtain rfl:=s2 rfl
   have nc:=Lz;rw[hb]at nc;(repeat' (apply AE<;>conv=>whnf))
   refine C8 (enc:=λ r:K'=>[AV.sl false (r.map eQ)]) (λ_=>rfl) rfl Df.symm ?_;conv=>whnf
   repeat' (first|(apply BS;omega)|(apply FL;omega)|refine AD (nc _ _) ?_)<;>conv=>whnf
   refine DF (λ j=>P+P-1-j) (λ(j:Nat)=>j<=P+P-1) (λ j=>[(54,.int .i64 j)]) (λ j=>[(4,4,.bx ([.row 1000 0 1 0 n]++eQ D++[.int .i64 (P:Int)]++eQ (D^j)))]) [] [] 0 (by rw[zd];exact B') O' ?_;intro j t1 kh;by_cases hj:j<P+P-1
   ·have hl:=Mh j O'
    repeat' (first|(apply AG<;>intro hc<;>try omega)|(apply AP;omega)|apply AE|refine AD (hl) ?_)<;>conv=>whnf
    exact A9 [] (kh (j+1) O' O')
   have ej:j=P+P-1:=O'
   clear kh;rw[ej];repeat' (first|(apply AG<;>intro hc<;>try omega)|apply AE)<;>conv=>whnf
   refine ⟨.c5 [.agg (SJ false (C9 D a) D (P:Int) (D^(P+P-1))),.int .i64 0],?_,n8 _ rfl⟩;conv=>whnf
   refine C8 (enc:=λ r:K'=>[AV.sl false (r.map eQ)]) (λ_=>rfl) rfl Df.symm ?_;conv=>whnf
   exact AY rfl (kW _ _ _ _ 0)
theorem xT (N:v7 L) (q q':Bool) (a:J') (n k:Nat) (hs:Sq n a) (ha:Ms k a) (hn:n<=4) (hk:k<=100000) :
  ∃ v,Ev L 306 [.sl q (DC q' a)] v/\((∃ i,i<=6/\IY n a i/\v = .c5 [.int .i64 ((2^i:Nat):Int),.int .i64 0])\/((∀ j,j<=6->DH (B8 n a j)=false)/\v = .c5 [.int .i64 0,.int .i64 14])):=by
 have y9:=hs.l;obtain ⟨v,hS,hv⟩:=Aif N q q' a n k hs ha hn hk;refine Ev.xE N.O8 rfl rfl ?_;repeat' (first|(apply AG<;>intro hc<;>try omega)|apply AR|apply AE)<;>conv=>whnf
 refine CE (λ i=>n-i) (λ(i:Nat)=>i<=n) (λ i=>[(13,.int .i64 i)]) (λ_=>[]) 0 O' ?_;intro i p1 ih;by_cases hi:i<n
 ·obtain ⟨r,hr⟩:=H' a i
  have ja:a[(i:Int).toNat]? = some r:=hr;have bh:=hs.at hr;repeat' (first|(apply AG<;>intro hc<;>try omega)|(apply AP;omega)|apply AR|(refine A4 V' ?_ rfl ?_;omega)|apply AE)<;>conv=>whnf
  exact A9 [] (ih (i+1) O' O')
 have ei:i=n:=O'
 clear ih;rcases hv with ⟨t,h1,h2,rfl⟩|⟨h1,rfl⟩
 ·repeat' (first|(apply AG<;>intro hc<;>try omega)|apply AE|refine AD (hS) ?_)<;>conv=>whnf
  exact ⟨_,AY rfl (by simp [A3,B7]),Or.inl ⟨t,h1,h2,rfl⟩⟩
 ·repeat' (first|(apply AG<;>intro hc<;>try omega)|apply AE|refine AD (hS) ?_)<;>conv=>whnf
  exact ⟨_,AY rfl (by simp [A3,B7]),Or.inr ⟨h1,rfl⟩⟩
def RN (n:Nt) (ts:List (Int × Int)):Bool:=ts.all λ t=>decide (t.2%pw n.c.f=0)
def ER (n:Nt) (nd:Nd):Rat:=if RN n nd.ts=true then 0 else if n.d.r=2 then kg 1 2 else 1
theorem Zu {n:Nt} {ts:List (Int × Int)} {i:Nat} {t:Int × Int} (h:ts[i]? = some t):RN n (ts.take (i+1))=(RN n (ts.take i)&&decide (t.2%pw n.c.f=0)):=by
 rw[Ob,h,Jc,RN,List.all_append];simp [RN]
theorem AhY (N:jc L) (n:Nt) (hn:N3 n) (k:Nat) (nd:Nd) (hnd:n.nodes[k]? = some nd):Ev L 350 [.agg (FG n),.int .i64 (k:Int)] (.agg (eQ (ER n nd))):=by
 obtain ⟨h1,h2,⟨h3a,h3b,h3c,h3d⟩,h4,h5,h6⟩:=(E7 n).1 hn.np;have Lw:=h2;unfold WV at Lw;have Ea:n.nodes[(k:Int).toNat]? = some nd:=hnd;have Gq:=GZ N.toa5 0 O';have Gr:=GZ N.toa5 1 O';have hF:=wW N.toq9 1 2 O' O' O';rw[show ((0:Int):Rat)=0 from rfl]at Gq;rw[show ((1:Int):Rat)=1 from rfl]at Gr;have vd:=HF n.c.f;have hC:=hn.cf _ (zM hnd);have Ff:=(zS hnd).1;have hL:nd.ts.length<=5:=by
  rcases hn.tl with h|⟨_,h⟩
  ·have:=h _ (zM hnd);omega
  ·exact h _ (zM hnd)
 refine Ev.x N.PB rfl rfl ?_;repeat' (first|(refine F3 ?_ (λ_ _ => ?_);omega)|apply AR|(refine A4 V' ?_ rfl ?_;omega)|apply AE)<;>conv=>whnf
 refine FJ (λ i _=>nd.ts.length-i) (λ(i:Nat) (b:Bool)=>i<=nd.ts.length/\b=RN n (nd.ts.take i)) (λ i b=>[(20,.int .i64 i),(6,.bool b)]) (λ_ _=>[]) 0 true ⟨O',by simp [RN]⟩ ?_;intro i b ⟨p1,p2⟩ ih;by_cases hi:i<nd.ts.length
 ·obtain ⟨t,ht⟩:=H' nd.ts i hi
  have nm:nd.ts[(i:Int).toNat]? = some t:=ht;have hw:=Zu (n:=n) ht;rw[<-p2]at hw;by_cases hz:t.2%pw n.c.f=0
  ·rw[decide_eq_true hz,je]at hw
   repeat' (first|(apply AG<;>intro hc<;>try omega)|(apply AP;omega)|(refine N2 ?_ (λ_ _ _ => ?_) (λ_ _ _ _ => ?_);omega;all_goals try omega)|(refine A4 V' ?_ rfl ?_;omega)|apply AE)<;>conv=>whnf
   exact A9 [] (ih (i+1) b O' ⟨O',hw.symm⟩)
  ·rw[decide_eq_false hz,Og]at hw
   repeat' (first|(apply AG<;>intro hc<;>try omega)|(apply AP;omega)|(refine N2 ?_ (λ_ _ _ => ?_) (λ_ _ _ _ => ?_);omega;all_goals try omega)|(refine A4 V' ?_ rfl ?_;omega)|apply AE)<;>conv=>whnf
   all_goals exact A9 [] (ih (i+1) false O' ⟨O',hw.symm⟩)
 have ei:i=nd.ts.length:=O'
 clear ih;rw[ei,Ie]at p2;cases b
 ·by_cases hr:n.d.r=2
  ·have e:ER n nd=kg 1 2:=by rw[ER,<-p2,if_neg Y',if_pos hr]
   rw[e];repeat' (first|(apply AG<;>intro hc<;>try omega)|apply AE|refine AD (hF) ?_)<;>conv=>whnf
   exact AY rfl (DK _)
  ·have e:ER n nd=1:=by rw[ER,<-p2,if_neg Y',if_neg hr]
   rw[e];repeat' (first|(apply AG<;>intro hc<;>try omega)|apply AE|refine AD (Gr) ?_)<;>conv=>whnf
   exact AY rfl (DK _)
 ·have e:ER n nd=0:=by rw[ER,<-p2,if_pos rfl]
  rw[e];repeat' (first|(apply AG<;>intro hc<;>try omega)|apply AE|refine AD (Gq) ?_)<;>conv=>whnf
  exact AY rfl (DK _)
theorem Ag5 (x:Rat):eQ (CW x)=[.bool false,.sl false ((dg x.num.natAbs).map AM),.sl false ((dg x.den).map AM)]:=by
 unfold CW;by_cases h:x.num<0
 ·rw[if_pos h]
  show rQ false false (decide ((-x).num<0)) _ _=_;rw[Hf,mf,Gf,show decide (-x.num<0)=false from decide_eq_false O']
 ·rw[if_neg h]
  show rQ false false (decide (x.num<0)) _ _=_;rw[show decide (x.num<0)=false from decide_eq_false h]
theorem Aiw (N:bn L) {x:Rat} {k:Nat} (hx:Bt k x) (hk:k<2199023255552):Ev L 309 [.agg (eQ x)] (.agg (eQ (CW x))):=by
 have hT:=fD N.toa6 hx hk;have hs:=hx.gf hk;have hR:=λ q=>G9 N.toa6 (dg x.num.natAbs) q (EF _) (by have:=hs.1.2;omega)
 rw[B2]at hR;have hA : ∀ b q,Ev L 308 [.agg [.bool b,.sl q ((dg x.num.natAbs).map AM)]] (.agg [.bool false,.sl false ((dg x.num.natAbs).map AM)]):=λ b q=>by
  refine Ev.x N.UD rfl rfl ?_;repeat' (first|apply AE|refine AD (hR _) ?_)<;>conv=>whnf
  exact AY rfl (uA _ _)
 have l9:=DK (CW x);rw[Ag5]at l9 ⊢;refine Ev.x N.UP rfl rfl ?_;repeat' (first|apply AE|refine AD (hT) ?_|refine AD (hA _ _) ?_)<;>conv=>whnf
 exact AY rfl l9
theorem AiA (N:bn L) (q q':Bool) (a:J') (n:Nat) (hs:Sq n a) (hn:n<=16):Ev L 310 [.sl q (DC q' a)] (.bool true):=by
 have y9:=hs.l;refine Ev.x N.PY rfl rfl ?_;(repeat' (apply AE<;>conv=>whnf))
 refine CE (λ i=>a.length-i) (λ(i:Nat)=>i<=a.length) (λ i=>[(3,.int .i64 i)]) (λ_=>[]) 0 O' ?_;intro i p1 ih;by_cases hi:i<a.length
 ·obtain ⟨r,hr⟩:=H' a i hi
  have ja:a[(i:Int).toNat]? = some r:=hr;have bh:=hs.at hr;repeat' (first|(apply AG<;>intro hc<;>try omega)|(apply AP;omega)|apply AR|(refine A4 V' ?_ rfl ?_;omega)|apply AE)<;>conv=>whnf
  exact A9 [] (ih (i+1) O' O')
 obtain rfl:i=a.length:=O'
 clear ih;repeat' (first|(apply AG<;>intro hc<;>try omega)|apply AR|apply AE)<;>conv=>whnf
 exact FB rfl
theorem Aiz (N:bn L) (q:Bool) (v:K') (k:Nat) (hv:Bs k v) (hn:v.length<=1000) (hk:k<=1000000000):Ev L 311 [.sl q (v.map eQ)] (.agg (eQ (BQ v))):=by
 have hO:=KE N.toa6 0 O';rw[show ((0:Int):Rat)=0 from rfl]at hO;refine Ev.x N.PX rfl rfl ?_;repeat' (first|apply AE|refine AD (hO) ?_)<;>conv=>whnf
 refine DF (λ i=>v.length-i) (λ(i:Nat)=>i<=v.length) (λ i=>[(4,.int .i64 i)]) (λ i=>[(3,3,.bx (eQ (BQ (v.take i))))]) [] [] 0 (by rw[show BQ (v.take 0)=0 from rfl];exact B') O' ?_;intro i p1 ih;by_cases hi:i<v.length
 ·obtain ⟨x,hx⟩:=H' v i hi
  have dv:v[(i:Int).toNat]? = some x:=hx;have hA:=Aiw N (hv.at hx) O';have hz:Bt (1000*(k+1)) (BQ (v.take i)):=(bU (hv.take i)).le (zR _ F');have hP:=QN N.toa6 hz (sX (hv.at hx)) O' O';rw[<-Yt hx]at hP;generalize BQ (v.take i)=w at *;generalize CW x=y at *;repeat' (first|(apply AG<;>intro hc<;>try omega)|(apply AP;omega)|apply AR|(refine A4 V' ?_ rfl ?_;omega)|apply AE|refine AD (hA) ?_|refine AD (hP) ?_)<;>conv=>whnf
  exact A9 [] (ih (i+1) O' O')
 obtain rfl:i=v.length:=O'
 clear ih;rw[zT (zb _)];repeat' (first|(apply AG<;>intro hc<;>try omega)|apply AR|apply AE)<;>conv=>whnf
 exact AY rfl (DK _)
end Go.c6
