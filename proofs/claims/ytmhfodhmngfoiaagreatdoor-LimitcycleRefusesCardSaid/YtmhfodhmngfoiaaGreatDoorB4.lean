/-
  The pauses of the walk, and how each goes on.
-/
import Derived.Test.YtmhfodhmngfoiaaGreatDoorB3
import Derived.Test.YtmhfodhmngfoiaaGreatDoorB1
set_option linter.unusedSimpArgs false
set_option linter.unusedVariables false
set_option linter.unnecessarySimpa false
set_option maxHeartbeats 4000000
open BitVec renaming ofInt->Hb,or_comm->je
open Bool renaming and_eq_true->za,false_and->ea,true_and->Ma
open Decidable renaming not_not->nf
open Function renaming comp_def->mf
open Int renaming toNat_natCast->va,emod_lt_of_pos->Qb,natAbs_mul->Kb,emod_nonneg->Gb,mul_le_mul_of_nonneg_left->Mc,natCast_mul->Kc,mul_nonneg->Ec,mul_le_mul->Dc,mul_assoc->ud,mul_add->ye,natAbs_natCast->ue,natAbs_add_le->re,natCast_emod->Qe,natCast_add->Ge,mul_comm->sf
open List renaming all_cons->ya,getD_eq_getElem?_getD->xa,drop_of_length_le->ua,replicate->sa,take_add_one->ma,all_eq_true->ga,map_cons->Qa,length_take->Na,mem_map->Ka,length_cons->Ea,drop_eq_getElem_cons->Ba,getElem?_map->yb,append_assoc->xb,drop_zero->vb,length_set->qb,length_replicate->ob,cons_append->mb,range->eb,mapM_cons->Pb,getElem?_set_ne->Jb,nil_append->Ib,mem_cons->zc,not_mem_nil->yc,length_map->tc,mem_cons_of_mem->nc,any_cons->jc,mem_cons_self->ic,all_nil->ec,eq_nil_of_length_eq_zero->Qc,drop_append_of_le_length->Pc,cons.injEq->Nc,getElem?_append_right->Ic,getElem?_append_left->Fc,map_take->Bc,map_drop->xd,take_append_drop->Od,set_append_right->Md,getElem?_eq_none->Ld,mem_of_mem_take->Jd,take_succ_cons->Cd,map_congr_left->Bd,drop_set_of_lt->ze,mem_singleton->ve,range_succ->de,mem_append->ae,map->Ie,map_set->Ce,map_nil->Be
open Nat renaming le_refl->na,mul_le_mul_left->ja,mul_add->Pa,pow_succ->Oa,zero_add->Ja,mul_assoc->Ia,mul_zero->Ha,add_zero->Ga,pow_add->Fa,lt_of_mul_lt_mul_left->zb,one_le_two_pow->rb,pow_le_pow_right->nb,min_eq_left->ib,eq_zero_or_pos->db,mul_le_mul->Nb,lt_trichotomy->Mb,blt->Eb,lt_of_le_of_lt->Cb,mul_comm->xc,lt_or_ge->wc,le_trans->uc,two_pow_pos->sc,mod_add_div->pc,le_of_ble_eq_true->oc,lt_of_lt_of_le->fc,mod_eq_of_lt->dc,add_mul->Oc,gcd->Jc,mod_lt->Hc,lt_of_mul_lt_mul_right->Gc,add_sub_cancel_left->td,succ_mul->kd,div_div_eq_div_mul->jd,beq->gd,add_comm->Qd,eq_of_beq_eq_true->Kd,pow_pos->Gd,add_mul_div_left->Ed,ble->te,div_le_self->Ke,div_add_mod->Je,sub->zf,mul_succ->xf,gcd_comm->tf,zero_le->qf,mul_pos->pf
open Option renaming some.injEq->ta,map_some->Ca,toList_some->jb,getD_some->Bb,map_eq_some_iff->Cc
open Prod renaming mk.injEq->De
open Rat renaming intCast_natCast->kc,intCast_mul->Lc,mul_assoc->vd,div_def->Hd,mkRat_mul_right->xe,divInt_ofNat->ie,num_intCast->Oe,intCast_inj->Me,den_intCast->Le,mkRat_self->Ee,mul_one->rf
namespace Go.e9
section
variable {α:Type} {enc:α->w_} {l:List α} {L:Lib}
theorem AG{p q A B:Prop}(h1:p->A)(h2:q->B):AF p q A B:=⟨h1,h2⟩
theorem A4{p A:Prop}(h1:p)(h2:A):AX p A:=⟨h1,h2⟩
section
variable {K:AV->Prop} {a b:Int} {k k':IntKind} {op:BinOp}
theorem dG{v:AV}(h:DM op k a k' b=some v)(hk:K v):AC op k a k' b K:=⟨v,h,hk⟩
theorem AR(hr:-9223372036854775808<=a+b/\a+b<=9223372036854775807)(hk:K (.int .i64 (a+b))):AC .add .i64 a .i64 b K:=⟨_,by simp only[DM,if_true];rw[IntWalk.i64_in _ hr],hk⟩
theorem BS(hr:-9223372036854775808<=a-b/\a-b<=9223372036854775807)(hk:K (.int .i64 (a-b))):AC .sub .i64 a .i64 b K:=⟨_,by simp only[DM,if_true];rw[IntWalk.i64_in _ hr],hk⟩
theorem GH(hr:-9223372036854775808<=a*b/\a*b<=9223372036854775807)(hk:K (.int .i64 (a*b))):AC .mul .i64 a .i64 b K:=⟨_,by simp only[DM,if_true];rw[IntWalk.i64_in _ hr],hk⟩
theorem ID(h:0<=b/\b<=62)(hk:1<=pw b->pw b<=4611686018427387904->K (.int .i64 (pw b))):AC .shl .i64 1 k' b K:=⟨_,Ane h,hk (G2 b) (iX h.2)⟩
theorem tY(h:0<=b/\b<=62)(hk:0<=a%pw b->a%pw b<pw b->K (.int .i64 (a%pw b))):AC .and .i64 a .i64 (pw b-1) K:=⟨_,uR rfl h,hk (Gb _ (by have:=G2 b;omega)) (Qb _ (by have:=G2 b;omega))⟩
theorem I9(hb:0<b)(h1:(0<=a\/a%b=0)->0<=a%b->a%b<b->K (.int .i64 (a%b)))(h2:a<0->a%b≠0->0<=a%b->a%b<b->K (.int .i64 (a%b-b))):AC .rem .i64 a .i64 b K:=by
 have h5:0<=a%b:=Gb _ O';have h6:a%b<b:=Qb _ hb;have e:DM .rem .i64 a .i64 b=some (.int .i64 (a.tmod b)):=by simp only[DM];rw[if_pos ⟨trivial,O'⟩]
 by_cases hc:0<=a\/a%b=0
 ·rw[Zq hb,if_pos hc]at e
  exact⟨_,e,h1 hc h5 h6⟩
 ·rw[Zq hb,if_neg hc]at e
  exact⟨_,e,h2 O' O' h5 h6⟩
theorem KV(hb:0<b)(ha:-9223372036854775808<=a/\a<=9223372036854775807)(h1:(0<=a\/a%b=0)->K (.int .i64 (a/b)))(h2:a<0->a%b≠0->K (.int .i64 (a/b+1))):AC .quo .i64 a .i64 b K:=by
 have hr:=Aih (m:=b) O' ha;have e:DM .quo .i64 a .i64 b=some (.int .i64 (IntKind.i64.wrap (a.tdiv b))):=by simp only[DM];rw[if_pos ⟨trivial,O'⟩]
 by_cases hc:0<=a\/a%b=0
 ·rw[Zn hb,if_pos hc,IntWalk.i64_in _ hr]at e
  exact⟨_,e,h1 hc⟩
 ·have ACd:a/b<0:=Int.ediv_neg_of_neg_of_pos O' hb
  rw[Zn hb,if_neg hc,IntWalk.i64_in _ O']at e;exact⟨_,e,h2 O' O'⟩
theorem uD(h:0<=b/\b<=63)(hk:K (.int .i64 (a/pw b))):AC .shr .i64 a k' b K:=⟨_,Anf h,hk⟩
theorem Ae7(hk:K (.int .i64 (a%2))):AC .and .i64 a .i64 1 K:=⟨_,Af3,hk⟩
theorem kQ(hk:K (.int k (k.wrap (a+b)))):AC .add k a k b K:=⟨_,by simp only[DM,if_true],hk⟩
theorem ZV(hk:K (.int k (k.wrap (a-b)))):AC .sub k a k b K:=⟨_,by simp only[DM,if_true],hk⟩
theorem uF(hk:K (.int k (k.wrap (a*b)))):AC .mul k a k b K:=⟨_,by simp only[DM,if_true],hk⟩
theorem B4.neg(hr:-9223372036854775808 <= -a/\-a<=9223372036854775807)(hk:K (.int .i64 (-a))):B4 .neg .i64 a K:=⟨_,by simp only[U0];rw[show(0:Int)-a = -a by omega,IntWalk.i64_in _ hr],hk⟩
theorem B4.go{op:UnOp}{v:AV}(h:U0 op (.int k a)=some v)(hk:K v):B4 op k a K:=⟨v,h,hk⟩
end
theorem ZP{k:IntKind}{n:Int}{K:Int->Prop}(e:k.wrap n=n)(h:K n):A0 k n K:=⟨by rw[e];exact h⟩
theorem B7{n:Int}{K:Int->Prop}(hr:0<=n/\n<=18446744073709551615)(h:K n):A0 .u64 n K:=ZP (IntWalk.u64_in _ hr) h
theorem RS{n:Int}{K:Int->Prop}(hr:-9223372036854775808<=n/\n<=9223372036854775807)(h:K n):A0 .i64 n K:=ZP (IntWalk.i64_in _ hr) h
theorem A5{a:Int}{z:Nat}{K:w_->Prop}{e:α}(he:l[a.toNat]?=some e)(h0:0<=a)(hz:(enc e).length=z)(h:K (enc e)):AU (l.map enc) a z K:=⟨h0,enc e,by simp[he],hz,h⟩
theorem RY{a:Int}{z:Nat}{K:w_->Prop}(h0:0<=a/\a<l.length)(hz:∀e,(enc e).length=z)(h:∀e,l[a.toNat]?=some e->K (enc e)):AU (l.map enc) a z K:=by
 have he:l[a.toNat]?=some (l[a.toNat]' O'):=zE _;exact A5 he h0.1 (hz _) (h _ he)
theorem IR{n z:Nat}{K:w_->Prop}(hn:n<l.length)(hz:∀e,(enc e).length=z)(h:∀e,l[n]?=some e->K (enc e)):AU (l.map enc) (n:Int) z K :=
 RY ⟨O',O'⟩ hz h
theorem VE{i j n:Nat}{K:w_->Prop}{f:α->w_}(hi:i<l.length)(hp:∀e,part (enc e) j n=some (f e))(h:∀e,l[i]?=some e->K (f e)):A7 (l.map enc) (0+((i:Int)).toNat) j n K:=by
 have he:l[i]?=some l[i]:=zE _;rw[Ja,va];exact⟨enc l[i],f l[i],by simp[he],hp _,h _ he⟩
theorem kL{i:Int}{j n:Nat}{K:w_->Prop}{f:α->w_}(hi:0<=i/\i<l.length)(hp:∀e,part (enc e) j n=some (f e))(h:∀e,l[i.toNat]?=some e->K (f e)):A7 (l.map enc) (0+i.toNat) j n K:=by
 have hl:i.toNat<l.length:=O'
 have he:l[i.toNat]?=some l[i.toNat]:=zE _;rw[Ja];exact⟨enc l[i.toNat],f l[i.toNat],by rw[yb,he];rfl,hp _,h _ he⟩
theorem H4{i:Nat}{vs:w_}{K:v_->Prop}(e:α)(he:vs=enc e)(hz:∀x,(enc x).length=vs.length)(hi:i<l.length)(h:K ((l.set i e).map enc)):A8 (l.map enc) (0+((i:Int)).toNat) 0 vs K:=by
 rw[Ja,va];refine⟨enc l[i],by simp[zE hi],by rw[hz];omega,?_⟩;rw[show splice (enc l[i]) 0 vs=vs by simp[splice,<-hz l[i]],he,<-Ce];exact h
theorem F6{i j n:Nat}{K:w_->Prop}{e:α}{ds:w_}(he:l[i]?=some e)(hp:part (enc e) j n=some ds)(h:K ds):A7 (l.map enc) i j n K:=⟨enc e,ds,by simp[he],hp,h⟩
theorem Anr{cs vs:w_}(h:cs.length=vs.length):splice cs 0 vs=vs:=by
 simp[splice,<-h]
theorem Afp{i:Nat}{vs:w_}{K:v_->Prop}(e:α)(he:vs=enc e)(hz:∀x,(enc x).length=vs.length)(hi:i<l.length)(h:K ((l.set i e).map enc)):A8 (l.map enc) i 0 vs K:=by
 refine⟨enc l[i],by simp[zE hi],by rw[hz];omega,?_⟩;rw[Anr (hz _),he,<-Ce];exact h
theorem FJ{a b:Int}{bytes:Nat}{zero:w_}{K:v_->Nat->Prop}(x:α)(n:Nat)(hx:zero=enc x)(hn:a=n)(hr:a<=b/\b*bytes<=140737488355328/\b<=9223372036854775807)(h:K ((sa n x).map enc) n):BV a b bytes zero K:=by
 subst hn hx;refine⟨⟨O',hr.1,by simpa [E7]using hr.2.1,hr.2.2⟩,?_⟩;simpa using h
theorem Ae6{a b:Int}{bytes:Nat}{zero:w_}{K:v_->Nat->Prop}(x:α)(hx:zero=enc x)(h0:0<=a)(hr:a<=b/\b*bytes<=140737488355328/\b<=9223372036854775807)(h:K ((sa a.toNat x).map enc) a.toNat):BV a b bytes zero K:=by
 subst hx;refine⟨⟨h0,hr.1,by simpa [E7]using hr.2.1,hr.2.2⟩,?_⟩;simpa using h
theorem AP{K:Nat->Prop}(h:K l.length):AM (l.map enc) K:=⟨by simpa using h⟩
theorem DH{len z bytes:Nat}{vs:w_}{K:v_->Nat->Prop}(e:α)(he:vs=enc e)(hl:len=l.length)(hz:vs.length=z)(hr:(l.length+1)*bytes<=140737488355328)(dn:l.length+1<=9223372036854775807)(h:K ((l++[e]).map enc) (l++[e]).length):BI (l.map enc) len [vs] z bytes K:=by
 subst hl;refine⟨Z',by simpa using hz,by simpa [E7]using hr,by simpa using dn,?_⟩;rw[zT Z'];simpa [he]using h
theorem XJ{len z bytes:Nat}{l':List α}{K:v_->Nat->Prop}(hl:len=l.length)(hz:∀x,(enc x).length=z)(hr:(l.length+l'.length)*bytes<=140737488355328)(dn:l.length+l'.length<=9223372036854775807)(h:K ((l++l').map enc) (l++l').length):BI (l.map enc) len (l'.map enc) z bytes K:=by
 subst hl;refine⟨Z',by simp[hz],by simpa [E7]using hr,by simpa using dn,?_⟩;rw[zT Z'];simpa using h
theorem MH{z bytes:Nat}{vs:w_}{K:v_->Nat->Prop}(e:α)(he:vs=enc e)(hz:vs.length=z)(hb:bytes<=140737488355328)(h:K ([e].map enc) 1):B0 [vs] z bytes K :=
 ⟨by simpa using hz,by simpa [E7]using hb,Z',by simpa [he]using h⟩
theorem RQ{z bytes:Nat}{K:v_->Nat->Prop}(hz:∀x,(enc x).length=z)(hr:l.length*bytes<=140737488355328)(dn:l.length<=9223372036854775807)(h:K (l.map enc) l.length):B0 (l.map enc) z bytes K :=
 ⟨by simp[hz],by simpa [E7]using hr,by simpa using dn,by simpa using h⟩
theorem Afl{off len:Nat}{K:v_->Prop}(ho:off=0)(hl:len=l.length)(h:K (l.map enc)):BG (l.map enc) off len K:=by
 subst hl ho;exact⟨Z',by rw[vb,zT Z'];exact h⟩
theorem dO{off len:Nat}{K:v_->Prop}(hl:off+len<=l.length)(h:K (((l.drop off).take len).map enc)):BG (l.map enc) off len K :=
 ⟨by simpa using hl,by rw[<-xd,<-Bc];exact h⟩
theorem qD:∀{e:w_},HJ e=true->N7 e=true/\e.map nl=e
 |[],_=>⟨rfl,rfl⟩
 |v::r,h=>by
  have hv:HJ r=true:=by cases v<;>simp only[HJ]at h<;>first|cases h|exact h
  obtain⟨h1,h2⟩:=qD hv;cases v<;>simp only[HJ]at h<;>first|cases h|exact⟨h1,by rw[Qa,h2];rfl⟩
theorem Acc:∀{es:v_},(∀e∈es,HJ e=true)->es.map (λe=>e.map nl)=es
 |[],_=>rfl
 |e::r,h=>by rw[Qa,(qD (h e ic)).2,Acc λx hx=>h x (nc _ hx)]
theorem dP{es:v_}{off len:Nat}{K:v_->Prop}(hl:off+len<=es.length)(hz:∀e∈es,HJ e=true)(h:K ((es.drop off).take len)):A1 es off len K :=
 ⟨hl,λe he=>(qD (hz e he)).1,by rw[Acc λe he=>hz e (List.mem_of_mem_drop (Jd he))];exact h⟩
theorem C6{off len:Nat}{K:v_->Prop}(hz:∀x,HJ (enc x)=true)(ho:off=0)(hl:len=l.length)(h:K (l.map enc)):A1 (l.map enc) off len K:=by
 subst hl ho;refine dP Z' (λe he=>?_) (by rw[vb,zT Z'];exact h);obtain⟨x,_,rfl⟩:=Ka.1 he;exact hz x
theorem H3{off len:Nat}{K:v_->Prop}(hz:∀x,HJ (enc x)=true)(hl:off+len<=l.length)(h:K (((l.drop off).take len).map enc)):A1 (l.map enc) off len K:=by
 refine dP (by simpa using hl) (λe he=>?_) (by rw[<-xd,<-Bc];exact h);obtain⟨x,_,rfl⟩:=Ka.1 he;exact hz x
theorem CT{e:w_}{K:v_->Prop}(h:K [e]):BG [e] 0 1 K:=⟨Z',h⟩
theorem JP{e:w_}{K:v_->Prop}(h0:HJ e=true)(h:K [e]):A1 [e] 0 1 K:=dP Z' (by simpa using h0) h
theorem ZZ{e e':w_}{K:v_->Prop}(h0:HJ e=true)(h1:HJ e'=true)(h:K [e,e']):A1 [e,e'] 0 2 K:=dP Z' (by simpa using⟨h0,h1⟩) h
section
variable {β:Type} {z:Nat} {ll:List (List β)} {en:β->w_}
abbrev E2(z:Nat)(en:β->w_)(ll:List (List β)):List (p_):=ll.map λr=>some (z,r.map en)
theorem Ae4{i:Nat}{K:p_->Prop}(hi:i<ll.length)(h:∀r,ll[i]?=some r->K (some (z,r.map en))):CG (E2 z en ll) (0+((i:Int)).toNat) K:=by
 have he:ll[i]?=some ll[i]:=zE _;exact⟨_,by rw[Ja,va,yb,he];rfl,h _ he⟩
theorem Ae3{i:Int}{K:p_->Prop}(hi:0<=i/\i<ll.length)(h:∀r,ll[i.toNat]?=some r->K (some (z,r.map en))):CG (E2 z en ll) (0+i.toNat) K:=by
 have hl:i.toNat<ll.length:=O'
 have he:ll[i.toNat]?=some ll[i.toNat]:=zE _;exact⟨_,by rw[Ja,yb,he];rfl,h _ he⟩
theorem tT{i:Nat}{K:Nat->v_->Prop}{r:List β}(hr:ll[i]?=some r)(h:K z (r.map en)):B3 (E2 z en ll) i K :=
 ⟨z,r.map en,by rw[yb,hr];rfl,h⟩
theorem Ae0{i:Nat}{K:Nat->v_->Prop}{r:List β}(hr:ll[i]?=some r)(h:K z (r.map en)):B3 (E2 z en ll) (0+((i:Int)).toNat) K:=by
 rw[Ja,va];exact tT hr h
theorem Ae1{i:Int}{K:Nat->v_->Prop}{r:List β}(hr:ll[i.toNat]?=some r)(h:K z (r.map en)):B3 (E2 z en ll) (0+i.toNat) K:=by
 rw[Ja];exact tT hr h
theorem ZM{len bytes:Nat}{r:List β}{K:List (p_)->Nat->Prop}(hl:len=ll.length)(hr:(ll.length+1)*bytes<=140737488355328)(dn:ll.length+1<=9223372036854775807)(h:K (E2 z en (ll++[r])) (ll++[r]).length):CO (E2 z en ll) len (some (z,r.map en)) bytes K:=by
 subst hl;exact⟨Z',by simpa [E7]using hr,dn,by simpa [E2]using h⟩
theorem AeP{rows:List (p_)}{len bytes:Nat}{r:p_}{K:List (p_)->Nat->Prop}(hl:len=rows.length)(hr:(rows.length+1)*bytes<=140737488355328)(dn:rows.length+1<=9223372036854775807)(h:K (rows++[r]) (rows++[r]).length):CO rows len r bytes K:=by
 subst hl;exact⟨rfl,by simpa [E7]using hr,dn,by simpa using h⟩
theorem Xd(q:Bool):∀ll:List (List β),MA q (E2 z en ll)=ll.map λr=>[AV.sl q (r.map en)]
 |[]=>rfl
 |r::l=>by simp only[E2,Qa,MA];rw[show MA q (l.map λr=>some (z,r.map en))=_ from Xd q l]
theorem VH{q:Bool}{off len:Nat}{K:v_->Prop}(hz:∀x,HJ (en x)=true)(ho:off=0)(hl:len=ll.length)(h:K (ll.map λr=>[AV.sl q (r.map en)])):CJ q (E2 z en ll) off len K:=by
 refine⟨ho,by simpa using hl,λz' es hm e he=>?_,by rw[Xd];exact h⟩;obtain⟨r,_,hr⟩:=Ka.1 hm;simp only[ta,De]at hr;obtain⟨rfl,rfl⟩:=hr;obtain⟨x,_,rfl⟩:=Ka.1 he;exact hz x
end
theorem ZN{len:Nat}{a:Int}{K:Nat->Nat->Prop}(h0:0<=a/\a<=len)(h:K a.toNat len):BU (some a) none len K:=⟨a.toNat,len,⟨h0.1,rfl⟩,rfl,O',h⟩
theorem AeQ{len:Nat}{b:Int}{K:Nat->Nat->Prop}(h0:0<=b/\b<=len)(h:K 0 b.toNat):BU none (some b) len K:=⟨0,b.toNat,rfl,⟨h0.1,h0.2,rfl⟩,O',h⟩
theorem AeR{len:Nat}{a b:Int}{K:Nat->Nat->Prop}(h0:0<=a/\a<=b/\b<=len)(h:K a.toNat b.toNat):BU (some a) (some b) len K:=⟨a.toNat,b.toNat,⟨h0.1,rfl⟩,⟨O',O',rfl⟩,O',h⟩
theorem uI{z:Nat}{lo hi:Option Int}{K:v_->Prop}(hz:∀x,(enc x).length=z)(h:BU lo hi l.length λa h=>K (((l.take h).drop a).map enc)):CB z (l.map enc) lo hi K:=by
 refine⟨by simp[hz],?_⟩;rw[tc];obtain⟨a,b,h1,h2,h3,h4⟩:=h;refine⟨a,b,h1,h2,h3,?_⟩;show K _;rw[<-Bc,<-xd];exact h4
theorem QS{z k:Nat}{K:v_->Prop}(hz:∀x,(enc x).length=z)(hk:k<=l.length)(h:K ((l.take k).map enc)):CB z (l.map enc) none (some (k:Int)) K :=
 uI hz (AeQ O' (by simpa using h))
theorem Afn{z k:Nat}{K:v_->Prop}(hz:∀x,(enc x).length=z)(hk:k<=l.length)(h:K ((l.drop k).map enc)):CB z (l.map enc) (some (k:Int)) none K :=
 uI hz (ZN O' (by simpa using h))
theorem AD{f:Nat}{vs:w_}{K:AV->Prop}{r:AV}(h:Ev L f vs r)(hk:K r):AB L f vs K:=⟨r,h,hk⟩
theorem EN{f:Nat}{vs:w_}{K:AV->Prop}{p:Prop}[Decidable p](h:Ev L f vs (.bool (decide p)))(h1:p->K (.bool true))(h2:¬p->K (.bool false)):AB L f vs K:=by
 refine⟨_,h,?_⟩;by_cases e:p
 ·rw[decide_eq_true e];exact h1 e
 ·rw[decide_eq_false e];exact h2 e
theorem ZO{f:Nat}{vs:w_}{K:AV->Prop}{b:Bool}(h:Ev L f vs (.bool b))(h1:b=true->K (.bool true))(h2:b=false->K (.bool false)):AB L f vs K:=by
 refine⟨_,h,?_⟩;cases b
 ·exact h2 rfl
 ·exact h1 rfl
theorem AW{a r:AV}(h:a=r)(hc:AY r):AH a r:=⟨h,hc⟩
theorem E9{a r:Bool}(h:a=r):AH (.bool a) (.bool r):=⟨by rw[h],by simp[AY]⟩
theorem QK{p:Prop}[Decidable p](h:p):AH (.bool true) (.bool (decide p)):=⟨by simp[h],by simp[AY]⟩
theorem MJ{p:Prop}[Decidable p](h:¬p):AH (.bool false) (.bool (decide p)):=⟨by simp[h],by simp[AY]⟩
theorem BP{k:IntKind}{a b:Int}(h:a=b):AH (.int k a) (.int k b):=⟨by rw[h],by simp[AY]⟩
theorem L2(h:∀x,BK (enc x)):∀l:List α,DR (l.map enc)
 |[]=>by simp[DR]
 |x::r=>by rw[Qa,DR];exact⟨h x,L2 h r⟩
end
theorem KX(l:List Int):DR (l.map AZ):=L2 (λ_=>by simp[BK,AY]) l
theorem EA{α:Type}{L:Lib}{k:List It}{cd:BH}{tm:Tm}{M:Mem}{Q:Tm->Mem->Prop}(m:α->Nat)(P:α->Prop)(vs:α->Tm)(Ms:α->Mem)(ts:u_)(τ:List (Nat×Nat))(a:α)
  (he:LU τ tm M (vs a++aj ts tm) (Ms a++M)) (hp:P a)
  (step:∀a,P a->(∀a',m a'<m a->P a'->AA L (.lp cd::k) (vs a'++aj ts tm) (Ms a'++M) Q)->AA L (.code cd :: .lp cd::k) (vs a++aj ts tm) (Ms a++M) Q):AA L (.lp cd::k) tm M Q :=
 XH (α:=α) (λx=>m x) (λx=>P x) (λx=>vs x) (λx=>Ms x) ts τ a he hp λa h ih=>step a h λa' h1 h2=>ih a' h1 h2
theorem ZL{α β:Type}{L:Lib}{k:List It}{cd:BH}{tm:Tm}{M:Mem}{Q:Tm->Mem->Prop}(m:α->β->Nat)(P:α->β->Prop)(vs:α->β->Tm)(Ms:α->β->Mem)(ts:u_)(τ:List (Nat×Nat))(a:α)(b:β)
  (he:LU τ tm M (vs a b++aj ts tm) (Ms a b++M)) (hp:P a b)
  (step:∀a b,P a b->(∀a' b',m a' b'<m a b->P a' b'->AA L (.lp cd::k) (vs a' b'++aj ts tm) (Ms a' b'++M) Q)->AA L (.code cd :: .lp cd::k) (vs a b++aj ts tm) (Ms a b++M) Q):AA L (.lp cd::k) tm M Q :=
 XH (α:=α×β) (λx=>m x.1 x.2) (λx=>P x.1 x.2) (λx=>vs x.1 x.2) (λx=>Ms x.1 x.2) ts τ (a,b) he hp λ⟨a,b⟩ h ih=>step a b h λa' b' h1 h2=>ih (a',b') h1 h2
theorem Aei{α β γ:Type}{L:Lib}{k:List It}{cd:BH}{tm:Tm}{M:Mem}{Q:Tm->Mem->Prop}(m:α->β->γ->Nat)(P:α->β->γ->Prop)(vs:α->β->γ->Tm)(Ms:α->β->γ->Mem)(ts:u_)(τ:List (Nat×Nat))(a:α)(b:β)(c:γ)
  (he:LU τ tm M (vs a b c++aj ts tm) (Ms a b c++M)) (hp:P a b c)
  (step:∀a b c,P a b c->(∀a' b' c',m a' b' c'<m a b c->P a' b' c'->AA L (.lp cd::k) (vs a' b' c'++aj ts tm) (Ms a' b' c'++M) Q)->AA L (.code cd :: .lp cd::k) (vs a b c++aj ts tm) (Ms a b c++M) Q):AA L (.lp cd::k) tm M Q :=
 XH (α:=α×β×γ) (λx=>m x.1 x.2.1 x.2.2) (λx=>P x.1 x.2.1 x.2.2) (λx=>vs x.1 x.2.1 x.2.2) (λx=>Ms x.1 x.2.1 x.2.2) ts τ (a,b,c) he hp λ⟨a,b,c⟩ h ih=>step a b c h λa' b' c' h1 h2=>ih (a',b',c') h1 h2
theorem tF{α β γ δ:Type}{L:Lib}{k:List It}{cd:BH}{tm:Tm}{M:Mem}{Q:Tm->Mem->Prop}(m:α->β->γ->δ->Nat)(P:α->β->γ->δ->Prop)(vs:α->β->γ->δ->Tm)(Ms:α->β->γ->δ->Mem)(ts:u_)(τ:List (Nat×Nat))(a:α)(b:β)(c:γ)(d:δ)
  (he:LU τ tm M (vs a b c d++aj ts tm) (Ms a b c d++M)) (hp:P a b c d)
  (step:∀a b c d,P a b c d->(∀a' b' c' d',m a' b' c' d'<m a b c d->P a' b' c' d'->AA L (.lp cd::k) (vs a' b' c' d'++aj ts tm) (Ms a' b' c' d'++M) Q)->AA L (.code cd :: .lp cd::k) (vs a b c d++aj ts tm) (Ms a b c d++M) Q):AA L (.lp cd::k) tm M Q :=
 XH (α:=α×β×γ×δ) (λx=>m x.1 x.2.1 x.2.2.1 x.2.2.2) (λx=>P x.1 x.2.1 x.2.2.1 x.2.2.2) (λx=>vs x.1 x.2.1 x.2.2.1 x.2.2.2) (λx=>Ms x.1 x.2.1 x.2.2.1 x.2.2.2) ts τ (a,b,c,d) he hp λ⟨a,b,c,d⟩ h ih=>step a b c d h λa' b' c' d' h1 h2=>ih (a',b',c',d') h1 h2
theorem Aej{α β γ δ ε:Type}{L:Lib}{k:List It}{cd:BH}{tm:Tm}{M:Mem}{Q:Tm->Mem->Prop}(m:α->β->γ->δ->ε->Nat)(P:α->β->γ->δ->ε->Prop)(vs:α->β->γ->δ->ε->Tm)(Ms:α->β->γ->δ->ε->Mem)(ts:u_)(τ:List (Nat×Nat))(a:α)(b:β)(c:γ)(d:δ)(e:ε)
  (he:LU τ tm M (vs a b c d e++aj ts tm) (Ms a b c d e++M)) (hp:P a b c d e)
  (step:∀a b c d e,P a b c d e->(∀a' b' c' d' e',m a' b' c' d' e'<m a b c d e->P a' b' c' d' e'->AA L (.lp cd::k) (vs a' b' c' d' e'++aj ts tm) (Ms a' b' c' d' e'++M) Q)->AA L (.code cd :: .lp cd::k) (vs a b c d e++aj ts tm) (Ms a b c d e++M) Q):AA L (.lp cd::k) tm M Q :=
 XH (α:=α×β×γ×δ×ε) (λx=>m x.1 x.2.1 x.2.2.1 x.2.2.2.1 x.2.2.2.2) (λx=>P x.1 x.2.1 x.2.2.1 x.2.2.2.1 x.2.2.2.2) (λx=>vs x.1 x.2.1 x.2.2.1 x.2.2.2.1 x.2.2.2.2) (λx=>Ms x.1 x.2.1 x.2.2.1 x.2.2.2.1 x.2.2.2.2) ts τ (a,b,c,d,e) he hp λ⟨a,b,c,d,e⟩ h ih=>step a b c d e h λa' b' c' d' e' h1 h2=>ih (a',b',c',d',e') h1 h2
theorem Aek{α β γ δ ε ζ:Type}{L:Lib}{k:List It}{cd:BH}{tm:Tm}{M:Mem}{Q:Tm->Mem->Prop}(m:α->β->γ->δ->ε->ζ->Nat)(P:α->β->γ->δ->ε->ζ->Prop)(vs:α->β->γ->δ->ε->ζ->Tm)(Ms:α->β->γ->δ->ε->ζ->Mem)(ts:u_)(τ:List (Nat×Nat))(a:α)(b:β)(c:γ)(d:δ)(e:ε)(f:ζ)
  (he:LU τ tm M (vs a b c d e f++aj ts tm) (Ms a b c d e f++M)) (hp:P a b c d e f)
  (step:∀a b c d e f,P a b c d e f->(∀a' b' c' d' e' f',m a' b' c' d' e' f'<m a b c d e f->P a' b' c' d' e' f'->AA L (.lp cd::k) (vs a' b' c' d' e' f'++aj ts tm) (Ms a' b' c' d' e' f'++M) Q)->AA L (.code cd :: .lp cd::k) (vs a b c d e f++aj ts tm) (Ms a b c d e f++M) Q):AA L (.lp cd::k) tm M Q :=
 XH (α:=α×β×γ×δ×ε×ζ) (λx=>m x.1 x.2.1 x.2.2.1 x.2.2.2.1 x.2.2.2.2.1 x.2.2.2.2.2) (λx=>P x.1 x.2.1 x.2.2.1 x.2.2.2.1 x.2.2.2.2.1 x.2.2.2.2.2) (λx=>vs x.1 x.2.1 x.2.2.1 x.2.2.2.1 x.2.2.2.2.1 x.2.2.2.2.2) (λx=>Ms x.1 x.2.1 x.2.2.1 x.2.2.2.1 x.2.2.2.2.1 x.2.2.2.2.2) ts τ (a,b,c,d,e,f) he hp λ⟨a,b,c,d,e,f⟩ h ih=>step a b c d e f h λa' b' c' d' e' f' h1 h2=>ih (a',b',c',d',e',f') h1 h2
theorem DG{α:Type}{L:Lib}{k:List It}{cd:BH}{tm:Tm}{M:Mem}{Q:Tm->Mem->Prop}(m:α->Nat)(P:α->Prop)(vs:α->Tm)(Ms:α->Mem)(a:α)
  (hp:P a)
  (step:∀a,P a->(∀a',m a'<m a->P a'->AA L (.lp cd::k) (vs a'++aj [] tm) (Ms a'++M) Q)->AA L (.code cd :: .lp cd::k) (vs a++aj [] tm) (Ms a++M) Q)
  (he:LU [] tm M (vs a++aj [] tm) (Ms a++M):=by(conv=>whnf);exact⟨rfl,rfl,rfl⟩):AA L (.lp cd::k) tm M Q :=
 EA m P vs Ms [] [] a he hp step
theorem EE{α β:Type}{L:Lib}{k:List It}{cd:BH}{tm:Tm}{M:Mem}{Q:Tm->Mem->Prop}(m:α->β->Nat)(P:α->β->Prop)(vs:α->β->Tm)(Ms:α->β->Mem)(a:α)(b:β)
  (hp:P a b)
  (step:∀a b,P a b->(∀a' b',m a' b'<m a b->P a' b'->AA L (.lp cd::k) (vs a' b'++aj [] tm) (Ms a' b'++M) Q)->AA L (.code cd :: .lp cd::k) (vs a b++aj [] tm) (Ms a b++M) Q)
  (he:LU [] tm M (vs a b++aj [] tm) (Ms a b++M):=by(conv=>whnf);exact⟨rfl,rfl,rfl⟩):AA L (.lp cd::k) tm M Q :=
 ZL m P vs Ms [] [] a b he hp step
theorem F5{α β γ:Type}{L:Lib}{k:List It}{cd:BH}{tm:Tm}{M:Mem}{Q:Tm->Mem->Prop}(m:α->β->γ->Nat)(P:α->β->γ->Prop)(vs:α->β->γ->Tm)(Ms:α->β->γ->Mem)(a:α)(b:β)(c:γ)
  (hp:P a b c)
  (step:∀a b c,P a b c->(∀a' b' c',m a' b' c'<m a b c->P a' b' c'->AA L (.lp cd::k) (vs a' b' c'++aj [] tm) (Ms a' b' c'++M) Q)->AA L (.code cd :: .lp cd::k) (vs a b c++aj [] tm) (Ms a b c++M) Q)
  (he:LU [] tm M (vs a b c++aj [] tm) (Ms a b c++M):=by(conv=>whnf);exact⟨rfl,rfl,rfl⟩):AA L (.lp cd::k) tm M Q :=
 Aei m P vs Ms [] [] a b c he hp step
theorem AE{L:Lib}{Q:Tm->Mem->Prop}{c:BH}{k:List It}{tm:Tm}{M:Mem}(h:fT (xp 0 tm) λtm=>YQ M λM=>XK L Q 500 (.code c::k) tm M):AA L (.code c::k) tm M Q:=by
 rw[YE,gZ]at h;exact tE (kT h)
end Go.e9
namespace Go.e9
open F
attribute [local irreducible] AA AF AX AC B4 AU A7 A8 BV BI B0 DS BG A1 BU CB AB A2 AH pw CG B3 CR DK C2 CO CJ BL CY C3 C4 CX C7
variable {L:Lib}
def DJ(n:Int):Prop := -9223372036854775808<=n/\n<=9223372036854775807
structure Wd where
 b:Int
 f:Int
 r:Int
 o:Int
abbrev H6(w:Wd):w_:=[.int .i64 w.b,.int .i64 w.f,.int .i64 w.r,.int .i64 w.o]
theorem fQ(I:a8 L)(r:Int):Ev L 1 [.int .i64 r] (.bool (decide (1<=r/\r<=3))):=by
 refine Ev.x I.SL rfl rfl ?_;repeat' (first|apply AG<;>intro hc<;>try omega|apply AE)<;>conv=>whnf
 all_goals (first|exact QK O'|exact MJ O')
theorem MR(I:a8 L)(v a b:Int):Ev L 10 [.int .i64 v,.int .i64 a,.int .i64 b] (.bool (decide (a<=v/\v<=b))):=by
 refine Ev.x I.UK rfl rfl ?_;repeat' (first|apply AG<;>intro hc<;>try omega|apply AE)<;>conv=>whnf
 all_goals (first|exact QK O'|exact MJ O')
def WV(w:Wd):Prop:=4<=w.b/\w.b<=24/\0<=w.f/\w.f<w.b/\1<=w.r/\w.r<=3/\1<=w.o/\w.o<=2
instance (w:Wd):Decidable (WV w) := by unfold WV; infer_instance
variable (w:Wd)
theorem aK(I:a8 L):Ev L 2 [.agg (H6 w)] (.bool (decide (WV w))):=by
 refine Ev.x I.SJ rfl rfl ?_;repeat' (first|apply AG<;>intro hc<;>try omega|apply AE|refine EN (fQ I _) (λhf=>?_) (λhf=>?_))<;>conv=>whnf
 all_goals (unfold WV;first|exact QK O'|exact MJ O')
theorem aL(I:a8 L):Ev L 11 [.agg (H6 w)] (.bool (decide (WV w))):=by
 refine Ev.x I.UQ rfl rfl ?_;repeat' (first|apply BS;omega|apply AE|refine EN (MR I _ _ _) (λhf=>?_) (λhf=>?_))<;>conv=>whnf
 all_goals (unfold WV;first|exact QK O'|exact MJ O')
def JK:Int:=if WV w then -pw (w.b-1)else 0
def H0:Int:=if WV w then pw (w.b-1)-1 else 0
theorem yM(I:a8 L):Ev L 3 [.agg (H6 w)] (.int .i64 (JK w)):=by
 refine Ev.x I.SF rfl rfl ?_;by_cases hv:WV w;all_goals (
  have iy:=hv;unfold WV at iy;repeat' (first|apply BS;omega|refine ID ?_ (λ_ _=>?_);omega|apply ZV|apply B4.neg;omega|apply AE|refine EN (aK _ I) (λhf=>?_) (λhf=>?_))<;>conv=>whnf
  all_goals (first|contradiction|exact BP (by rw[JK,if_pos hv])|exact BP (by rw[JK,if_neg hv])))
theorem mR(I:a8 L):Ev L 4 [.agg (H6 w)] (.int .i64 (H0 w)):=by
 refine Ev.x I.SE rfl rfl ?_;by_cases hv:WV w;all_goals (
  have iy:=hv;unfold WV at iy;repeat' (first|apply BS;omega|refine ID ?_ (λ_ _=>?_);omega|apply ZV|apply AE|refine EN (aK _ I) (λhf=>?_) (λhf=>?_))<;>conv=>whnf
  all_goals (first|contradiction|exact BP (by rw[H0,if_pos hv])|exact BP (by rw[H0,if_neg hv])))
theorem nH(I:a8 L):Ev L 12 [.agg (H6 w)] (.int .i64 (JK w)):=by
 refine Ev.x I.UM rfl rfl ?_;by_cases hv:WV w;all_goals (
  have iy:=hv;unfold WV at iy;repeat' (first|apply BS;omega|refine ID ?_ (λ_ _=>?_);omega|apply ZV|apply B4.neg;omega|apply B7;omega|apply AE|refine EN (aL _ I) (λhf=>?_) (λhf=>?_))<;>conv=>whnf
  all_goals (first|contradiction|exact BP (by rw[JK,if_pos hv])|exact BP (by rw[JK,if_neg hv])))
theorem nG(I:a8 L):Ev L 13 [.agg (H6 w)] (.int .i64 (H0 w)):=by
 refine Ev.x I.UJ rfl rfl ?_;by_cases hv:WV w;all_goals (
  have iy:=hv;unfold WV at iy;repeat' (first|apply BS;omega|refine ID ?_ (λ_ _=>?_);omega|apply ZV|apply B7;omega|apply AE|refine EN (aL _ I) (λhf=>?_) (λhf=>?_))<;>conv=>whnf
  all_goals (first|contradiction|exact BP (by rw[H0,if_pos hv])|exact BP (by rw[H0,if_neg hv])))
def FT(v:Int):Prop:=WV w/\JK w<=v/\v<=H0 w
instance (v:Int):Decidable (FT w v) := by unfold FT; infer_instance
theorem V2(I:a8 L)(v:Int):Ev L 5 [.agg (H6 w),.int .i64 v] (.bool (decide (FT w v))):=by
 refine Ev.x I.SD rfl rfl ?_;repeat' (first|apply AG<;>intro hc<;>try omega|apply AE|refine EN (aK _ I) (λhf=>?_) (λhf=>?_)|refine AD (yM _ I) ?_|refine AD (mR _ I) ?_)<;>conv=>whnf
 all_goals (unfold FT;first|exact QK ⟨V',V',V'⟩|exact MJ (by rintro⟨h1,h2,h3⟩;first|contradiction|omega))
theorem V8(I:a8 L)(v:Int):Ev L 14 [.agg (H6 w),.int .i64 v] (.bool (decide (FT w v))):=by
 refine Ev.x I.UI rfl rfl ?_;repeat' (first|apply AE|refine EN (aL _ I) (λhf=>?_) (λhf=>?_)|refine EN (MR I _ _ _) (λhf=>?_) (λhf=>?_)|refine AD (nH _ I) ?_|refine AD (nG _ I) ?_)<;>conv=>whnf
 all_goals (unfold FT;first|exact QK ⟨V',V'⟩|exact MJ (by rintro⟨h1,h2⟩;contradiction))
def XD(n v:Int):Int:=if 1<=n/\n<=62 then(if pw (n-1)<=v%pw n then v%pw n-pw n else v%pw n)else 0
theorem AiK(I:a8 L)(n v:Int):Ev L 7 [.int .i64 n,.int .i64 v] (.int .i64 (XD n v)):=by
 refine Ev.x I.SK rfl rfl ?_;repeat' (first|apply AG<;>intro hc<;>try omega|apply BS;omega|refine ID ?_ (λ_ _=>?_);omega|refine tY ?_ (λ_ _=>?_);omega|apply AE)<;>conv=>whnf
 all_goals (refine BP ?_;unfold XD;first|rw[if_neg O']|rw[if_pos O',if_pos O']|rw[if_pos O',if_neg O'])
theorem AjH(I:a8 L)(n v:Int):Ev L 15 [.int .i64 n,.int .i64 v] (.int .i64 (XD n v)):=by
 refine Ev.x I.UR rfl rfl ?_;by_cases hn:1<=n/\n<=62
 ·have h2:=iY hn.1
  have h3:=G2 (n-1);repeat' (first|apply AG<;>intro hc<;>try omega|apply AR;omega|apply BS;omega|refine ID ?_ (λ_ _=>?_);omega|(refine I9 ?_ (λ_ _ _=>?_) (λ_ _ _ _=>?_);omega;all_goals try omega)|(refine KV ?_ ?_ (λ_=>?_) (λ_ _=>?_);omega;omega;all_goals try omega)|apply B7;omega|apply AE|refine EN (MR I _ _ _) (λhf=>?_) (λhf=>?_))<;>conv=>whnf
  all_goals (first|contradiction|(exfalso;omega)|skip)
  all_goals (refine BP ?_;unfold XD;rw[if_pos hn];first|(rw[if_pos O'];omega)|(rw[if_neg O'];omega)|(rw[if_pos O'])|(rw[if_neg O']))
 ·repeat' (first|refine ID ?_ (λ_ _=>?_);omega|(refine I9 ?_ (λ_ _ _=>?_) (λ_ _ _ _=>?_);omega;all_goals try omega)|apply B7;omega|apply AE|refine EN (MR I _ _ _) (λhf=>?_) (λhf=>?_))<;>conv=>whnf
  all_goals (first|contradiction|(exfalso;omega)|skip)
  all_goals (refine BP ?_;unfold XD;rw[if_neg hn])
def Y6(v:Int):Int:=min (max v (JK w)) (H0 w)
theorem AiI(I:a8 L)(v:Int):Ev L 8 [.agg (H6 w),.int .i64 v] (.int .i64 (Y6 w v)):=by
 refine Ev.x I.SH rfl rfl ?_;repeat' (first|apply AG<;>intro hc<;>try omega|apply AE|refine AD (yM _ I) ?_|refine AD (mR _ I) ?_)<;>conv=>whnf
 all_goals (refine BP ?_;unfold Y6;omega)
theorem AjF(I:a8 L)(v:Int):Ev L 16 [.agg (H6 w),.int .i64 v] (.int .i64 (Y6 w v)):=by
 refine Ev.x I.UO rfl rfl ?_;repeat' (first|apply AG<;>intro hc<;>try omega|apply AE|refine AD (nH _ I) ?_|refine AD (nG _ I) ?_)<;>conv=>whnf
 all_goals (refine BP ?_;unfold Y6;omega)
def WR(v:Int):Int:=if WV w then(if w.o=2 then XD w.b v else Y6 w v)else 0
theorem AiH(I:a8 L)(v:Int):Ev L 9 [.agg (H6 w),.int .i64 v] (.int .i64 (WR w v)):=by
 refine Ev.x I.SG rfl rfl ?_;repeat' (first|apply AG<;>intro hc<;>try omega|apply AE|refine EN (aK _ I) (λhf=>?_) (λhf=>?_)|refine AD (AiK I _ _) ?_|refine AD (AiI _ I _) ?_)<;>conv=>whnf
 all_goals (refine BP ?_;unfold WR;first|rw[if_neg V']|rw[if_pos V',if_pos V']|rw[if_pos V',if_neg V'])
theorem AjE(I:a8 L)(v:Int):Ev L 17 [.agg (H6 w),.int .i64 v] (.int .i64 (WR w v)):=by
 refine Ev.x I.UN rfl rfl ?_;repeat' (first|apply AG<;>intro hc<;>try omega|apply AE|refine EN (aL _ I) (λhf=>?_) (λhf=>?_)|refine AD (AjH I _ _) ?_|refine AD (AjF _ I _) ?_)<;>conv=>whnf
 all_goals (refine BP ?_;unfold WR;first|rw[if_neg V']|rw[if_pos V',if_pos V']|rw[if_pos V',if_neg V'])
def QF(v n r:Int):Int :=
 if 0<=n/\n<=62/\1<=r/\r<=3 then
  (if n=0 then v
   else if(r=2/\pw (n-1)<=v%pw n)\/(r=3/\v<0/\v%pw n≠0)then v/pw n+1 else v/pw n)
 else 0
theorem AiJ(I:a8 L)(v n r:Int)(hv:DJ v):Ev L 6 [.int .i64 v,.int .i64 n,.int .i64 r] (.int .i64 (QF v n r)):=by
 refine Ev.x I.SI rfl rfl ?_;unfold DJ at hv;by_cases hn:1<=n/\n<=62
 ·have h2:=iY hn.1
  have h3:=G2 (n-1);have h4:=xR (m:=pw n) O' hv;have h5:=Akq (v:=v) h3;rw[<-h2]at h5;by_cases hr:1<=r/\r<=3
  ·rcases(O':r=1\/r=2\/r=3)with rfl|rfl|rfl
   all_goals (
    repeat' (first|apply AG<;>intro hc<;>try omega|apply A4;omega|apply AR;omega|apply BS;omega|apply uD;omega|refine ID ?_ (λ_ _=>?_);omega|refine tY ?_ (λ_ _=>?_);omega|apply Ae7|apply AE|refine EN (fQ I _) (λhf=>?_) (λhf=>?_))<;>conv=>whnf
    all_goals (first|contradiction|(exfalso;omega)|skip))
   all_goals (
    refine BP ?_;unfold QF;rw[if_pos O',if_neg O'];first
     |(rw[if_pos O'];done)
     |(rw[if_neg O'];done)
     |(by_cases hc:pw (n-1)<=v%pw n
       ·rw[if_pos hc]at h5;rw[if_pos O',h5]
       ·rw[if_neg hc]at h5;rw[if_neg O',h5];omega))
  ·repeat' (first|apply AG<;>intro hc<;>try omega|apply AE|refine EN (fQ I _) (λhf=>?_) (λhf=>?_))<;>conv=>whnf
   all_goals (first|contradiction|(exfalso;omega)|skip)
   all_goals (refine BP ?_;unfold QF;rw[if_neg O'])
 ·by_cases hz:n=0
  ·subst hz
   repeat' (first|apply AG<;>intro hc<;>try omega|apply AE|refine EN (fQ I _) (λhf=>?_) (λhf=>?_))<;>conv=>whnf
   all_goals (first|contradiction|(exfalso;omega)|skip)
   all_goals (refine BP ?_;unfold QF;first|rw[if_pos O',if_pos rfl]|rw[if_neg O'])
  ·repeat' (first|apply AG<;>intro hc<;>try omega|apply AE)<;>conv=>whnf
   all_goals (first|contradiction|(exfalso;omega)|skip)
   all_goals (refine BP ?_;unfold QF;rw[if_neg O'])
theorem AjG(I:a8 L)(v n r:Int)(hv:DJ v):Ev L 18 [.int .i64 v,.int .i64 n,.int .i64 r] (.int .i64 (QF v n r)):=by
 refine Ev.x I.UP rfl rfl ?_;unfold DJ at hv;by_cases hn:1<=n/\n<=62
 ·have h2:=iY hn.1
  have h3:=G2 (n-1);have h4:=xR (m:=pw n) O' hv;repeat' (first|apply AG<;>intro hc<;>try omega|apply AR;omega|apply BS;omega|refine ID ?_ (λ_ _=>?_);omega|(refine I9 ?_ (λ_ _ _=>?_) (λ_ _ _ _=>?_);omega;all_goals try omega)|(refine KV ?_ ?_ (λ_=>?_) (λ_ _=>?_);omega;omega;all_goals try omega)|apply B7;omega|apply AE|refine EN (MR I _ _ _) (λhf=>?_) (λhf=>?_))<;>conv=>whnf
  all_goals (first|(exfalso;omega)|skip)
  all_goals (refine BP ?_;unfold QF;first|rw[if_neg O']|(rw[if_pos O',if_neg O'];first|(rw[if_pos O'];omega)|(rw[if_neg O'];omega)|rw[if_pos O']|rw[if_neg O']))
 ·by_cases hz:n=0
  ·subst hz
   have h1:pw 0=1:=by unfold pw;rfl
   have h2:v/pw 0=v:=by rw[h1];omega
   have h3:v%pw 0=0:=by rw[h1];omega
   repeat' (first|apply AG<;>intro hc<;>try omega|apply BS;omega|refine ID ?_ (λ_ _=>?_);omega|(refine I9 ?_ (λ_ _ _=>?_) (λ_ _ _ _=>?_);omega;all_goals try omega)|(refine KV ?_ ?_ (λ_=>?_) (λ_ _=>?_);omega;omega;all_goals try omega)|apply B7;omega|apply AE|refine EN (MR I _ _ _) (λhf=>?_) (λhf=>?_))<;>conv=>whnf
   all_goals (first|(exfalso;omega)|skip)
   all_goals (refine BP ?_;unfold QF;first|rw[if_neg O']|(rw[if_pos O',if_pos rfl];omega))
  ·repeat' (first|refine ID ?_ (λ_ _=>?_);omega|(refine KV ?_ ?_ (λ_=>?_) (λ_ _=>?_);omega;omega;all_goals try omega)|apply B7;omega|apply AE|refine EN (MR I _ _ _) (λhf=>?_) (λhf=>?_))<;>conv=>whnf
   all_goals (first|(exfalso;omega)|skip)
   all_goals (refine BP ?_;unfold QF;rw[if_neg O'])
end Go.e9

namespace Go.e9
open F
attribute [local irreducible] AA AF AX AC B4 AU A7 A8 BV BI B0 DS BG A1 BU CB AB A2 AH pw CG B3 CR DK C2 CO CJ BL CY C3 C4 CX C7
variable {L:Lib}
theorem DC{α:Type}{l:List α}{i:Nat}{e:α}(h:l[i]?=some e):l.drop i=e::l.drop (i+1):=by
 obtain⟨h1,h2⟩:=zS h;rw[Ba h1,h2]
theorem E6{α:Type}{l:List α}{i:Nat}(h:l.length<=i):l.drop i=[]:=List.drop_eq_nil_of_le h
theorem fY(I:a8 L)(xs ys:List Int)(q1 q2:Bool)(hx:xs.length<9223372036854775808)(hy:ys.length<9223372036854775808):Ev L 20 [.sl q1 (xs.map AZ),.sl q2 (ys.map AZ)] (.bool (decide (xs=ys))):=by
 refine Ev.x I.PS rfl rfl ?_;repeat' (first|apply AG<;>intro hc<;>try omega|apply AP|apply AE)<;>conv=>whnf
 ·exact MJ (by intro e;subst e;omega)
 ·have h:=hc
  refine DG (λi=>xs.length-i) (λ(i:Nat)=>i<=xs.length/\(xs=ys↔xs.drop i=ys.drop i)) (λi=>[(5,.int .i64 i)]) (λ_=>[]) 0 ⟨O',Z'⟩ ?_;intro i ⟨p1,p2⟩ ih;repeat' (first|apply AG<;>intro hc<;>try omega|apply AR;omega|apply AP|refine IR ?_ (λ_=>rfl) (λe he=>?_);omega|apply AE)<;>conv=>whnf
  ·rename_i e1 h1
   refine MJ ?_;rw[p2,DC h1,DC he];intro e;exact hc (List.cons.inj e).1
  ·rename_i e1 h1
   refine BB [] E' (ih (i+1) O' ⟨O',?_⟩);rw[p2,DC h1,DC he,hc];simp
  ·refine QK ?_
   rw[p2,E6 O',E6 O']
theorem nI(I:a8 L)(w:Wd)(xs:List Int)(q:Bool)(hb:xs.length<9223372036854775808):Ev L 19 [.agg (H6 w),.sl q (xs.map AZ)] (.bool (xs.all λv=>decide (FT w v))):=by
 refine Ev.x I.PT rfl rfl ?_;(repeat' (apply AE<;>conv=>whnf))
 refine DG (λi=>xs.length-i) (λ(i:Nat)=>i<=xs.length/\(xs.drop i).all (λv=>decide (FT w v))=xs.all λv=>decide (FT w v)) (λi=>[(5,.int .i64 i)]) (λ_=>[]) 0 ⟨O',rfl⟩ ?_;intro i ⟨p1,p2⟩ ih;repeat' (first|apply AG<;>intro hc<;>try omega|apply AR;omega|apply AP|refine IR ?_ (λ_=>rfl) (λe he=>?_);omega|apply AE|refine EN (V8 _ I _) (λhf=>?_) (λhf=>?_))<;>conv=>whnf
 ·rw[DC he,ya,decide_eq_true hf,Ma]at p2
  exact BF [] (ih (i+1) O' ⟨O',p2⟩)
 ·rw[DC he,ya,decide_eq_false hf,ea]at p2
  exact E9 p2
 ·rw[E6 O']at p2
  exact E9 p2
structure Nd where
 q:Bool
 ts:List (Int×Int)
abbrev NW(t:Int×Int):w_:=[.int .i64 t.1,.int .i64 t.2]
abbrev QZ(n:Nd):w_:=[.sl n.q (n.ts.map NW)]
structure Nt where
 d:Wd
 c:Wd
 s:Int
 qn:Bool
 nodes:List Nd
 qx:Bool
 next:List Int
 out:Int
abbrev B2(n:Nt):w_:=[.int .i64 n.d.b,.int .i64 n.d.f,.int .i64 n.d.r,.int .i64 n.d.o,.int .i64 n.c.b,.int .i64 n.c.f,.int .i64 n.c.r,.int .i64 n.c.o,.int .i64 n.s,.sl n.qn (n.nodes.map QZ),.sl n.qx (n.next.map AZ),.int .i64 n.out]
def IA(c:Wd)(s:Int)(k:Nat)(t:Int×Int):Bool:=decide (0<=t.1/\t.1<=s+k/\(t.2=pw c.f\/FT c t.2))
def G1(c:Wd)(s:Int):Nat->List Nd->Bool
 |_,[]=>true
 |k,n::l=>(decide (n.ts.length<=64)&&n.ts.all (IA c s k))&&G1 c s (k+1) l
def NA(m:Int)(l:List Int):Bool:=l.all λk=>decide (0<=k/\k<=m)
def DN(n:Nt):Bool:=decide (WV n.d)&&decide (WV n.c)&&decide (0<=n.s/\n.s<=64/\n.nodes.length<=64/\(n.next.length:Int)=n.s)&&G1 n.c n.s 0 n.nodes&&NA (n.s+n.nodes.length) n.next&&decide (0<=n.out/\n.out<=n.s+n.nodes.length)
variable (n:Nt)
theorem C1:DN n=true↔WV n.d/\WV n.c/\(0<=n.s/\n.s<=64/\n.nodes.length<=64/\(n.next.length:Int)=n.s)/\G1 n.c n.s 0 n.nodes=true/\NA (n.s+n.nodes.length) n.next=true/\0<=n.out/\n.out<=n.s+n.nodes.length:=by
 simp only[DN,za,decide_eq_true_eq,and_assoc]
theorem OQ{x:Bool}(h:¬x=true):false=x:=by simp at h;rw[h]
theorem xY{x:Bool}(h:x=true):true=x:=by rw[h]
theorem fU(I:a8 L)(J:k9 L):Ev L 21 [.agg (B2 n)] (.bool (DN n)):=by
 refine Ev.x J.LC rfl rfl ?_;repeat' (first|apply AG<;>intro hc<;>try omega|apply AP|apply AE|refine EN (aK ⟨_,_,_,_⟩ I) (λhf=>?_) (λhf=>?_))<;>conv=>whnf
 all_goals try (
  refine E9 (OQ ?_);rw[C1];rintro⟨x1,x2,x3,_⟩
  first|contradiction|omega)
 rename_i h1 h3 h4 h5;have h2:=hf;have h6:=hc;have h1:WV n.d:=h1;have h2:WV n.c:=h2;have hw:=h2;unfold WV at hw;refine DG (λi=>n.nodes.length-i) (λ(i:Nat)=>i<=n.nodes.length/\G1 n.c n.s i (n.nodes.drop i)=G1 n.c n.s 0 n.nodes) (λi=>[(45,.int .i64 i)]) (λ_=>[]) 0 ⟨O',rfl⟩ ?_;intro i ⟨p1,p2⟩ ih;repeat' (first|apply AG<;>intro hc<;>try omega|apply AR;omega|apply AP|refine IR ?_ (λ_=>rfl) (λe he=>?_);omega|apply AE)<;>conv=>whnf
 ·rename Nd=>nd
  have hnd:=he;rw[DC hnd,G1,decide_eq_false O']at p2;refine E9 (OQ ?_);rw[C1,<-p2];simp
 ·rename Nd=>nd
  have hnd:=he;rw[DC hnd,G1,decide_eq_true O',Ma]at p2;refine DG (λj=>nd.ts.length-j) (λ(j:Nat)=>j<=nd.ts.length/\(nd.ts.drop j).all (IA n.c n.s i)=nd.ts.all (IA n.c n.s i)) (λj=>[(57,.int .i64 j)]) (λ_=>[]) 0 ⟨O',rfl⟩ ?_;intro j ⟨r1,r2⟩ gv;repeat' (first|apply AG<;>intro hc<;>try omega|apply AR;omega|refine ID ?_ (λ_ _=>?_);omega|refine IR ?_ (λ_=>rfl) (λe he=>?_);omega|apply AE|refine EN (V2 ⟨_,_,_,_⟩ I _) (λhf=>?_) (λhf=>?_))<;>conv=>whnf
  all_goals try (
   have hb:IA n.c n.s i e=false:=by
    simp only[IA,decide_eq_false_iff_not];intro hh;first|omega|exact absurd hh.2.2 (λhx=>hx.elim (λhx=>O') (λhx=>by contradiction))
   rw[DC he,ya,hb,ea]at r2;rw[<-r2,ea]at p2;refine E9 (OQ ?_);rw[C1,<-p2];simp;done)
  all_goals try (
   have hb:IA n.c n.s i e=true:=by
    simp only[IA,decide_eq_true_eq];exact⟨O',O',by first|exact Or.inr V'|exact Or.inl V'⟩
   rw[DC he,ya,hb,Ma]at r2;exact BB [] E' (gv (j+1) O' ⟨O',r2⟩))
  rw[E6 O']at r2;rw[<-r2,ec,Ma]at p2;exact BF [] (ih (i+1) O' ⟨O',p2⟩)
 ·rw[E6 O',G1]at p2
  refine DG (λi=>n.next.length-i) (λ(i:Nat)=>i<=n.next.length/\NA (n.s+n.nodes.length) (n.next.drop i)=NA (n.s+n.nodes.length) n.next) (λi=>[(99,.int .i64 i)]) (λ_=>[]) 0 ⟨O',rfl⟩ ?_;intro k ⟨r1,r2⟩ Du;repeat' (first|apply AG<;>intro hc<;>try omega|apply AR;omega|refine IR ?_ (λ_=>rfl) (λe he=>?_);omega|apply AE)<;>conv=>whnf
  all_goals try (
   have hb:decide (0<=e/\e<=n.s+n.nodes.length)=false:=by(rw[decide_eq_false_iff_not];omega)
   rw[DC he,NA,ya,hb,ea]at r2;refine E9 (OQ ?_);rw[C1,<-r2];simp;done)
  all_goals try (
   have hb:decide (0<=e/\e<=n.s+n.nodes.length)=true:=by(rw[decide_eq_true_eq];omega)
   rw[DC he,NA,ya,hb,Ma]at r2;exact BB [] E' (Du (k+1) O' ⟨O',r2⟩))
  all_goals (
   rw[E6 O']at r2;first
    |(refine E9 (xY ?_);rw[C1];exact⟨h1,h2,O',p2.symm,r2.symm,O',O'⟩)
    |refine E9 (OQ ?_);rw[C1];omega)
end Go.e9

namespace Go.e9
open F
attribute [local irreducible] AA AF AX AC B4 AU A7 A8 BV BI B0 DS BG A1 BU CB AB A2 AH pw CG B3 CR DK C2 CO CJ BL CY C3 C4 CX C7
variable {L:Lib}
theorem Aea(n:Int):DJ (IntKind.i64.wrap n):=by
 unfold DJ;rw[IntKind.wrap_i64];omega
def CF(v m:Int):Int:=if m<1 then 0 else v%m
theorem Q3(W:x9 L)(v m:Int)(hv:DJ v)(hm:m<=9223372036854775807):Ev L 34 [.int .i64 v,.int .i64 m] (.int .i64 (CF v m)):=by
 unfold DJ at hv;refine Ev.x W.U7 rfl rfl ?_;repeat' (first|apply AG<;>intro hc<;>try omega|apply AR;omega|(refine I9 ?_ (λ_ _ _=>?_) (λ_ _ _ _=>?_);omega;all_goals try omega)|apply AE)<;>conv=>whnf
 all_goals (refine BP ?_;unfold CF;first|rw[if_pos O']|rw[if_neg O'])
 all_goals omega
def GR(l:List Int)(i:Int):Int:=if 0<=i/\i<l.length then l.getD i.toNat 0 else 0
theorem fZ(W:x9 L)(l:List Int)(q:Bool)(i:Int):Ev L 35 [.sl q (l.map AZ),.int .i64 i] (.int .i64 (GR l i)):=by
 refine Ev.x W.U4 rfl rfl ?_;repeat' (first|apply AG<;>intro hc<;>try omega|apply AP|refine RY ?_ (λ_=>rfl) (λe he=>?_);omega|apply AE)<;>conv=>whnf
 all_goals (refine BP ?_;unfold GR;first|rw[if_neg O']|(rw[if_pos O',xa,he];rfl))
theorem NR{v m:Int}(h:1<=m):0<=CF v m/\CF v m<m:=by
 unfold CF;rw[if_neg O'];exact⟨Gb _ O',Qb _ O'⟩
def U2(k least most above:Int):Wd :=
 let K:=CF k 1099511627776
 let b:=least+K%(most-least+1)
 let K1:=K/(most-least+1)
 ⟨b,max (b-1-above-K1%2) 0,1+K1/2%3,1+K1/2/3%2⟩
theorem Sx(W:x9 L)(k least most above:Int)(hk:DJ k)(h1:1<=least/\least<=most/\most<=1000/\0<=above/\above<=1000):Ev L 36 [.int .i64 k,.int .i64 least,.int .i64 most,.int .i64 above] (.agg (H6 (U2 k least most above))):=by
 refine Ev.x W.U8 rfl rfl ?_;have hr:=NR (v:=k) (m:=1099511627776) O';have h3:0<=CF k 1099511627776/(most-least+1):=Int.ediv_nonneg hr.1 O';have h4:CF k 1099511627776/(most-least+1)<=CF k 1099511627776:=Int.ediv_le_self _ hr.1;repeat' (first|apply AG<;>intro hc<;>try omega|apply AR;omega|apply BS;omega|(refine I9 ?_ (λ_ _ _=>?_) (λ_ _ _ _=>?_);omega;all_goals try omega)|(refine KV ?_ ?_ (λ_=>?_) (λ_ _=>?_);omega;omega;all_goals try omega)|apply AE|refine AD (Q3 W _ _ hk O') ?_)<;>conv=>whnf
 all_goals (
  refine AW ?_ (by simp[AY,BK]);simp only[U2,AV.agg.injEq,Nc,AV.int.injEq,true_and,and_true];omega)
def JF(k:Int):Wd:=U2 k 6 12 2
def FA(k:Int):Wd:=U2 k 6 9 1
theorem Za{k least most above:Int}(h:4<=least/\least<=most/\most<=24/\0<=above):WV (U2 k least most above)/\least<=(U2 k least most above).b/\(U2 k least most above).b<=most:=by
 have hr:=NR (v:=k) (m:=1099511627776) O';have h1:0<=CF k 1099511627776%(most-least+1):=Gb _ O';have h2:CF k 1099511627776%(most-least+1)<most-least+1:=Qb _ O';simp only[WV,U2];generalize CF k 1099511627776/(most-least+1)=d;omega
theorem wK(k:Int):WV (JF k)/\6<=(JF k).b/\(JF k).b<=12:=Za O'
theorem vW(k:Int):WV (FA k)/\6<=(FA k).b/\(FA k).b<=9:=Za O'
theorem AjR(W:x9 L)(k:Int)(hk:DJ k):Ev L 37 [.int .i64 k] (.agg (H6 (JF k))):=by
 refine Ev.x W.U6 rfl rfl ?_;repeat' (first|apply AE|refine AD (Sx W _ _ _ _ hk O') ?_)<;>conv=>whnf
 exact AW rfl (by simp[AY,BK])
theorem AjQ(W:x9 L)(k:Int)(hk:DJ k):Ev L 38 [.int .i64 k] (.agg (H6 (FA k))):=by
 refine Ev.x W.U5 rfl rfl ?_;repeat' (first|apply AE|refine AD (Sx W _ _ _ _ hk O') ?_)<;>conv=>whnf
 exact AW rfl (by simp[AY,BK])
def ZG(w:Wd)(v:Int):Int:=JK w+CF (IntKind.i64.wrap (v-JK w)) (H0 w-JK w+1)
def U3(w:Wd)(l:List Int)(n:Nat):List Int:=(eb n).map λi:Nat=>ZG w (GR l (i:Int))
theorem RB{w:Wd}(h:WV w):JK w = -pw (w.b-1)/\H0 w=pw (w.b-1)-1/\1<=pw (w.b-1)/\pw (w.b-1)<=8388608:=by
 have h':=h;unfold WV at h';refine⟨by rw[JK,if_pos h],by rw[H0,if_pos h],G2 _,?_⟩;have:=RI (n:=w.b-1) (m:=23) O'
 have e:pw 23=8388608:=by unfold pw;rfl
 omega
theorem An0{w:Wd}(h:WV w)(v:Int):FT w (ZG w v):=by
 obtain⟨h1,h2,h3,h4⟩:=RB h;have:=NR (v:=IntKind.i64.wrap (v-JK w)) (m:=H0 w-JK w+1) O'
 exact⟨h,by unfold ZG;omega,by unfold ZG;omega⟩
theorem bX{α:Type}(f:Nat->α)(n:Nat):(eb (n+1)).map f=(eb n).map f++[f n]:=by rw[de,List.map_append];rfl
theorem AjT(I:a8 L)(W:x9 L)(w:Wd)(hw:WV w)(l:List Int)(q:Bool)(n:Nat)(hn:n<=1000000):Ev L 39 [.agg (H6 w),.sl q (l.map AZ),.int .i64 n] (.sl false ((U3 w l n).map AZ)):=by
 obtain⟨h1,h2,h3,h4⟩:=RB hw;refine Ev.x W.QJ rfl rfl ?_;(repeat' (apply AE<;>conv=>whnf))
 refine EE (λi _=>n-i) (λ(i:Nat)(o:List Int)=>i<=n/\o.length=i/\o=U3 w l i) (λi o=>[(7,.row 7 0 1 0 o.length),(8,.int .i64 i)]) (λi o=>[(7,7,.rw 1 (o.map AZ))]) 0 [] ⟨O',rfl,rfl⟩ ?_;intro i o ⟨p1,p2,p3⟩ ih;have hr:=NR (v:=IntKind.i64.wrap (GR l i-JK w)) (m:=H0 w-JK w+1) O';repeat' (first|apply AG<;>intro hc<;>try omega|apply AR;omega|apply BS;omega|apply ZV|(refine C6 (λ_=>rfl) rfl ?_ ?_;(first|rfl|simp))|apply CT|apply AE|refine AD (nH w I) ?_|refine AD (nG w I) ?_|refine AD (fZ W l _ _) ?_|refine AD (Q3 W _ _ (Aea _) O') ?_)<;>conv=>whnf
 ·refine DH (enc:=AZ) _ rfl rfl rfl O' O' ?_
  (conv=>whnf)
  repeat' (first|apply AR;omega|fail)<;>conv=>whnf
  refine BB [(7,32)] E' (ih (i+1) _ O' ⟨O',by simp[p2],?_⟩);rw[U3,bX,p3];rfl
 ·have:i=n:=O'
  subst this;exact AW (by rw[p3]) (by simp[AY,KX])
end Go.e9

namespace Go.e9
open F
attribute [local irreducible] AA AF AX AC B4 AU A7 A8 BV BI B0 DS BG A1 BU CB AB A2 AH pw CG B3 CR DK C2 CO CJ BL CY C3 C4 CX C7
variable {L:Lib} (n:Nt)
theorem V9(I:a8 L)(J:k9 L):Ev L 27 [.agg (B2 n)] (.bool (DN n)):=by
 refine Ev.x J.LI rfl rfl ?_;repeat' (first|apply AG<;>intro hc<;>try omega|apply AP|apply AE|refine EN (aL ⟨_,_,_,_⟩ I) (λhf=>?_) (λhf=>?_)|refine EN (MR I _ _ _) (λhf=>?_) (λhf=>?_))<;>conv=>whnf
 all_goals try (
  refine E9 (OQ ?_);rw[C1];rintro⟨x1,x2,x3,_⟩
  first|contradiction|omega)
 rename_i h1 h2 h5;have h3:=hf;have h6:=hc;have h1:WV n.d:=h1;have h2:WV n.c:=h2;have hw:=h2;unfold WV at hw;refine DG (λi=>n.nodes.length-i) (λ(i:Nat)=>i<=n.nodes.length/\G1 n.c n.s i (n.nodes.drop i)=G1 n.c n.s 0 n.nodes) (λi=>[(3,.int .i64 i)]) (λ_=>[]) 0 ⟨O',rfl⟩ ?_;intro i ⟨p1,p2⟩ ih;repeat' (first|apply AG<;>intro hc<;>try omega|apply AR;omega|apply AP|refine IR ?_ (λ_=>rfl) (λe he=>?_);omega|apply AE)<;>conv=>whnf
 ·rename Nd=>nd
  have hnd:=he;rw[DC hnd,G1,decide_eq_false O']at p2;refine E9 (OQ ?_);rw[C1,<-p2];simp
 ·rename Nd=>nd
  have hnd:=he;rw[DC hnd,G1,decide_eq_true O',Ma]at p2;refine DG (λj=>nd.ts.length-j) (λ(j:Nat)=>j<=nd.ts.length/\(nd.ts.drop j).all (IA n.c n.s i)=nd.ts.all (IA n.c n.s i)) (λj=>[(4,.int .i64 j)]) (λ_=>[]) 0 ⟨O',rfl⟩ ?_;intro j ⟨r1,r2⟩ gv;repeat' (first|apply AG<;>intro hc<;>try omega|apply AR;omega|refine ID ?_ (λ_ _=>?_);omega|apply B7;omega|apply AP|refine A5 V' ?_ rfl ?_;omega|refine IR ?_ (λ_=>rfl) (λe he=>?_);omega|apply AE|refine EN (V8 ⟨_,_,_,_⟩ I _) (λhf=>?_) (λhf=>?_)|refine EN (MR I _ _ _) (λhf=>?_) (λhf=>?_))<;>conv=>whnf
  all_goals try (
   have hb:IA n.c n.s i e=false:=by
    simp only[IA,decide_eq_false_iff_not];intro hh;first|omega|exact absurd hh.2.2 (λhx=>hx.elim (λhx=>O') (λhx=>by contradiction))
   rw[DC he,ya,hb,ea]at r2;rw[<-r2,ea]at p2;refine E9 (OQ ?_);rw[C1,<-p2];simp;done)
  all_goals try (
   have hb:IA n.c n.s i e=true:=by
    simp only[IA,decide_eq_true_eq];exact⟨O',O',by first|exact Or.inr V'|exact Or.inl V'⟩
   rw[DC he,ya,hb,Ma]at r2;exact BB [] E' (gv (j+1) O' ⟨O',r2⟩))
  rw[E6 O']at r2;rw[<-r2,ec,Ma]at p2;exact BF [] (ih (i+1) O' ⟨O',p2⟩)
 ·rw[E6 O',G1]at p2
  refine DG (λi=>n.next.length-i) (λ(i:Nat)=>i<=n.next.length/\NA (n.s+n.nodes.length) (n.next.drop i)=NA (n.s+n.nodes.length) n.next) (λi=>[(7,.int .i64 i)]) (λ_=>[]) 0 ⟨O',rfl⟩ ?_;intro k ⟨r1,r2⟩ Du;repeat' (first|apply AG<;>intro hc<;>try omega|apply AR;omega|refine IR ?_ (λ_=>rfl) (λe he=>?_);omega|apply AE|refine EN (MR I _ _ _) (λhf=>?_) (λhf=>?_))<;>conv=>whnf
  all_goals try (
   have hb:decide (0<=e/\e<=n.s+n.nodes.length)=false:=by(rw[decide_eq_false_iff_not];omega)
   rw[DC he,NA,ya,hb,ea]at r2;refine E9 (OQ ?_);rw[C1,<-r2];simp;done)
  all_goals try (
   have hb:decide (0<=e/\e<=n.s+n.nodes.length)=true:=by(rw[decide_eq_true_eq];omega)
   rw[DC he,NA,ya,hb,Ma]at r2;exact BB [] E' (Du (k+1) O' ⟨O',r2⟩))
  all_goals (
   rw[E6 O']at r2;first
    |(refine E9 (xY ?_);rw[C1];exact⟨h1,h2,O',p2.symm,r2.symm,O',O'⟩)
    |refine E9 (OQ ?_);rw[C1];omega)
def DX(w:Wd)(l:List Int):Bool:=l.all λv=>decide (FT w v)
def F3(st ins:List Int):Int:=if(st.length:Int)≠n.s then 1 else if DX n.d st&&DX n.d ins then 0 else 17
theorem Ai6(I:a8 L)(J:k9 L)(st ins:List Int)(q1 q2:Bool)(hn:st.length<9223372036854775808)(hm:ins.length<9223372036854775808):Ev L 22 [.agg (B2 n),.sl q1 (st.map AZ),.sl q2 (ins.map AZ)] (.int .i64 (F3 n st ins)):=by
 refine Ev.x J.M9 rfl rfl ?_;repeat' (first|apply AG<;>intro hc<;>try omega|apply AP|apply AE)<;>conv=>whnf
 ·exact BP (by rw[F3,if_pos hc])
 have h0:=hc;refine DG (λi=>st.length-i) (λ(i:Nat)=>i<=st.length/\DX n.d (st.drop i)=DX n.d st) (λi=>[(18,.int .i64 i)]) (λ_=>[]) 0 ⟨O',rfl⟩ ?_;intro i ⟨p1,p2⟩ ih;repeat' (first|apply AG<;>intro hc<;>try omega|apply AR;omega|apply AP|refine IR ?_ (λ_=>rfl) (λe he=>?_);omega|apply AE|refine EN (V2 ⟨_,_,_,_⟩ I _) (λhf=>?_) (λhf=>?_))<;>conv=>whnf
 ·rw[DC he,DX,ya,decide_eq_true hf,Ma]at p2
  exact BF [] (ih (i+1) O' ⟨O',p2⟩)
 ·rw[DC he,DX,ya,decide_eq_false hf,ea]at p2
  exact BP (by rw[F3,if_neg O',<-p2];simp)
 ·rw[E6 O']at p2
  refine DG (λi=>ins.length-i) (λ(i:Nat)=>i<=ins.length/\DX n.d (ins.drop i)=DX n.d ins) (λi=>[(30,.int .i64 i)]) (λ_=>[]) 0 ⟨O',rfl⟩ ?_;intro j ⟨r1,r2⟩ gv;repeat' (first|apply AG<;>intro hc<;>try omega|apply AR;omega|refine IR ?_ (λ_=>rfl) (λe he=>?_);omega|apply AE|refine EN (V2 ⟨_,_,_,_⟩ I _) (λhf=>?_) (λhf=>?_))<;>conv=>whnf
  ·rw[DC he,DX,ya,decide_eq_true hf,Ma]at r2
   exact BB [] E' (gv (j+1) O' ⟨O',r2⟩)
  ·rw[DC he,DX,ya,decide_eq_false hf,ea]at r2
   exact BP (by rw[F3,if_neg O',<-r2];simp)
  ·rw[E6 O']at r2
   exact BP (by rw[F3,if_neg O',<-r2,<-p2];rfl)
def LP(vals:List Int):Int->List (Int×Int)->Int
 |acc,[]=>acc
 |acc,t::ts=>LP vals (IntKind.i64.wrap (acc+IntKind.i64.wrap (t.2*vals.getD t.1.toNat 0))) ts
theorem sN(vals:List Int):∀(ts:List (Int×Int))(acc:Int),DJ acc->DJ (LP vals acc ts)
 |[],acc,h=>h
 |t::ts,acc,_=>sN vals ts _ (Aea _)
def YW(vals:List Int)(nd:Nd):Int:=QF (LP vals 0 nd.ts) n.c.f n.d.r
def F8:List Int->Bool->List Nd->List Int×Bool
 |vals,ov,[]=>(vals,ov)
 |vals,ov,nd::l=>F8 (vals++[WR n.d (YW n vals nd)]) (ov || !decide (FT n.d (YW n vals nd))) l
theorem Ud{vals:List Int}{i:Nat}{nd:Nd}(h:nd.ts.all (IA n.c n.s i)=true)(hl:(vals.length:Int)=1+n.s+i):∀t∈nd.ts,0<=t.1/\t.1<vals.length:=λt ht=>by
 have:=ga.1 h t ht
 simp only[IA,decide_eq_true_eq]at this;omega
theorem Ai4(I:a8 L)(J:k9 L)(st:List Int)(q1:Bool)(input:Int)(hv:DN n=true)(o7:(st.length:Int)=n.s):Ev L 23 [.agg (B2 n),.sl q1 (st.map AZ),.int .i64 input] (.j5 [.sl false ((F8 n (input::st) false n.nodes).1.map AZ),.bool (F8 n (input::st) false n.nodes).2]):=by
 rw[C1]at hv;obtain⟨h1,h2,h3,h4,h5,h6⟩:=hv;refine Ev.x J.M8 rfl rfl ?_;repeat' (first|apply AR;omega|apply AP|apply AE)<;>conv=>whnf
 refine FJ (enc:=AZ) 0 0 rfl rfl O' ?_;conv=>whnf
 (repeat' (apply CT<;>conv=>whnf))
 refine DH (enc:=AZ) (l:=[]) input rfl rfl rfl Z' Z' ?_;conv=>whnf
 refine XJ (enc:=AZ) rfl (λ_=>rfl) K' K' ?_;conv=>whnf
 (repeat' (apply AP<;>conv=>whnf))
 refine F5 (λi _ _=>n.nodes.length-i) (λ(i:Nat)(vals:List Int)(ov:Bool)=>i<=n.nodes.length/\(vals.length:Int)=1+n.s+i/\G1 n.c n.s i (n.nodes.drop i)=true/\F8 n vals ov (n.nodes.drop i)=F8 n (input::st) false n.nodes) (λi vals ov=>[(8,.row 30 0 1 0 vals.length),(9,.bool ov),(34,.int .i64 i)]) (λi vals ov=>[(30,23,.rw 1 (vals.map AZ))]) 0 (input::st) false ⟨Z',by simp;omega,h4,rfl⟩ ?_;intro i vals ov ⟨p1,p2,p3,p4⟩ ih;repeat' (first|apply AG<;>intro hc<;>try omega|apply AP|refine IR ?_ (λ_=>rfl) (λe he=>?_);omega|(refine C6 (λ_=>rfl) rfl ?_ ?_;(first|rfl|simp))|apply AE)<;>conv=>whnf
 ·rename Nd=>nd
  have hnd:=he;rw[DC hnd]at p3 p4;simp only[G1,za,decide_eq_true_eq]at p3;obtain⟨⟨hnt,mq⟩,Lb⟩:=p3;have hf:=Ud n mq p2;have hI:DJ (LP vals 0 nd.ts):=sN vals _ _ (by unfold DJ;omega);refine EE (λj _=>nd.ts.length-j) (λ(j:Nat)(acc:Int)=>j<=nd.ts.length/\LP vals acc (nd.ts.drop j)=LP vals 0 nd.ts) (λj acc=>[(12,.int .i64 acc),(41,.int .i64 j)]) (λ_ _=>[]) 0 0 ⟨Z',rfl⟩ ?_;intro j acc ⟨r1,r2⟩ gv;repeat' (first|apply AG<;>intro hc<;>try omega|refine IR ?_ (λ_=>rfl) (λe he=>?_);omega|apply AE)<;>conv=>whnf
  ·have:=hf e (zM he)
   repeat' (first|apply A4;omega|apply AR;omega|apply kQ|apply uF|refine kL ?_ (λ_=>rfl) (λv hv=>?_);omega)<;>conv=>whnf
   rw[DC he,LP]at r2;refine BB [] E' (gv (j+1) _ O' ⟨O',?_⟩);rw[<-r2,xa,hv];rfl
  ·rw[E6 O',LP]at r2
   subst r2;cases ov;all_goals repeat' (first|apply CT|refine EN (V2 ⟨_,_,_,_⟩ I _) (λhf=>?_) (λhf=>?_)|refine AD (AiJ I _ _ _ hI) ?_|refine AD (AiH ⟨_,_,_,_⟩ I _) ?_)<;>conv=>whnf
   all_goals (
    refine DH (enc:=AZ) _ rfl rfl rfl O' O' ?_;conv=>whnf
    repeat' (first|apply AR;omega|fail)<;>conv=>whnf
    refine BB [(30,78)] E' (ih (i+1) _ _ O' ⟨O',by simp;omega,Lb,?_⟩);rw[<-p4,F8];first|rfl|(have hf:FT n.d (YW n vals nd):=hf;rw[decide_eq_true hf];rfl)|(have hf:¬FT n.d (YW n vals nd):=hf;rw[decide_eq_false hf];rfl))
 ·rw[E6 O',F8]at p4
  rw[<-p4];exact AW rfl (by simp[AY,BK,KX])
theorem AjJ(J:k9 L)(nd:Nd)(vals:List Int)(q:Bool)(hnt:nd.ts.length<=64)(hf:∀t∈nd.ts,0<=t.1/\t.1<vals.length):Ev L 28 [.agg (QZ nd),.sl q (vals.map AZ)] (.int .i64 (LP vals 0 nd.ts)):=by
 refine Ev.x J.P0 rfl rfl ?_;(repeat' (apply AE<;>conv=>whnf))
 refine EE (λj _=>nd.ts.length-j) (λ(j:Nat)(acc:Int)=>j<=nd.ts.length/\LP vals acc (nd.ts.drop j)=LP vals 0 nd.ts) (λj acc=>[(5,.int .i64 acc),(6,.int .i64 j)]) (λ_ _=>[]) 0 0 ⟨Z',rfl⟩ ?_;intro j acc ⟨r1,r2⟩ gv;repeat' (first|apply AG<;>intro hc<;>try omega|apply AP|refine A5 V' ?_ rfl ?_;omega|refine IR ?_ (λ_=>rfl) (λe he=>?_);omega|apply AE)<;>conv=>whnf
 ·have:=hf e (zM he)
  repeat' (first|apply AR;omega|apply kQ|apply uF|refine RY ?_ (λ_=>rfl) (λe he=>?_);omega)<;>conv=>whnf
  rename_i t ht;rw[DC ht,LP]at r2;refine BB [] E' (gv (j+1) _ O' ⟨O',?_⟩);rw[<-r2,xa,he];rfl
 ·rw[E6 O',LP]at r2
  exact BP r2
def FM(st:List Int)(x:Int):List Int×Bool×Int :=
 if DN n then(if F3 n st [x]=0 then((F8 n (x::st) false n.nodes).1,(F8 n (x::st) false n.nodes).2,0)else([],false,F3 n st [x]))else([],false,2)
theorem sX{st:List Int}{x:Int}(h:DN n=false):FM n st x=([],false,2):=by rw[FM,h];rfl
theorem ZI{st:List Int}{x:Int}(h:DN n=true)(h':F3 n st [x]≠0):FM n st x=([],false,F3 n st [x]):=by rw[FM,if_pos h,if_neg h']
theorem cT{st:List Int}{x:Int}(h:DN n=true)(h':F3 n st [x]=0):FM n st x=((F8 n (x::st) false n.nodes).1,(F8 n (x::st) false n.nodes).2,0):=by rw[FM,if_pos h,if_pos h']
theorem tA{st ins:List Int}(h:F3 n st ins=0):(st.length:Int)=n.s:=by
 unfold F3 at h;split at h
 ·cases h
 ·omega
theorem Ai3(I:a8 L)(J:k9 L)(st:List Int)(q1:Bool)(x:Int)(hn:st.length<9223372036854775808):Ev L 24 [.agg (B2 n),.sl q1 (st.map AZ),.int .i64 x] (.j5 [.sl false ((FM n st x).1.map AZ),.bool (FM n st x).2.1,.int .i64 (FM n st x).2.2]):=by
 refine Ev.x J.TB rfl rfl ?_;repeat' (first|apply AG<;>intro hc<;>try omega|refine JP rfl ?_|apply AE|refine ZO (fU n I J) (λhf=>?_) (λhf=>?_)|refine AD (Ai6 n I J st [x] _ _ hn Z') ?_)<;>conv=>whnf
 ·rw[ZI n hf hc]
  exact AW rfl (by simp[AY,BK,DR])
 ·rw[cT n hf hc]
  (repeat' (refine AD (Ai4 n I J st _ _ hf (tA n hc)) ?_<;>conv=>whnf))
  exact AW rfl (by simp[AY,BK,KX])
 ·rw[sX n hf]
  exact AW rfl (by simp[AY,BK,DR])
theorem AjI(I:a8 L)(J:k9 L)(st:List Int)(q1:Bool)(x:Int)(hn:st.length<9223372036854775808):Ev L 29 [.agg (B2 n),.sl q1 (st.map AZ),.int .i64 x] (.j5 [.sl false ((FM n st x).1.map AZ),.bool (FM n st x).2.1,.int .i64 (FM n st x).2.2]):=by
 refine Ev.x J.PY rfl rfl ?_;repeat' (first|apply AG<;>intro hc<;>try omega|apply AP|apply AE|refine ZO (V9 n I J) (λhf=>?_) (λhf=>?_)|refine ZO (nI I n.d _ _ hn) (λhf=>?_) (λhf=>?_)|refine EN (V8 n.d I _) (λhf=>?_) (λhf=>?_))<;>conv=>whnf
 ·have:F3 n st [x]=1:=by rw[F3,if_pos hc]
  rw[ZI n hf O',this];exact AW rfl (by simp[AY,BK,DR])
 ·rename_i h1 h2
  have hw:F3 n st [x]=0:=by
   rw[F3,if_neg O',if_pos];simp only[DX,h2,ya,decide_eq_true hf,ec,Bool.and_self]
  rw[cT n h1 hw];rw[C1]at h1;obtain⟨g1,g2,g3,g4,g5,g6⟩:=h1;refine XJ (enc:=AZ) (l:=[x]) rfl (λ_=>rfl) K' K' ?_;conv=>whnf
  skip
  refine F5 (λi _ _=>n.nodes.length-i) (λ(i:Nat)(vals:List Int)(ov:Bool)=>i<=n.nodes.length/\(vals.length:Int)=1+n.s+i/\G1 n.c n.s i (n.nodes.drop i)=true/\F8 n vals ov (n.nodes.drop i)=F8 n (x::st) false n.nodes) (λi vals ov=>[(9,.row 39 0 1 0 vals.length),(10,.bool ov),(11,.int .i64 i)]) (λi vals ov=>[(39,37,.rw 1 (vals.map AZ))]) 0 (x::st) false ⟨Z',by simp;omega,g4,rfl⟩ ?_;intro i vals ov ⟨p1,p2,p3,p4⟩ ih;have key:∀nd,n.nodes[i]?=some nd->nd.ts.length<=64/\(∀t∈nd.ts,0<=t.1/\t.1<vals.length)/\G1 n.c n.s (i+1) (n.nodes.drop (i+1))=true/\DJ (LP vals 0 nd.ts):=by
   intro nd hnd;rw[DC hnd]at p3;simp only[G1,za,decide_eq_true_eq]at p3;exact⟨p3.1.1,Ud n p3.1.2 p2,p3.2,sN vals _ _ (by unfold DJ;omega)⟩
  cases ov;all_goals repeat' (first|apply AG<;>intro hc<;>try omega|apply AP|refine IR ?_ (λ_=>rfl) (λe he=>?_);omega|(refine C6 (λ_=>rfl) rfl ?_ ?_;(first|rfl|simp))|apply CT|apply AE|refine EN (V8 n.d I _) (λhf=>?_) (λhf=>?_)|refine AD (AjJ J _ vals _ (key _ he).1 (key _ he).2.1) ?_|refine AD (AjG I _ _ _ (key _ he).2.2.2) ?_|refine AD (AjE n.d I _) ?_)<;>conv=>whnf
  all_goals try (
   refine DH (enc:=AZ) _ rfl rfl rfl O' O' ?_;conv=>whnf
   repeat' (first|apply AR;omega|fail)<;>conv=>whnf
   refine BB [(39,75)] E' (ih (i+1) _ _ O' ⟨O',by simp;omega,(key _ he).2.2.1,?_⟩);rw[DC he]at p4;rw[<-p4,F8];first|rfl|(have hf:FT n.d (YW n vals e):=hf;rw[decide_eq_true hf];rfl)|(have hf:¬FT n.d (YW n vals e):=hf;rw[decide_eq_false hf];rfl))
  all_goals (
   rw[E6 O',F8]at p4;rw[<-p4];exact AW rfl (by simp[AY,BK,KX]))
 ·rename_i h1 h2
  have hw:F3 n st [x]=17:=by
   rw[F3,if_neg O',if_neg];simp only[DX,h2,ya,decide_eq_false hf,ea,Bool.and_false];simp
  rw[ZI n h1 O',hw];exact AW rfl (by simp[AY,BK,DR])
 ·rename_i h1
  have hw:F3 n st [x]=17:=by
   rw[F3,if_neg O',if_neg];simp only[DX,hf,ea];simp
  rw[ZI n h1 O',hw];exact AW rfl (by simp[AY,BK,DR])
 ·rw[sX n hf]
  exact AW rfl (by simp[AY,BK,DR])
theorem gD{α:Type}{o F:List α}{i:Nat}{v:α}(hl:o.length=F.length)(h:o.take i=F.take i)(hv:F[i]?=some v):(o.set i v).length=F.length/\(o.set i v).take (i+1)=F.take (i+1):=by
 obtain⟨hi,rfl⟩:=zS hv;refine⟨by simp[hl],?_⟩;rw[ma,ma,<-h];congr 1
 ·rw[List.take_set_of_le (na i)]
 ·rw[hv];simp[hl,hi]
theorem gC{α:Type}{o F:List α}{i:Nat}(hl:o.length=F.length)(h:o.take i=F.take i)(hi:F.length<=i):o=F:=by
 rwa [zT O',zT hi]at h
def IH(vals:List Int):List Int:=n.next.map λk=>vals.getD k.toNat 0
theorem Ai5(J:k9 L)(vals:List Int)(q:Bool)(hv:DN n=true)(hl:(vals.length:Int)=1+n.s+n.nodes.length):Ev L 25 [.agg (B2 n),.sl q (vals.map AZ)] (.sl false ((IH n vals).map AZ)):=by
 rw[C1]at hv;obtain⟨h1,h2,h3,h4,h5,h6⟩:=hv;refine Ev.x J.O5 rfl rfl ?_;(repeat' (apply AE<;>conv=>whnf))
 refine Ae6 (enc:=AZ) 0 rfl O' O' ?_;conv=>whnf
 (repeat' (apply AP<;>conv=>whnf))
 have hF:(IH n vals).length=n.next.length:=by simp[IH]
 refine ZL (λi _=>n.next.length-i) (λ(i:Nat)(o:List Int)=>i<=n.next.length/\o.length=(IH n vals).length/\o.take i=(IH n vals).take i) (λi o=>[(5,.row 10 0 1 0 o.length),(14,.int .i64 i)]) (λi o=>[(10,10,.rw 1 (o.map AZ))]) [] [] 0 (sa n.s.toNat 0) (by rw[ob];exact E') ⟨Z',by simp[hF];omega,Z'⟩ ?_;intro i o ⟨p1,p2,p3⟩ ih;repeat' (first|apply AG<;>intro hc<;>try omega|refine IR ?_ (λ_=>rfl) (λe he=>?_);omega|(refine C6 (λ_=>rfl) rfl ?_ ?_;(first|rfl|simp))|apply AE)<;>conv=>whnf
 ·have hb:=ga.1 h5 _ (zM he)
  simp only[decide_eq_true_eq]at hb;repeat' (first|apply A4;omega|refine RY ?_ (λ_=>rfl) (λe he=>?_);omega)<;>conv=>whnf
  rename_i kk hk;have Mj:(IH n vals)[i]?=some e:=by
   simp only[IH,yb,hk,Ca,xa,he,Bb]
  obtain⟨f1,f2⟩:=gD p2 p3 Mj;refine H4 (enc:=AZ) e rfl (λ_=>rfl) O' ?_;conv=>whnf
  repeat' (first|apply AR;omega|fail)<;>conv=>whnf
  exact BB [] (by rw[qb];exact E') (ih (i+1) (o.set i e) O' ⟨O',f1,f2⟩)
 ·exact AW (by rw[gC p2 p3 O']) (by simp[AY,KX])
theorem lO:∀(l:List Nd)(vals:List Int)(ov:Bool),(F8 n vals ov l).1.length=vals.length+l.length
 |[],vals,ov=>rfl
 |nd::l,vals,ov=>by rw[F8,lO l];simp;omega
def IP(st:List Int)(x:Int):List Int×Int×Bool×Int :=
 if(FM n st x).2.2=0 then(IH n (FM n st x).1,(FM n st x).1.getD n.out.toNat 0,(FM n st x).2.1,0)else([],0,false,(FM n st x).2.2)
theorem sW{st:List Int}{x:Int}(h:(FM n st x).2.2=0):DN n=true/\((FM n st x).1.length:Int)=1+n.s+n.nodes.length:=by
 cases hn:DN n
 ·rw[sX n hn]at h;cases h
 ·refine⟨rfl,?_⟩
  by_cases hw:F3 n st [x]=0
  ·rw[cT n hn hw,lO]
   have:=tA n hw
   simp;omega
  ·rw[ZI n hn hw]at h;exact absurd h hw
theorem sI{st:List Int}{x:Int}(h:(FM n st x).2.2≠0):IP n st x=([],0,false,(FM n st x).2.2):=by rw[IP,if_neg h]
theorem sJ{st:List Int}{x:Int}(h:(FM n st x).2.2=0):IP n st x=(IH n (FM n st x).1,(FM n st x).1.getD n.out.toNat 0,(FM n st x).2.1,0):=by rw[IP,if_pos h]
theorem gG{l:List Int}{i:Nat}{e:Int}(h:l[i]?=some e):l.getD i 0=e:=by rw[xa,h];rfl
theorem yX(I:a8 L)(J:k9 L)(st:List Int)(q1:Bool)(x:Int)(hn:st.length<9223372036854775808):Ev L 26 [.agg (B2 n),.sl q1 (st.map AZ),.int .i64 x] (.j5 [.sl false ((IP n st x).1.map AZ),.int .i64 (IP n st x).2.1,.bool (IP n st x).2.2.1,.int .i64 (IP n st x).2.2.2]):=by
 refine Ev.x J.TA rfl rfl ?_;repeat' (first|apply AG<;>intro hc<;>try omega|apply AE|refine AD (Ai3 n I J st q1 x hn) ?_)<;>conv=>whnf
 ·rw[sI n hc]
  exact AW rfl (by simp[AY,BK,DR])
 ·rw[sJ n hc]
  obtain⟨g1,g2⟩:=sW n hc;have Ly:=(C1 n).1 g1;obtain⟨_,_,g3,_,_,g4⟩:=Ly;repeat' (first|refine RY ?_ (λ_=>rfl) (λe he=>?_);omega|refine AD (Ai5 n J _ _ g1 g2) ?_)<;>conv=>whnf
  rw[gG he];exact AW rfl (by simp[AY,BK,KX])
theorem zX(I:a8 L)(J:k9 L)(st:List Int)(q1:Bool)(x:Int)(hn:st.length<9223372036854775808):Ev L 30 [.agg (B2 n),.sl q1 (st.map AZ),.int .i64 x] (.j5 [.sl false ((IP n st x).1.map AZ),.int .i64 (IP n st x).2.1,.bool (IP n st x).2.2.1,.int .i64 (IP n st x).2.2.2]):=by
 refine Ev.x J.PW rfl rfl ?_;repeat' (first|apply AG<;>intro hc<;>try omega|apply AE|refine AD (AjI n I J st q1 x hn) ?_)<;>conv=>whnf
 ·rw[sI n hc]
  exact AW rfl (by simp[AY,BK,DR])
 ·rw[sJ n hc]
  obtain⟨g1,g2⟩:=sW n hc;have Ly:=(C1 n).1 g1;obtain⟨_,_,g3,_,g5,g4⟩:=Ly;generalize (FM n st x).1=vals at*;generalize (FM n st x).2.1=ov at*;refine EE (λi _=>n.next.length-i) (λ(i:Nat)(o:List Int)=>i<=n.next.length/\o.length=i/\o=(IH n vals).take i) (λi o=>[(13,.row 13 0 1 0 o.length),(14,.int .i64 i)]) (λi o=>[(13,13,.rw 1 (o.map AZ))]) 0 [] ⟨Z',Z',Z'⟩ ?_;intro i o ⟨p1,p2,p3⟩ ih;repeat' (first|apply AG<;>intro hc<;>try omega|refine IR ?_ (λ_=>rfl) (λe he=>?_);omega|refine RY ?_ (λ_=>rfl) (λe he=>?_);omega|(refine C6 (λ_=>rfl) rfl ?_ ?_;(first|rfl|simp))|apply AE)<;>conv=>whnf
  ·have hb:=ga.1 g5 _ (zM he)
   simp only[decide_eq_true_eq]at hb;repeat' (first|refine RY ?_ (λ_=>rfl) (λe he=>?_);omega|apply CT)<;>conv=>whnf
   rename_i kk hk;have Mj:(IH n vals)[i]?=some e:=by
    simp only[IH,yb,hk,Ca,xa,he,Bb]
   refine DH (enc:=AZ) e rfl rfl rfl O' O' ?_;conv=>whnf
   repeat' (first|apply AR;omega|fail)<;>conv=>whnf
   refine BB [(13,42)] E' (ih (i+1) (o++[e]) O' ⟨O',by simp[p2],?_⟩);rw[ma,Mj,<-p3];rfl
  ·have e1:o=IH n vals:=by
    rw[p3,zT (by simp[IH];omega)]
   rw[gG he,<-e1];exact AW rfl (by simp[AY,BK,KX])
theorem AmI{w:Wd}(h:WV w)(v:Int):FT w (WR w v):=by
 obtain⟨h1,h2,h3,h4⟩:=RB h;have hw:=h;unfold WV at hw;refine⟨h,?_⟩;unfold WR;rw[if_pos h];split
 ·have e:=iY (n:=w.b) O'
  have a1:0<=v%pw w.b:=Gb _ O';have a2:v%pw w.b<pw w.b:=Qb _ O';unfold XD;rw[if_pos O'];split<;>omega
 ·unfold Y6;omega
theorem Aoh{w:Wd}{l l':List Int}(h:DX w l=true)(h':DX w l'=true):DX w (l++l')=true:=by
 simp only[DX]at*;rw[List.all_append,h,h'];rfl
theorem wB(hd:WV n.d):∀(l:List Nd)(vals:List Int)(ov:Bool),DX n.d vals=true->DX n.d (F8 n vals ov l).1=true
 |[],vals,ov,h=>h
 |nd::l,vals,ov,h=>by
  rw[F8];exact wB hd l _ _ (Aoh h (by simp[DX,AmI hd]))
theorem Aoi{w:Wd}{l:List Int}(h:DX w l=true){i:Nat}{e:Int}(he:l[i]?=some e):FT w e:=by
 have:=ga.1 h e (zM he)
 simpa using this
theorem Aj3{vals:List Int}(h:DX n.d vals=true)(hx:NA (n.s+n.nodes.length) n.next=true)(hl:(vals.length:Int)=1+n.s+n.nodes.length):DX n.d (IH n vals)=true:=by
 unfold DX IH;rw[ga];intro v hv;obtain⟨k,hk,rfl⟩:=Ka.1 hv;have hb:=ga.1 hx k hk;simp only[decide_eq_true_eq]at hb;have k7:k.toNat<vals.length:=O'
 have he:vals[k.toNat]?=some vals[k.toNat]:=zE k7;rw[gG he];simpa using Aoi h he
theorem Aom{st ins:List Int}:F3 n st ins=0↔(st.length:Int)=n.s/\DX n.d st=true/\DX n.d ins=true:=by
 unfold F3;by_cases h:(st.length:Int)≠n.s
 ·rw[if_pos h];constructor
  ·intro h;cases h
  ·intro h';exact absurd h'.1 h
 ·rw[if_neg h]
  simp only[ne_eq,nf]at h;split
  ·rename_i hh
   simp only[za]at hh;exact⟨λ_=>⟨h,hh⟩,λ_=>rfl⟩
  ·rename_i hh
   simp only[za]at hh;exact⟨λh=>(by cases h),λh=>absurd h.2 hh⟩
theorem Adw{st:List Int}{x:Int}(hn:DN n=true)(h1:(st.length:Int)=n.s)(h2:DX n.d st=true)(h3:FT n.d x):IP n st x=(IH n (F8 n (x::st) false n.nodes).1,(F8 n (x::st) false n.nodes).1.getD n.out.toNat 0,(F8 n (x::st) false n.nodes).2,0):=by
 have hw:F3 n st [x]=0:=(Aom n).2 ⟨h1,h2,by simp[DX,h3]⟩;rw[sJ n (by rw[cT n hn hw]),cT n hn hw]
end Go.e9

namespace Go.e9
open F
attribute [local irreducible] AA AF AX AC B4 AU A7 A8 BV BI B0 DS BG A1 BU CB AB A2 AH pw CG B3 CR DK C2 CO CJ BL CY C3 C4 CX C7
variable {L:Lib}
structure Rw where
 data:Int
 y9:Int
 l9:Int
 qn:Bool
 nodes:List ((Bool×List Int)×(Bool×List Int))
 qx:Bool
 next:List Int
 out:Int
 whole:Bool
abbrev fK(w:(Bool×List Int)×(Bool×List Int)):w_:=[.sl w.1.1 (w.1.2.map AZ),.sl w.2.1 (w.2.2.map AZ)]
abbrev fJ(r:Rw):w_:=[.int .i64 r.data,.int .i64 r.y9,.int .i64 r.l9,.sl r.qn (r.nodes.map fK),.sl r.qx (r.next.map AZ),.int .i64 r.out,.bool r.whole]
def LZ(l:List Int):Prop := ∀v∈l,DJ v
theorem lB{l:List Int}(h:LZ l)(i:Int):DJ (GR l i):=by
 unfold GR;split
 ·rename_i hi
  have k7:i.toNat<l.length:=O'
  rw[gG (zE k7)];exact h _ (List.getElem_mem k7)
 ·unfold DJ;omega
def W7(r:Rw)(k:Nat)(w:(Bool×List Int)×(Bool×List Int))(i:Nat):Int×Int :=
 (CF (w.1.2.getD i 0) (1+CF r.l9 4+k),if r.whole then pw (FA r.y9).f*(CF (GR w.2.2 (i:Int)) 3-1)else ZG (FA r.y9) (GR w.2.2 (i:Int)))
def RN(r:Rw)(k:Nat)(w:(Bool×List Int)×(Bool×List Int))(n:Nat):List (Int×Int):=(eb n).map (W7 r k w)
def bJ(r:Rw)(k:Nat):List (Int×Int):=match r.nodes[k]? with
 |some w=>RN r k w (min w.1.2.length 4)
 |none=>[]
def NB(r:Rw)(n:Nat):List (List (Int×Int)):=(eb n).map (bJ r)
def EL(r:Rw):Nt :=
 ⟨JF r.data,FA r.y9,CF r.l9 4,false,(NB r (min r.nodes.length 4)).map (λts=>⟨false,ts⟩),false,(eb (CF r.l9 4).toNat).map (λi:Nat=>CF (GR r.next (i:Int)) (1+CF r.l9 4+(min r.nodes.length 4:Nat))),CF r.out (1+CF r.l9 4+(min r.nodes.length 4:Nat))⟩
def L9(ts:List (Int×Int)):p_:=match ts with
 |[]=>none
 |t::ts=>some (2,(t::ts).map NW)
theorem rE:∀ns:List (List (Int×Int)),MA false (ns.map L9)=ns.map λts=>[AV.sl false (ts.map NW)]
 |[]=>rfl
 |[]::l=>by simp only[Qa,L9,MA];rw[rE l];rfl
 |(t::ts)::l=>by simp only[Qa,L9,MA];rw[rE l]
theorem uJ{ns:List (List (Int×Int))}{off len:Nat}{K:v_->Prop}(ho:off=0)(hl:len=ns.length)(h:K (ns.map λts=>[AV.sl false (ts.map NW)])):CJ false (ns.map L9) off len K:=by
 unfold CJ;refine⟨ho,by simpa using hl,λz es hm e he=>?_,by rw[rE];exact h⟩;obtain⟨ts,_,hr⟩:=Ka.1 hm;cases ts with
 |nil=>simp[L9]at hr
 |cons t ts=>
  simp only[L9,ta,De]at hr;obtain⟨rfl,rfl⟩:=hr;obtain⟨x,_,rfl⟩:=Ka.1 he;rfl
def TC(r:Rw)(n:Nat):List Int:=(eb n).map λi:Nat=>CF (GR r.next (i:Int)) (1+CF r.l9 4+(min r.nodes.length 4:Nat))
theorem AgD(ns:List (List (Int×Int))):DR (ns.map λts=>[AV.sl false (ts.map NW)]):=L2 (λts=>by simp only[BK,AY,true_and,and_true];exact L2 (λ_=>by simp[BK,AY]) ts) ns
theorem pS(r:Rw):(EL r).nodes.map QZ=(NB r (min r.nodes.length 4)).map λts=>[AV.sl false (ts.map NW)]:=by
 simp only[EL,List.map_map];rfl
theorem Vh(r:Rw):AY (.agg (B2 (EL r))):=by
 have h1:AY (.sl (EL r).qn ((EL r).nodes.map QZ)):=by rw[pS];simp only[AY];exact⟨rfl,AgD _⟩
 have h2:AY (.sl (EL r).qx ((EL r).next.map AZ)):=by simp only[AY];exact⟨rfl,KX _⟩
 simp only[AY,BK,true_and,and_true]at*;exact⟨h1,h2⟩
theorem AjS(I:a8 L)(W:x9 L)(R:gx L)(r:Rw)(h1:DJ r.data)(h2:DJ r.y9)(h3:DJ r.l9)(h4:DJ r.out)(h5:LZ r.next)(h6:∀w∈r.nodes,LZ w.1.2/\LZ w.2.2)(hl:r.nodes.length<9223372036854775808):Ev L 42 [.agg (fJ r)] (.agg (B2 (EL r))):=by
 have hE:∀b,r.whole=b->fJ r=[.int .i64 r.data,.int .i64 r.y9,.int .i64 r.l9,.sl r.qn (r.nodes.map fK),.sl r.qx (r.next.map AZ),.int .i64 r.out,.bool b]:=λb h=>by rw[<-h]
 cases Qk:r.whole;all_goals (
 rw[hE _ Qk];refine Ev.x R.LR rfl rfl ?_;have hs:=NR (v:=r.l9) (m:=4) O';obtain⟨hcw,Eg,tu⟩:=vW r.y9;have Ob:=hcw;unfold WV at Ob;repeat' (first|refine ID ?_ (λ_ _=>?_);omega|apply B7;omega|apply AE|refine AD (AjR W _ h1) ?_|refine AD (AjQ W _ h2) ?_|refine AD (Q3 W _ _ h3 O') ?_)<;>conv=>whnf
 refine F5 (λk _ _=>4-k) (λ(k:Nat)(ns:List (List (Int×Int)))(fl:Bool)=>k<=4/\k<=r.nodes.length/\ns=NB r k/\fl=decide (k=0)) (λk ns fl=>[(5,.int .i64 k)]) (λk ns fl=>bif fl then[]else[(3,3,.bx [.int .i64 (JF r.data).b,.int .i64 (JF r.data).f,.int .i64 (JF r.data).r,.int .i64 (JF r.data).o,.int .i64 (FA r.y9).b,.int .i64 (FA r.y9).f,.int .i64 (FA r.y9).r,.int .i64 (FA r.y9).o,.int .i64 (CF r.l9 4),.row 1000 0 1 0 ns.length,.nil,.int .i64 0]),(1000,107,.mx (ns.map L9))]) 0 [] true ⟨O',O',rfl,rfl⟩ ?_;intro k ns fl ⟨p1,p2,p3,p4⟩ ih;have hns:fl=true->ns=[]:=λh=>by
  rw[h]at p4;have:k=0:=by simpa using p4.symm
  subst this;rw[p3];rfl
 by_cases hk:k<r.nodes.length/\k<4
 ·obtain⟨w,hw⟩:=N' r.nodes k hk.1
  obtain⟨q1,q2⟩:=h6 w (zM hw);cases fl;all_goals (
   repeat' (first|apply AG<;>intro hc<;>try omega|apply AP|apply AE)<;>conv=>whnf
   refine F5 (λi _ _=>4-i) (λ(i:Nat)(ts:List (Int×Int))(fl:Bool)=>i<=4/\i<=w.1.2.length/\ts=RN r k w i/\fl=decide (i=0)) (λi ts fl=>[(7,.int .i64 i)]) (λi ts fl=>bif fl then[(6,6,.bx [.nil])]else[(6,6,.bx [.row 2000 0 2 0 ts.length]),(2000,101,.rw 2 (ts.map NW))]) 0 [] true ⟨O',O',rfl,rfl⟩ ?_;intro i ts Jq ⟨s1,s2,s3,s4⟩ gv;have mq:Jq=true->ts=[]:=λh=>by
    rw[h]at s4;have:i=0:=by simpa using s4.symm
    subst this;rw[s3];rfl
   have Qg:Jq=false->∃t0 Fj,ts=t0::Fj:=λh=>by
    rw[h]at s4;have ml:¬i=0:=by simpa using s4.symm
    have hl:ts.length=i:=by rw[s3];simp[RN]
    cases ts with
    |nil=>exact absurd hl.symm ml
    |cons t0 Fj=>exact⟨t0,Fj,rfl⟩
   by_cases hi:i<w.1.2.length/\i<4
   ·obtain⟨e0,He⟩:=N' w.1.2 i hi.1
    have hwl:(U3 (FA r.y9) w.2.2 (i+1)).length=i+1:=by simp[U3]
    have ew:∀q,Ev L 39 [.agg (H6 (FA r.y9)),.sl q (w.2.2.map AZ),.int .i64 ((i:Int)+1)] (.sl false ((U3 (FA r.y9) w.2.2 (i+1)).map AZ)):=λq=>by
     have h:=AjT I W (FA r.y9) hcw w.2.2 q (i+1) O';rwa [Int.natCast_succ]at h
    have hx:=NR (v:=GR w.2.2 (i:Int)) (m:=3) O';have hmul:-4611686018427387904<=pw (FA r.y9).f*(CF (GR w.2.2 (i:Int)) 3-1)/\pw (FA r.y9).f*(CF (GR w.2.2 (i:Int)) 3-1)<=4611686018427387904:=by
     rcases(O':CF (GR w.2.2 (i:Int)) 3=0\/CF (GR w.2.2 (i:Int)) 3=1\/CF (GR w.2.2 (i:Int)) 3=2)with h|h|h<;>rw[h]<;>omega
    have hval:∀v,(U3 (FA r.y9) w.2.2 (i+1))[i]?=some v->v=ZG (FA r.y9) (GR w.2.2 (i:Int)):=by
     intro v hv;simp only[U3,yb,List.getElem?_range (Nat.lt_succ_self i),Ca,ta]at hv;exact hv.symm
    cases Jq;all_goals (
     repeat' (first|apply AG<;>intro hc<;>try omega|apply AR;omega|apply AP|refine A5 V' ?_ rfl ?_;omega|refine IR ?_ (λ_=>rfl) (λe he=>?_);omega|apply CT|apply AE|refine AD (Q3 W e0 _ (q1 _ (zM He)) O') ?_|refine AD (ew _) ?_)<;>conv=>whnf
     repeat' (first|apply BS;omega|apply GH;omega|apply CT|refine AD (fZ W w.2.2 _ _) ?_|refine AD (Q3 W _ _ (lB q2 _) O') ?_)<;>conv=>whnf
     have hv:=hval _ he;subst hv;first
      |(refine DH (enc:=NW) (W7 r k w i) (by simp only[W7,Qk,xa,He,Bb];rfl) rfl rfl (by simp[s3,RN];omega) (by simp[s3,RN];omega) ?_)
      |(refine MH (enc:=NW) (W7 r k w i) (by simp only[W7,Qk,xa,He,Bb];rfl) rfl O' ?_)
     (conv=>whnf)
     repeat' (first|apply AR;omega|fail)<;>conv=>whnf
     have eh:ts++[W7 r k w i]=RN r k w (i+1):=by rw[RN,bX,s3];rfl
     try (obtain rfl:=mq rfl)
     exact BB [(2000,101)] E' (gv (i+1) _ false O' ⟨O',O',eh,Z'⟩))
   ·have Hj:i=min w.1.2.length 4:=O'
    have Hw:ns++[ts]=NB r (k+1):=by rw[NB,bX,p3,bJ,hw,s3,Hj];rfl
    have fg:ns.length=k:=by rw[p3];simp[NB]
    cases Jq;all_goals (
     try (obtain rfl:=mq rfl)
     try (obtain⟨t0,Fj,rfl⟩:=Qg rfl)
     try (obtain rfl:=hns rfl)
     repeat' (first|apply AG<;>intro hc<;>try omega|apply A4;omega|apply AR;omega|apply AP|refine A5 V' ?_ rfl ?_;omega|apply AE)<;>conv=>whnf
     all_goals (
      try (refine A4 Z' ?_;(conv=>whnf))
      repeat' (first|apply AR;omega|fail)<;>conv=>whnf
      try (refine AeP Z' K' K' ?_)
      try (rw[show ns.map L9++[some (2,(t0::Fj).map NW)]=(ns++[t0::Fj]).map L9 by simp[L9]])
      try (rw[show ns.map L9++[none]=(ns++[[]]).map L9 by simp[L9]])
      try (rw[tc])
      (conv=>whnf)
      repeat' (first|apply AR;omega|fail)<;>conv=>whnf
      exact BB [(1000,107)] E' (ih (k+1) _ false O' ⟨O',O',Hw,Z'⟩))))
 ·have Ks:k=min r.nodes.length 4:=O'
  have fg:ns.length=k:=by rw[p3];simp[NB]
  rw[Ks]at p3;cases fl
  ·have Ho:((min r.nodes.length 4:Nat):Int)=(ns.length:Int):=O'
   repeat' (first|apply AG<;>intro hc<;>try omega|apply AP|apply AE)<;>conv=>whnf
   all_goals (
    refine F5 (λi _ _=>4-i) (λ(i:Nat)(nx:List Int)(f3:Bool)=>(i:Int)<=CF r.l9 4/\nx=TC r i/\f3=decide (i=0)) (λi nx f3=>[(9,.int .i64 i)]) (λi nx f3=>bif f3 then[]else[(3,3,.bx [.int .i64 (JF r.data).b,.int .i64 (JF r.data).f,.int .i64 (JF r.data).r,.int .i64 (JF r.data).o,.int .i64 (FA r.y9).b,.int .i64 (FA r.y9).f,.int .i64 (FA r.y9).r,.int .i64 (FA r.y9).o,.int .i64 (CF r.l9 4),.row 1000 0 1 0 ns.length,.row 3000 0 1 0 nx.length,.int .i64 0]),(3000,130,.rw 1 (nx.map AZ))]) 0 [] true ⟨O',rfl,rfl⟩ ?_;intro i nx f3 ⟨s1,s2,s3⟩ Du;have ik:nx.length=i:=by rw[s2];simp[TC]
    have eh:nx++[CF (GR r.next (i:Int)) (1+CF r.l9 4+(ns.length:Int))]=TC r (i+1):=by rw[<-Ho,TC,bX,s2];rfl
    have pe:f3=true->nx=[]:=λh=>by
     rw[h]at s3;have:i=0:=by simpa using s3.symm
     subst this;rw[s2];rfl
    have Dd:(EL r).out=CF r.out (1+CF r.l9 4+(ns.length:Int)):=by
     show CF r.out (1+CF r.l9 4+(min r.nodes.length 4:Nat))=_;rw[Ho]
    have Db:CF r.l9 4<=i->(EL r).next=nx:=λh=>by
     have hi:i=(CF r.l9 4).toNat:=O'
     rw[s2,hi];rfl
    have Cz:(EL r).nodes.map QZ=ns.map λts=>[AV.sl false (ts.map NW)]:=by rw[pS,p3]
    cases f3;all_goals (
     try (obtain rfl:=pe rfl)
     repeat' (first|apply AG<;>intro hc<;>try omega|apply AR;omega|apply CT|apply AE|refine AD (fZ W r.next _ _) ?_|refine AD (Q3 W _ _ (lB h5 _) O') ?_|refine AD (Q3 W r.out _ h4 O') ?_)<;>conv=>whnf
     ·first
       |refine DH (enc:=AZ) _ rfl rfl rfl O' O' ?_
       |refine MH (enc:=AZ) _ rfl rfl O' ?_
      (conv=>whnf)
      repeat' (first|apply AR;omega|fail)<;>conv=>whnf
      exact BB [(3000,130)] E' (Du (i+1) _ false O' ⟨O',eh,Z'⟩)
     ·try (refine uJ rfl rfl ?_;(conv=>whnf))
      (repeat' ((refine C6 (λ_=>rfl) rfl ?_ ?_;(first|rfl|simp))<;>conv=>whnf))
      refine AW ?_ (Vh r);have Da:=Db hc;show _=AV.agg [_,_,_,_,_,_,_,_,_,.sl _ ((EL r).nodes.map QZ),.sl _ ((EL r).next.map AZ),.int .i64 (EL r).out];rw[Cz,Da,Dd];rfl))
  ·obtain rfl:=hns rfl
   have Ho:((min r.nodes.length 4:Nat):Int)=(0:Int):=by simp at fg;omega
   repeat' (first|apply AG<;>intro hc<;>try omega|apply AP|apply AE)<;>conv=>whnf
   all_goals (
    refine F5 (λi _ _=>4-i) (λ(i:Nat)(nx:List Int)(f3:Bool)=>(i:Int)<=CF r.l9 4/\nx=TC r i/\f3=decide (i=0)) (λi nx f3=>[(9,.int .i64 i)]) (λi nx f3=>bif f3 then[]else[(3,3,.bx [.int .i64 (JF r.data).b,.int .i64 (JF r.data).f,.int .i64 (JF r.data).r,.int .i64 (JF r.data).o,.int .i64 (FA r.y9).b,.int .i64 (FA r.y9).f,.int .i64 (FA r.y9).r,.int .i64 (FA r.y9).o,.int .i64 (CF r.l9 4),.nil,.row 3000 0 1 0 nx.length,.int .i64 0]),(3000,130,.rw 1 (nx.map AZ))]) 0 [] true ⟨O',rfl,rfl⟩ ?_;intro i nx f3 ⟨s1,s2,s3⟩ Du;have ik:nx.length=i:=by rw[s2];simp[TC]
    have eh:nx++[CF (GR r.next (i:Int)) (1+CF r.l9 4+(0:Int))]=TC r (i+1):=by rw[<-Ho,TC,bX,s2];rfl
    have pe:f3=true->nx=[]:=λh=>by
     rw[h]at s3;have:i=0:=by simpa using s3.symm
     subst this;rw[s2];rfl
    have Dd:(EL r).out=CF r.out (1+CF r.l9 4+(0:Int)):=by
     show CF r.out (1+CF r.l9 4+(min r.nodes.length 4:Nat))=_;rw[Ho]
    have Db:CF r.l9 4<=i->(EL r).next=nx:=λh=>by
     have hi:i=(CF r.l9 4).toNat:=O'
     rw[s2,hi];rfl
    have Cz:(EL r).nodes.map QZ=[]:=by rw[pS,<-p3];rfl
    cases f3;all_goals (
     try (obtain rfl:=pe rfl)
     repeat' (first|apply AG<;>intro hc<;>try omega|apply AR;omega|(refine C6 (λ_=>rfl) rfl ?_ ?_;(first|rfl|simp))|apply CT|apply AE|refine AD (fZ W r.next _ _) ?_|refine AD (Q3 W _ _ (lB h5 _) O') ?_|refine AD (Q3 W r.out _ h4 O') ?_)<;>conv=>whnf
     ·first
       |refine DH (enc:=AZ) _ rfl rfl rfl O' O' ?_
       |refine MH (enc:=AZ) _ rfl rfl O' ?_
      (conv=>whnf)
      repeat' (first|apply AR;omega|fail)<;>conv=>whnf
      exact BB [(3000,130)] E' (Du (i+1) _ false O' ⟨O',eh,Z'⟩)
     ·try (refine uJ rfl rfl ?_;(conv=>whnf))
      skip
      refine AW ?_ (Vh r);have Da:=Db hc;show _=AV.agg [_,_,_,_,_,_,_,_,_,.sl _ ((EL r).nodes.map QZ),.sl _ ((EL r).next.map AZ),.int .i64 (EL r).out];rw[Cz,Da,Dd];rfl))
  )
end Go.e9

namespace Go.e9
open F
attribute [local irreducible] AA AF AX AC B4 AU A7 A8 BV BI B0 DS BG A1 BU CB AB A2 AH pw CG B3 CR DK C2 CO CJ BL CY C3 C4 CX C7
variable {L:Lib}
theorem Vj(r:Rw):DN (EL r)=true:=by
 obtain⟨d1,d2,d3⟩:=wK r.data;obtain⟨c1,c2,c3⟩:=vW r.y9;have hs:=NR (v:=r.l9) (m:=4) O';rw[C1];refine⟨d1,c1,⟨hs.1,by show CF r.l9 4<=64;omega,by simp[EL,NB];omega,by simp[EL];omega⟩,?_,?_,?_⟩
 ·have key:∀(m j:Nat),m+j=min r.nodes.length 4->G1 (FA r.y9) (CF r.l9 4) j (((List.range' j m).map (bJ r)).map λts=>(⟨false,ts⟩:Nd))=true:=by
   intro m;induction m with
   |zero=>intro j _;rfl
   |succ m ih=>
    intro j hj;rw[List.range'_succ,Qa,Qa,G1,ih (j+1) O',Bool.and_true];simp only[za,decide_eq_true_eq];unfold bJ;have fe:j<r.nodes.length:=O'
    rw[zE fe];simp only;refine⟨by simp[RN];omega,?_⟩;rw[ga];intro t ht;obtain⟨i,_,rfl⟩:=Ka.1 ht;rw[IA];apply decide_eq_true;simp only[W7];have h1:=NR (v:=r.nodes[j].1.2.getD i 0) (m:=1+CF r.l9 4+j) O';refine⟨O',O',?_⟩;split
    ·have h2:=NR (v:=GR r.nodes[j].2.2 (i:Int)) (m:=3) O'
     obtain⟨e1,e2,e3,e4⟩:=RB c1;have c1':=c1;unfold WV at c1';have h3:=G2 (FA r.y9).f;have h4:=RI (n:=(FA r.y9).f) (m:=(FA r.y9).b-1) O';rcases(O':CF (GR r.nodes[j].2.2 (i:Int)) 3=0\/CF (GR r.nodes[j].2.2 (i:Int)) 3=1\/CF (GR r.nodes[j].2.2 (i:Int)) 3=2)with h|h|h
     all_goals rw[h]
     ·refine Or.inr ?_
      unfold FT;exact⟨c1,O',O'⟩
     ·refine Or.inr ?_
      unfold FT;exact⟨c1,O',O'⟩
     ·exact Or.inl O'
    ·exact Or.inr (An0 c1 _)
  have:=key (min r.nodes.length 4) 0 O'
  rw[<-List.range_eq_range']at this;exact this
 ·unfold NA
  rw[ga];intro v hv;obtain⟨i,_,rfl⟩:=Ka.1 hv;have h1:=NR (v:=GR r.next (i:Int)) (m:=1+CF r.l9 4+(min r.nodes.length 4:Nat)) O';have:(EL r).nodes.length=min r.nodes.length 4:=by simp[EL,NB]
  rw[decide_eq_true_eq,this];show _/\_<=CF r.l9 4+_;omega
 ·have h1:=NR (v:=r.out) (m:=1+CF r.l9 4+(min r.nodes.length 4:Nat)) O'
  have:(EL r).nodes.length=min r.nodes.length 4:=by simp[EL,NB]
  rw[this];show 0<=CF r.out _/\CF r.out _<=CF r.l9 4+_;omega
end Go.e9

namespace Go.e9
variable {L:Lib}
def CE(N:Nat):AL->Bool
 |.t n=>Eb n N
 |.c _=>true
def bQ(N:Nat):EF->Bool
 |.q9 x=>CE N x
 |.ak _ _=>true
 |.pick c a b=>CE N c&&(CE N a&&CE N b)
 |.bin _ x y=>CE N x&&CE N y
 |.beq _ x y=>CE N x&&CE N y
 |.un _ x=>CE N x
 |.conv _ x=>CE N x
 |.box _ x=>CE N x
 |.alloc _ _=>true
 |.build _ ps=>ps.all λp=>CE N p.2.2
 |.b8 _ _ ps=>ps.all (CE N)
 |.lit _ ps=>ps.all (CE N)
 |.o4 x _=>CE N x
 |.og x _ _ _=>CE N x
 |.u4 _ _ x i=>CE N x&&CE N i
 |.ld _ _ x=>CE N x
 |.st _ x v=>CE N x&&CE N v
 |.mk _ _ _ _ l c=>CE N l&&CE N c
 |.iz _ x lo hi=>CE N x&&((lo.all (CE N))&&(hi.all (CE N)))
 |.ext x _=>CE N x
 |.len x=>CE N x
 |.mm _ xs=>xs.all (CE N)
 |.app _ _ _ x y=>CE N x&&CE N y
 |.call _ xs=>xs.all (CE N)
 |.j6 _ xs=>xs.all (CE N)
 |.uh _ x=>CE N x
 |.jg _ x=>CE N x
 |.bad=>true
 |.qo _=>true
 |.oa _ _ x y=>CE N x&&CE N y
 |.fm _ _ _ x c=>CE N x&&CE N c
 |.ru x k=>CE N x&&CE N k
 |.qp x k v=>CE N x&&(CE N k&&CE N v)
 |.mg x=>CE N x
 |.qm _ _ xs=>xs.all (CE N)
 |.v8 x xs=>CE N x&&xs.all (CE N)
 |.o8 _ xs=>xs.all (CE N)
 |.y5 _ _ xs=>xs.all (CE N)
 |.dh _ _ xs=>xs.all (CE N)
 |.qt _ _ x v=>CE N x&&CE N v
 |.dw _ _ _ x y=>CE N x&&CE N y
def Z2(N:Nat)(a:AI):Bool:=(a.dst.all λd=>Eb d N)&&((a.guard.all λg=>Eb g.1 N)&&bQ N a.op)
def J9(N:Nat):BH->Bool
 |.skip=>true
 |.ops l _=>l.all (Z2 N)
 |.dr c ts _=>J9 N c&&ts.all λt=>Eb t N
 |.scope c=>J9 N c
 |.seq a b=>J9 N a&&J9 N b
 |.cond c a b=>CE N c&&(J9 N a&&J9 N b)
 |.block _ c=>J9 N c
 |.loop c=>J9 N c
 |.exit _=>true
 |.ret=>true
def SP(N:Nat):It->Bool
 |.code c=>J9 N c
 |.qa ts _=>ts.all λt=>Eb t N
 |.c9 _=>true
 |.lp c=>J9 N c
structure Gh(N:Nat)(G T T':Tm):Prop where
 lo:∀j,j<N->j8 T' j=j8 T j
 hi:∀j,N<=j->j8 T' j=j8 G j
variable {N:Nat} {G:Tm}
theorem VN{a b:Nat}:Eb a b=true↔a<b:=by simp[Eb];omega
theorem Gh.ev{st:St}{T':Tm}{o:Own}(h:Gh N G st.tm T'){x:AL}(hx:CE N x=true):St.ev ⟨T',o⟩ x=st.ev x:=by
 cases x with
 |t n=>exact h.lo n (VN.1 hx)
 |c v=>rfl
theorem WF{f g:AL->AV}{xs:List AL}(h:∀x,CE N x=true->f x=g x)(hx:xs.all (CE N)=true):xs.map f=xs.map g:=by
 apply Bd;intro x hm;exact h x (ga.1 hx x hm)
theorem Aij{C:Cl}{b9:u_}{ρ ρ':AL->AV}{own:Own}(h:∀x,CE N x=true->ρ' x=ρ x):∀(op:EF),bQ N op=true->j4 C b9 ρ' own op=j4 C b9 ρ own op:=by
 intro op o9;cases op;case build zero ps=>
  have:(ps.map λp=>(p.1,p.2.1,ρ' p.2.2))=ps.map λp=>(p.1,p.2.1,ρ p.2.2):=by
   apply Bd;intro p hm;rw[h _ (ga.1 o9 p hm)]
  simp only[j4,this]
 case b8 s a7 ps=>
  have:ps.mapM (λx=>cellsOf (ρ' x))=ps.mapM (λx=>cellsOf (ρ x)):=by
   have qg:ps.all (CE N)=true:=o9;clear o9;induction ps with
   |nil=>rfl
   |cons p r ih=>
    simp only[ya,za]at qg;simp only[Pb,h _ qg.1,ih qg.2]
  simp only[j4,this]
 case lit a7 ps=>
  have:ps.mapM (λx=>cellsOf (ρ' x))=ps.mapM (λx=>cellsOf (ρ x)):=by
   have qg:ps.all (CE N)=true:=o9;clear o9;induction ps with
   |nil=>rfl
   |cons p r ih=>
    simp only[ya,za]at qg;simp only[Pb,h _ qg.1,ih qg.2]
  simp only[j4,this]
 case mm m xs=>simp only[j4,WF h o9]
 case call f xs=>simp only[j4,WF h o9]
 case j6 f xs=>simp only[j4,WF h o9]
 case qm p f xs=>
  have:xs.mapM (λx=>IL (ρ' x))=xs.mapM (λx=>IL (ρ x)):=by
   have qg:xs.all (CE N)=true:=o9;clear o9;induction xs with
   |nil=>rfl
   |cons p r ih=>
    simp only[ya,za]at qg;simp only[Pb,h _ qg.1,ih qg.2]
  simp only[j4,this]
 case o8 f xs=>simp only[j4,WF h o9]
 case y5 s f xs=>simp only[j4,WF h o9]
 case dh s f xs=>simp only[j4,WF h o9]
 case v8 x xs=>
  simp only[bQ,za]at o9;simp only[j4,WF h o9.2,h _ o9.1]
 case iz a7 x lo hi=>
  simp only[bQ,za]at o9;obtain⟨h1,h2,h3⟩:=o9;cases lo<;>cases hi<;>simp only[Option.all_some,Option.all_none]at h2 h3<;>simp only[j4,h _ h1,h _,h2,h3]
 all_goals (simp only[bQ,za]at o9;simp only[j4,h _,o9])
theorem Gh.dst{T T':Tm}(h:Gh N G T T'){d:Nat}(hd:d<N)(v:AV):Gh N G (kv T d v) (kv T' d v):=by
 constructor
 ·intro j hj
  rw[cQ,cQ,h.lo j hj]
 ·intro j hj
  rw[cQ,h.hi j hj,if_neg O']
theorem Gh.od{T T':Tm}{o:Own}(h:Gh N G T T'){d:Option Nat}(hd:(d.all λd=>Eb d N)=true)(v:AV):((⟨T',o⟩:St).dst d v).own=((⟨T,o⟩:St).dst d v).own/\Gh N G ((⟨T,o⟩:St).dst d v).tm ((⟨T',o⟩:St).dst d v).tm:=by
 cases d with
 |none=>exact⟨rfl,h⟩
 |some d=>exact⟨rfl,h.dst (VN.1 hd) v⟩
theorem AnD{C:Cl}{a:AI}(ha:Z2 N a=true){T T':Tm}{o:Own}(h:Gh N G T T'){s':St}(hs:C5 C a ⟨T',o⟩=some s'):∃s,C5 C a ⟨T,o⟩=some s/\s'.own=s.own/\Gh N G s.tm s'.tm:=by
 simp only[Z2,za]at ha;obtain⟨h1,h2,h3⟩:=ha;have hg:GL ⟨T',o⟩ a.guard=GL ⟨T,o⟩ a.guard:=by
  cases zd:a.guard with
  |none=>rfl
  |some g=>
   rw[zd]at h2;simp only[GL,h.lo _ (VN.1 h2)]
 have he:=Aij (C:=C) (b9:=a.b9) (own:=o) (ρ:=St.ev ⟨T,o⟩) (ρ':=St.ev ⟨T',o⟩) (λx hx=>Gh.ev (st:=⟨T,o⟩) h hx) a.op h3;unfold C5 at hs⊢;rw[hg,he]at hs;cases Ei:GL ⟨T,o⟩ a.guard with
 |none=>rw[Ei]at hs;cases hs
 |some b=>
  rw[Ei]at hs;cases b with
  |false=>
   simp only[ta]at hs⊢;subst hs;exact⟨_,rfl,h.od h1 _⟩
  |true=>
   simp only at hs⊢;cases hee:j4 C a.b9 (St.ev ⟨T,o⟩) o a.op with
   |none=>rw[hee]at hs;cases hs
   |some e=>
    rw[hee]at hs;simp only[Ca,ta]at hs⊢;subst hs;refine⟨_,rfl,?_⟩;cases e with
    |val v=>exact h.od h1 v
    |new s b v=>exact⟨rfl,(h.od (o:=o) h1 _).2⟩
    |Ae s b v=>exact⟨rfl,(h.od (o:=o) h1 _).2⟩
    |cn v o'=>exact⟨rfl,(h.od (o:=o) h1 _).2⟩
    |u5 s x=>exact⟨rfl,(h.od (o:=o) h1 _).2⟩
    |tn s x v=>exact⟨rfl,(h.od (o:=o) h1 _).2⟩
    |Bp s v o'=>exact⟨rfl,(h.od (o:=o) h1 _).2⟩
theorem Adu{C:Cl}:∀{l:List AI},l.all (Z2 N)=true->∀{T T':Tm}{o:Own},Gh N G T T'->∀{s':St},DT C l ⟨T',o⟩=some s'->∃s,DT C l ⟨T,o⟩=some s/\s'.own=s.own/\Gh N G s.tm s'.tm
 |[],_,T,T',o,h,s',hs=>by
  simp only[DT,ta]at hs;subst hs;exact⟨_,rfl,rfl,h⟩
 |a::l,ha,T,T',o,h,s',hs=>by
  simp only[ya,za]at ha;simp only[DT]at hs;cases h1:C5 C a ⟨T',o⟩with
  |none=>rw[h1]at hs;cases hs
  |some s1=>
   rw[h1]at hs;obtain⟨s2,e1,e2,e3⟩:=AnD ha.1 h h1;obtain⟨T1,o1⟩:=s1;obtain⟨T2,o2⟩:=s2;simp only at e2 e3;subst e2;obtain⟨s3,f1,f2,f3⟩:=Adu ha.2 e3 hs;exact⟨s3,by simp only[DT,e1,f1],f2,f3⟩
theorem aM{id:Nat}:∀{k k':List It},k.all (SP N)=true->GS id k=some k'->k'.all (SP N)=true
 |[],_,_,h=>by simp[GS]at h
 |it::k,k',hk,h=>by
  simp only[ya,za]at hk;cases it with
  |c9 i=>
   simp only[GS]at h;split at h
   ·cases h;exact hk.2
   ·exact aM hk.2 h
  |code c=>simp only[GS]at h;exact aM hk.2 h
  |qa a b=>simp only[GS]at h;exact aM hk.2 h
  |lp c=>simp only[GS]at h;exact aM hk.2 h
theorem KJ{C:Cl}:∀(n:Nat){k:List It},k.all (SP N)=true->∀{T T':Tm}{o:Own},Gh N G T T'->∀{s':St},run C n k ⟨T',o⟩=some s'->∃s,run C n k ⟨T,o⟩=some s/\s'.own=s.own/\Gh N G s.tm s'.tm
 |0,k,_,T,T',o,_,s',hs=>by simp[run]at hs
 |n+1,[],_,T,T',o,h,s',hs=>by
  simp only[run,ta]at hs⊢;subst hs;exact⟨_,rfl,rfl,h⟩
 |n+1,.c9 _::k,hk,T,T',o,h,s',hs=>by
  simp only[ya,za]at hk;simp only[run]at hs⊢;exact KJ n hk.2 h hs
 |n+1,.qa ts ss::k,hk,T,T',o,h,s',hs=>by
  simp only[ya,za]at hk;simp only[run]at hs⊢;refine KJ n hk.2 ⟨λj hj=>?_,λj hj=>?_⟩ hs
  ·rw[ZE,ZE,h.lo j hj]
  ·rw[ZE,h.hi j hj,if_neg]
   intro hc;have:=ga.1 hk.1 j (by simpa using hc)
   have:=VN.1 this
   omega
 |n+1,.lp c::k,hk,T,T',o,h,s',hs=>by
  simp only[run]at hs⊢;have jr:=hk;simp only[ya,za]at hk;exact KJ n (by simp only[ya,za];exact⟨hk.1,hk.1,hk.2⟩) h hs
 |n+1,.code c::k,hk,T,T',o,h,s',hs=>by
  simp only[ya,za]at hk;obtain⟨hc,hk⟩:=hk;cases c with
  |skip=>simp only[run]at hs⊢;exact KJ n hk h hs
  |ops l d=>
   simp only[run]at hs⊢;cases h1:DT C l ⟨T',o⟩with
   |none=>rw[h1]at hs;cases hs
   |some s1=>
    rw[h1]at hs;obtain⟨s2,e1,e2,e3⟩:=Adu (show l.all (Z2 N)=true from hc) h h1;obtain⟨T1,o1⟩:=s1;obtain⟨T2,o2⟩:=s2;simp only at e2 e3;subst e2;rw[e1];exact KJ n hk e3 hs
  |dr c ts ss=>
   simp only[run]at hs⊢;simp only[SP,J9,za]at hc;exact KJ n (by simp only[ya,za];exact⟨hc.1,hc.2,hk⟩) h hs
  |scope c=>
   simp only[run]at hs⊢;exact KJ n (by simp only[ya,za];exact⟨hc,hk⟩) h hs
  |seq a b=>
   simp only[run]at hs⊢;simp only[SP,J9,za]at hc;exact KJ n (by simp only[ya,za];exact⟨hc.1,hc.2,hk⟩) h hs
  |cond x a b=>
   simp only[SP,J9,za]at hc;simp only[run,Gh.ev (st:=⟨T,o⟩) h hc.1]at hs⊢;cases hx:St.ev ⟨T,o⟩ x<;>rw[hx]at hs<;>try (simp at hs;done)
   rename_i q;cases q
   ·exact KJ n (by simp only[ya,za];exact⟨hc.2.2,hk⟩) h hs
   ·exact KJ n (by simp only[ya,za];exact⟨hc.2.1,hk⟩) h hs
  |block id c=>
   simp only[run]at hs⊢;exact KJ n (by simp only[ya,za];exact⟨hc,rfl,hk⟩) h hs
  |loop c=>
   simp only[run]at hs⊢;exact KJ n (by simp only[ya,za];exact⟨hc,hc,hk⟩) h hs
  |exit id=>
   simp only[run]at hs⊢;cases he:GS id k with
   |none=>rw[he]at hs;cases hs
   |some k'=>
    rw[he]at hs;exact KJ n (aM hk he) h hs
  |ret=>
   simp only[run,ta]at hs⊢;subst hs;exact⟨_,rfl,rfl,h⟩
def H8(N:Nat):Tm->Tm
 |[]=>[]
 |(i,v)::r=>(N+i,v)::H8 N r
def gh(N:Nat):Tm->Tm
 |[]=>[]
 |(i,v)::r=>bif te N i then(zf i N,v)::gh N r else gh N r
theorem sU(N j:Nat):∀T:Tm,j8 (H8 N T) (N+j)=j8 T j
 |[]=>rfl
 |(i,v)::r=>by
  have ih:=sU N j r;simp only[H8,j8,ih];by_cases h:j=i
  ·simp[h]
  ·rw[if_neg h,if_neg O']
theorem sV{N j:Nat}(hj:j<N):∀T:Tm,j8 (H8 N T) j = .any
 |[]=>rfl
 |(i,v)::r=>by
  simp only[H8,j8,sV hj r];rw[if_neg O']
theorem sS(N j:Nat):∀T:Tm,j8 (gh N T) j=j8 T (N+j)
 |[]=>rfl
 |(i,v)::r=>by
  have ih:=sS N j r;simp only[gh];cases h:te N i
  ·have h1:¬N<=i:=λe=>by rw[Nat.ble_eq_true_of_le e]at h;cases h
   simp only[cond,j8,ih];rw[if_neg O']
  ·have h1:=oc h
   simp only[cond,j8,ih];by_cases h2:j=i-N
   ·rw[if_pos (show j=zf i N from h2),if_pos O']
   ·rw[if_neg (show¬j=zf i N from h2),if_neg O']
def N4(f:AV->AV):Tm->Tm
 |[]=>[]
 |(i,v)::r=>(i,f v)::N4 f r
theorem MF{f:AV->AV}(hf:f .any = .any)(j:Nat):∀T:Tm,j8 (N4 f T) j=f (j8 T j)
 |[]=>hf.symm
 |(i,v)::r=>by
  simp only[N4,j8,MF hf j r];by_cases h:j=i<;>simp[h]
theorem oK(f:AV->AV):∀(i:Nat)(vs:w_),CU i (vs.map f)=N4 f (CU i vs)
 |_,[]=>rfl
 |i,v::r=>by simp only[Qa,CU,N4,oK f (i+1) r]
theorem cN(j:Nat)(b:Tm):∀a:Tm,((a.any λp=>p.1 == j)=true/\j8 (a++b) j=j8 a j)\/((a.any λp=>p.1 == j)=false/\j8 (a++b) j=j8 b j)
 |[]=>Or.inr ⟨rfl,rfl⟩
 |(i,v)::r=>by
  by_cases h:j=i
  ·subst h
   exact Or.inl (by simp[j8])
  ·have h':¬i=j:=λe=>h e.symm
   rcases cN j b r with⟨h1,h2⟩|⟨h1,h2⟩
   ·exact Or.inl ⟨by rw[jc,h1,Bool.or_true],by simp only[mb,j8,if_neg h,h2]⟩
   ·exact Or.inr ⟨by rw[jc,h1,Bool.or_false];simpa using h',by simp only[mb,j8,if_neg h,h2]⟩
theorem oJ(j:Nat):∀(i:Nat)(vs:w_),((CU i vs).any λp=>p.1 == j)=true->j<i+vs.length
 |_,[],h=>by simp[CU]at h
 |i,v::r,h=>by
  simp only[CU,jc,Bool.or_eq_true,beq_iff_eq]at h;rcases h with h|h
  ·simp;omega
  ·have:=oJ j (i+1) r h
   simp;omega
theorem sT(j:Nat):∀(i:Nat)(vs:w_),((CU i vs).any λp=>p.1 == j)=false->j8 (CU i vs) j = .any
 |_,[],_=>rfl
 |i,v::r,h=>by
  simp only[CU,jc,Bool.or_eq_false_iff,beq_eq_false_iff_ne]at h;simp only[CU,j8];rw[if_neg λe=>h.1 e.symm,sT j (i+1) r h.2]
theorem NQ(σ:GJ):BD σ .any = .any:=rfl
def UU(tm:Tm):List LS->Option (w_)
 |[]=>some []
 |.tmp t::r=>match KH (tg tm t),UU tm r with
  |some v,some vs=>some (v::vs)
  |_,_=>none
 |.cell _ _ _::_=>none
def bY(N:Nat):List LS->Bool
 |[]=>true
 |.tmp t::r=>Eb t N&&bY N r
 |.cell _ _ _::_=>false
def uG(N:Nat)(fn:AFn)(tm:Tm)(K:AV->Mem->Prop)(ch:Tm)(M':Mem):Prop:=gh N ch=tm/\∃rs,UU ch fn.res=some rs/\K (J2 rs) M'
theorem AmK{σ:GJ}{v u:AV}(h:KH v=some u):u=v/\BD σ v=BN σ v/\KH (BD σ v)=some (BD σ v):=by
 cases v<;>simp[KH]at h<;>subst h<;>exact⟨rfl,rfl,rfl⟩
theorem qW{σ:GJ}{ch:Tm}{M:Mem}{s s':St}(hr:RX σ ch M s')(x6:∀j,j<N->j8 s'.tm j=j8 s.tm j):∀{res:List LS}{rs:w_},bY N res=true->UU ch res=some rs->res.mapM (GE s)=some (rs.map (BN σ))/\∀v∈rs,BD σ v=BN σ v
 |[],rs,_,h=>by
  simp only[UU,ta]at h;subst h;exact⟨rfl,Z'⟩
 |.cell _ _ _::_,_,_,h=>by simp[UU]at h
 |.tmp t::r,rs,hl,h=>by
  simp only[bY,za]at hl;simp only[UU]at h;cases h1:KH (tg ch t)with
  |none=>rw[h1]at h;simp at h
  |some v=>
   cases h2:UU ch r with
   |none=>rw[h1,h2]at h;simp at h
   |some vs=>
    rw[h1,h2]at h;simp only[ta]at h;subst h;obtain⟨i1,i2⟩:=qW hr x6 hl.2 h2;obtain⟨rfl,j2,j3⟩:=AmK (σ:=σ) h1;have:j8 s.tm t=BD σ (tg ch t):=by
     rcases hr.tm t with e|e
     ·rw[e]at h1;cases h1
     ·rw[<-x6 t (VN.1 hl.1),e]
    refine⟨?_,?_⟩
    ·rw[j2]at j3 this
     simp only[Pb,GE,this,j3,i1,Qa];rfl
    ·intro v hv
     simp only[zc]at hv;rcases hv with rfl|hv
     ·exact j2
     ·exact i2 v hv
theorem Yt{σ:GJ}{rs:w_}(h:∀v∈rs,BD σ v=BN σ v):J2 (rs.map (BN σ))=BD σ (J2 rs):=by
 match rs,h with
 |[],_=>rfl
 |[v],h=>exact(h v Z').symm
 |_::_::_,_=>rfl
theorem I7{f:Nat}{fn:AFn}{vs:w_}{tm:Tm}{M:Mem}{K:AV->Mem->Prop}(N:Nat)(hL:L f=some fn)(hp:gd vs.length fn.cr=true)(hN:(te fn.cr N&&(J9 N fn.body&&bY N fn.res))=true)
  (h:AA L [.code fn.body] (CU 0 vs++H8 N tm) M (uG N fn tm K)):A2 L f vs tm M K:=by
 intro σ own hs;simp only[za]at hN;obtain⟨n1,n2,n3⟩:=hN;have n1:=oc n1;have hp:vs.length=fn.cr:=Kd hp;have Ik:RX σ (CU 0 vs++H8 N tm) M ⟨N4 (BD σ) (CU 0 vs++H8 N tm),own⟩:=⟨λj=>Or.inr (by rw[ME];exact MF (NQ σ) j _),hs⟩;obtain⟨n,c,s',hr,σ',ch,M',hR,hg,rs,Ay,hk⟩:=h σ _ Ik;have On:Gh N (N4 (BD σ) (H8 N tm)) (CU 0 (vs.map (BD σ))) (N4 (BD σ) (CU 0 vs++H8 N tm)):=by
  constructor
  ·intro j hj
   rw[oK,MF (NQ σ),MF (NQ σ)];rcases cN j (H8 N tm) (CU 0 vs)with⟨_,e⟩|⟨hn,e⟩
   ·rw[e]
   ·rw[e,sV hj,sT j 0 vs hn]
  ·intro j hj
   rw[MF (NQ σ),MF (NQ σ)];rcases cN j (H8 N tm) (CU 0 vs)with⟨hn,e⟩|⟨_,e⟩
   ·have:=oJ j 0 vs hn
    omega
   ·rw[e]
 obtain⟨s,r1,r2,r3⟩:=KJ n (by simp[SP,n2]) On hr;obtain⟨i1,i2⟩:=qW (s:=s) hR r3.lo n3 Ay;refine⟨J2 rs,s.own,σ',M',IB.intro hL (by simpa using hp) ⟨n,c,s,r1,?_,rfl⟩,?_,?_,hk⟩
 ·rw[i1,Ca,Yt i2]
 ·rw[<-r2];exact hR.sat
 ·intro j
  have e1:tg tm j=tg ch (N+j):=by rw[ME,ME,<-hg,sS]
  rcases hR.tm (N+j)with e|e
  ·rw[e1,e];rfl
  ·rw[e1,<-e,r3.hi (N+j) O',MF (NQ σ),sU,<-ME,e1]
theorem VJ{α:Type}{enc:α->w_}{l:List α}{i:Nat}{vs:w_}{K:v_->Prop}(n:Nat)(e:α)(hn:i=n)(he:vs=enc e)(hz:∀x,(enc x).length=vs.length)(hi:n<l.length)(h:K ((l.set n e).map enc)):A8 (l.map enc) i 0 vs K:=by
 subst hn;exact Afp e he hz hi h
theorem I6{x:Int}{len:Nat}{K:Nat->Nat->Prop}(h:Nat)(hx:x=h)(hl:h<=len)(hk:K 0 h):BU none (some x) len K:=⟨0,h,rfl,⟨O',O',O'⟩,O',hk⟩
end Go.e9

namespace Go.e9
section
variable {K:AV->Prop} {a b:Nat} {k':IntKind}
theorem wrap_u32(n:Nat):IntKind.u32.wrap (n:Int)=((n%4294967296:Nat):Int):=by rw[IntKind.wrap_u32];omega
theorem Aol(n:Nat):IntKind.u64.wrap (n:Int)=((n%18446744073709551616:Nat):Int):=by
 simp[IntKind.wrap,IntKind.bits,IntKind.signed]
theorem HW(h:a+b<=18446744073709551615)(hk:K (.int .u64 ((a+b:Nat):Int))):AC .add .u64 (a:Int) .u64 (b:Int) K :=
 ⟨_,by simp only[DM,if_true];rw[IntWalk.u64_in _ O'],by simpa using hk⟩
theorem KU(h:b<=a)(h2:a<=18446744073709551615)(hk:K (.int .u64 ((a-b:Nat):Int))):AC .sub .u64 (a:Int) .u64 (b:Int) K :=
 ⟨_,by simp only[DM,if_true];rw[IntWalk.u64_in _ O'],by rw[show(a:Int)-b=((a-b:Nat):Int)by omega];exact hk⟩
theorem dM(h:b<=18446744073709551616)(hk:K (.int .u64 ((FF a b:Nat):Int))):AC .sub .u64 (a:Int) .u64 (b:Int) K :=
 dG (v := .int .u64 (IntKind.u64.wrap ((a:Int)-b))) (by simp only[DM,if_true]) (by
  have e:IntKind.u64.wrap ((a:Int)-b)=((FF a b:Nat):Int):=by
   rw[XB];simp only[IntKind.wrap,IntKind.bits,IntKind.signed];simp;omega
  rw[e];exact hk)
theorem QM(h:a*b<=18446744073709551615)(hk:K (.int .u64 ((a*b:Nat):Int))):AC .mul .u64 (a:Int) .u64 (b:Int) K :=
 ⟨_,by simp only[DM,if_true];rw[<-Kc,IntWalk.u64_in _ O'],hk⟩
theorem dJ(h:0<b)(h2:a<=18446744073709551615)(hk:K (.int .u64 ((a/b:Nat):Int))):AC .quo .u64 (a:Int) .u64 (b:Int) K:=by
 refine⟨_,by simp only[DM];rw[if_pos ⟨trivial,O'⟩],?_⟩;rw[IntWalk.u64_quo _ _ ⟨O',O',O'⟩,<-Int.natCast_ediv];exact hk
theorem ZU(h:0<b)(hk:K (.int .u64 ((a%b:Nat):Int))):AC .rem .u64 (a:Int) .u64 (b:Int) K:=by
 refine⟨_,by simp only[DM];rw[if_pos ⟨trivial,O'⟩],?_⟩;rw[IntWalk.rem_in _ _ O',<-Qe];exact hk
theorem And{k:IntKind}{n:Nat}(hn:n<=k.bits):DM .shl k (a:Int) k' (n:Int)=some (.int k (k.wrap ((a*2^n:Nat):Int))):=by
 simp only[DM];rw[if_neg O',va,ib hn];simp
theorem Ang{k:IntKind}{n:Nat}(hn:n<=k.bits):DM .shr k (a:Int) k' (n:Int)=some (.int k ((a/2^n:Nat):Int)):=by
 simp only[DM];rw[if_neg O',va,ib hn,Int.fdiv_eq_ediv_of_nonneg _ (Int.le_of_lt (Int.pow_pos O'))];simp
theorem dK{k:IntKind}{n:Nat}(hn:n<=k.bits)(hk:K (.int k (k.wrap ((a*2^n:Nat):Int)))):AC .shl k (a:Int) k' (n:Int) K:=⟨_,And hn,hk⟩
theorem QO{k:IntKind}{n:Nat}(hn:n<=k.bits)(hk:K (.int k ((a/2^n:Nat):Int))):AC .shr k (a:Int) k' (n:Int) K:=⟨_,Ang hn,hk⟩
theorem OI(h:a<=4294967295)(hk:K (.int .u64 ((a*4294967296:Nat):Int))):AC .shl .u64 (a:Int) k' 32 K:=by
 refine dK (n:=32) Y' ?_;rw[Aol,show a*2^32%18446744073709551616=a*4294967296 by omega];exact hk
theorem GQ(hk:K (.int .u64 ((a/4294967296:Nat):Int))):AC .shr .u64 (a:Int) k' 32 K:=QO (n:=32) Y' hk
theorem dL(hk:K (.int .u64 ((a/9223372036854775808:Nat):Int))):AC .shr .u64 (a:Int) k' 63 K:=QO (n:=63) Y' hk
theorem Afa(hk:K (.int .u64 ((a/4:Nat):Int))):AC .shr .u64 (a:Int) k' 2 K:=QO (n:=2) Y' hk
theorem Ae9(hk:K (.int .u32 ((a/65536:Nat):Int))):AC .shr .u32 (a:Int) k' 16 K:=QO (n:=16) Y' hk
theorem Afb(hk:K (.int .u32 ((a/256:Nat):Int))):AC .shr .u32 (a:Int) k' 8 K:=QO (n:=8) Y' hk
theorem Ae8(hk:K (.int .u32 ((a/2:Nat):Int))):AC .shr .u32 (a:Int) k' 1 K:=QO (n:=1) Y' hk
theorem qB(w n:Nat):(Hb w (n:Int)).toNat=n%2^w:=by rw[BitVec.toNat_ofInt];omega
theorem Amf{n x y:Nat}(hx:x%2^n=0)(hy:y<2^n):x ||| y=x+y:=by
 have e:x=2^n*(x/2^n):=by have:=pc x (2^n);omega
 rw[e,<-Nat.two_pow_add_eq_or_of_lt hy]
theorem kO{k:IntKind}(n:Nat)(hx:a%2^n=0)(hy:b<2^n)(h:a+b<2^k.bits)(hw:k.wrap ((a+b:Nat):Int)=((a+b:Nat):Int))(hk:K (.int k ((a+b:Nat):Int))):AC .or k (a:Int) k (b:Int) K:=by
 refine dG (v := .int k (k.wrap (Hb k.bits (a:Int) ||| Hb k.bits (b:Int)).toNat)) (by simp only[DM,if_true]) ?_;rw[BitVec.toNat_or,qB,qB,dc O',dc O',Amf hx hy,hw];exact hk
theorem QN(h:a%4294967296=0/\b<4294967296/\a+b<=18446744073709551615)(hk:K (.int .u64 ((a+b:Nat):Int))):AC .or .u64 (a:Int) .u64 (b:Int) K :=
 kO 32 h.1 h.2.1 (show a+b<18446744073709551616 by omega) (IntWalk.u64_in _ O') hk
theorem uA(h:a<=18446744073709551615)(hk:K (.int .u64 ((a%4294967296:Nat):Int))):AC .and .u64 (a:Int) .u64 4294967295 K:=by
 refine dG (v := .int .u64 (IntKind.u64.wrap (Hb IntKind.u64.bits (a:Int) &&& Hb IntKind.u64.bits 4294967295).toNat)) (by simp only[DM,if_true]) ?_;rw[BitVec.toNat_and,qB,show(Hb IntKind.u64.bits 4294967295).toNat=2^32-1 by decide,Nat.and_two_pow_sub_one_eq_mod,show a%2^IntKind.u64.bits=a from dc (show a<18446744073709551616 by omega),IntWalk.u64_in _ O'];exact hk
theorem tZ(hk:K (.int .u32 (((a+b)%4294967296:Nat):Int))):AC .add .u32 (a:Int) .u32 (b:Int) K :=
 dG (v := .int .u32 (IntKind.u32.wrap ((a:Int)+b))) (by simp only[DM,if_true]) (by rw[<-Ge,wrap_u32];exact hk)
end
section
variable {K:Int->Prop} {n:Nat}
theorem tO(h:n<=18446744073709551615)(hk:K (n:Int)):A0 .u64 (n:Int) K:=ZP (IntWalk.u64_in _ O') hk
theorem E3(h:n<=4294967295)(hk:K (n:Int)):A0 .u32 (n:Int) K:=ZP (IntWalk.u32_in _ O') hk
theorem G7(hk:K ((n%4294967296:Nat):Int)):A0 .u32 (n:Int) K:=⟨by rw[wrap_u32];exact hk⟩
theorem AeV(h:n<=255)(hk:K (n:Int)):A0 .u8 (n:Int) K:=ZP (IntWalk.u8_in _ O') hk
end
theorem dS{tb:u_}{n v:Nat}{K:Nat->Prop}(hv:tb[n]?=some v)(hk:K v):VK tb (n:Int) K:=⟨O',v,by rw[va];exact hv,hk⟩
abbrev AJ(n:Nat):w_:=[.int .u32 (n:Int)]
theorem C8(l:u_):DR (l.map AJ):=L2 (λ_=>by simp[BK,AY]) l
section
variable {l:u_} {K:w_->Prop}
theorem dN{n:Nat}(hD:A3 l)(hn:n<l.length)(h:∀e,l[n]?=some e->e<4294967296->K (AJ e)):AU (l.map AJ) (n:Int) 1 K :=
 IR hn (λ_=>rfl) λe he=>h e he (hD.at he)
theorem RW{a:Int}(hD:A3 l)(hn:0<=a/\a<l.length)(h:∀e,l[a.toNat]?=some e->e<4294967296->K (AJ e)):AU (l.map AJ) a 1 K :=
 RY hn (λ_=>rfl) λe he=>h e he (hD.at he)
theorem tX{i:Nat}(hD:A3 l)(hi:i<l.length)(h:∀e,l[i]?=some e->e<4294967296->K (AJ e)):A7 (l.map AJ) (0+((i:Int)).toNat) 0 1 K :=
 VE (f:=AJ) hi (λ_=>rfl) λe he=>h e he (hD.at he)
theorem VD{i:Int}(hD:A3 l)(hi:0<=i/\i<l.length)(h:∀e,l[i.toNat]?=some e->e<4294967296->K (AJ e)):A7 (l.map AJ) (0+i.toNat) 0 1 K :=
 kL (f:=AJ) hi (λ_=>rfl) λe he=>h e he (hD.at he)
theorem GI{i v:Nat}{KK:v_->Prop}(hi:i<l.length)(h:KK ((l.set i v).map AJ)):A8 (l.map AJ) (0+((i:Int)).toNat) 0 [.int .u32 (v:Int)] KK:=H4 (enc:=AJ) v rfl (λ_=>rfl) hi h
theorem dR{i v:Nat}{KK:v_->Prop}(n:Nat)(hn:i=n)(hi:n<l.length)(h:KK ((l.set n v).map AJ)):A8 (l.map AJ) i 0 [.int .u32 (v:Int)] KK:=VJ (enc:=AJ) n v hn rfl (λ_=>rfl) hi h
end
end Go.e9
namespace Go.e9
variable {L:Lib}
theorem Ev.xE{f:Nat}{fn:AFn}{vs:w_}{P:AV->Prop}(hL:L f=some fn)(hp:gd vs.length fn.cr=true)(hd:MP vs=true)(h:AA L [.code fn.body] (CU 0 vs) [] (λtm M=>∃r,QQ fn r tm M/\P r))(hs:fn.tk=false:=by rfl):∃r,Ev L f vs r/\P r:=by
 obtain⟨n,c,o6,hr,σ,tm,M,hR,r,hq,hP⟩:=h (λ_ _=>(0,0)) ⟨CU 0 vs,Own.emp⟩ ⟨λj=>Or.inr (by rw[ME];exact aE hd j),⟨(λ_ _ _ e=>by cases e),(λ_ _ _ e=>by simp[c8,e8]at e),(λ_ _ _ e=>by simp[c8,e8]at e),(λ_ _ _ _ _ _ e=>by simp[c8,e8]at e),(λ_ _ _ e=>by simp[c8,e8]at e)⟩⟩;exact⟨r,Ev.fwd hL (BO.1 hp) ⟨n,c,o6,hr,uH hR hq⟩ hs,hP⟩
def YX:EF->Bool
 |.ak .. |.box .. |.alloc .. |.b8 .. |.lit .. |.st .. |.mk .. |.app .. |.j6 .. |.v8 .. |.qt .. |.y5 .. |.dw .. |.dh .. |.qo .. |.qp .. |.oa .. |.fm .. =>false
 |_=>true
def KA:BH->Bool
 |.skip=>true
 |.ops l _=>l.all λa=>YX a.op
 |.dr c _ ss=>KA c&&ss.isEmpty
 |.scope c=>KA c
 |.seq a b=>KA a&&KA b
 |.cond _ a b=>KA a&&KA b
 |.block _ c=>KA c
 |.loop c=>KA c
 |.exit _=>true
 |.ret=>true
def Q6:It->Bool
 |.code c=>KA c
 |.qa _ ss=>ss.isEmpty
 |.c9 _=>true
 |.lp c=>KA c
theorem Aim{C:Cl}{b9:u_}{ρ:AL->AV}{own:Own}{op:EF}{E:B9}(ho:YX op=true)(h:j4 C b9 ρ own op=some E):∃v,E = .val v:=by
 cases op<;>first|(simp[YX]at ho;done)|skip
 all_goals simp only[j4]at h
 all_goals
  first
   |(simp only[ta]at h;exact⟨_,h.symm⟩)
   |(simp only[Cc]at h;obtain⟨_,_,rfl⟩:=h;exact⟨_,rfl⟩)
   |skip
 all_goals (repeat' split at h)
 all_goals
  first
   |(cases h;done)
   |(simp only[ta]at h;exact⟨_,h.symm⟩)
   |(simp only[Cc]at h;obtain⟨_,_,rfl⟩:=h;exact⟨_,rfl⟩)
theorem AnF{C:Cl}{a:AI}(ho:YX a.op=true){s s':St}(h:C5 C a s=some s'):s'.own=s.own:=by
 unfold C5 at h;split at h
 ·cases he:j4 C a.b9 s.ev s.own a.op with
  |none=>rw[he]at h;cases h
  |some E=>
   rw[he]at h;obtain⟨v,rfl⟩:=Aim ho he;simp only[Ca,ta]at h;subst h;simp only[St.app];cases a.dst<;>rfl
 ·simp only[ta]at h
  subst h;cases a.dst<;>rfl
 ·cases h
theorem Adv{C:Cl}:∀{l:List AI},(l.all λa=>YX a.op)=true->∀{s s':St},DT C l s=some s'->s'.own=s.own
 |[],_,s,s',h=>by simp only[DT,ta]at h;rw[h]
 |a::l,ho,s,s',h=>by
  simp only[ya,za]at ho;simp only[DT]at h;cases h1:C5 C a s with
  |none=>rw[h1]at h;cases h
  |some s1=>
   rw[h1]at h;rw[Adv ho.2 h,AnF ho.1 h1]
theorem aO{id:Nat}:∀{k k':List It},k.all Q6=true->GS id k=some k'->k'.all Q6=true
 |[],_,_,h=>by simp[GS]at h
 |it::k,k',hk,h=>by
  simp only[ya,za]at hk;cases it with
  |c9 i=>
   simp only[GS]at h;split at h
   ·cases h;exact hk.2
   ·exact aO hk.2 h
  |code c=>simp only[GS]at h;exact aO hk.2 h
  |qa a b=>simp only[GS]at h;exact aO hk.2 h
  |lp c=>simp only[GS]at h;exact aO hk.2 h
theorem KL{C:Cl}:∀(n:Nat){k:List It},k.all Q6=true->∀{s s':St},run C n k s=some s'->s'.own=s.own
 |0,k,_,s,s',h=>by simp[run]at h
 |n+1,[],_,s,s',h=>by
  simp only[run,ta]at h;rw[h]
 |n+1,it::k,hk,s,s',h=>by
  have jr:=hk;simp only[ya,za]at hk;obtain⟨hi,hk⟩:=hk;cases it with
  |c9 _=>simp only[run]at h;exact KL n hk h
  |qa ts ss=>
   have:ss=[]:=by simpa [Q6]using hi
   subst this;simp only[run]at h;rw[KL n hk h];rfl
  |lp c=>simp only[run]at h;exact KL n (by simp only[ya,za];exact⟨hi,hi,hk⟩) h
  |code c=>
   cases c with
   |skip=>simp only[run]at h;exact KL n hk h
   |ops l d=>
    simp only[run]at h;cases h1:DT C l s with
    |none=>rw[h1]at h;cases h
    |some s1=>
     rw[h1]at h;rw[KL n hk h,Adv (show(l.all λa=>YX a.op)=true from hi) h1]
   |dr c ts ss=>
    simp only[run]at h;simp only[Q6,KA,za]at hi;exact KL n (by simp only[ya,za];exact⟨hi.1,hi.2,hk⟩) h
   |scope c=>simp only[run]at h;exact KL n (by simp only[ya,za];exact⟨hi,hk⟩) h
   |seq a b=>
    simp only[run]at h;simp only[Q6,KA,za]at hi;exact KL n (by simp only[ya,za];exact⟨hi.1,hi.2,hk⟩) h
   |cond x a b=>
    simp only[Q6,KA,za]at hi;simp only[run]at h;split at h
    ·exact KL n (by simp only[ya,za];exact⟨hi.1,hk⟩) h
    ·exact KL n (by simp only[ya,za];exact⟨hi.2,hk⟩) h
    ·cases h
   |block id c=>simp only[run]at h;exact KL n (by simp only[ya,za];exact⟨hi,rfl,hk⟩) h
   |loop c=>simp only[run]at h;exact KL n (by simp only[ya,za];exact⟨hi,hi,hk⟩) h
   |exit id=>
    simp only[run]at h;split at h
    ·rename_i k' he
     exact KL n (aO hk he) h
    ·cases h
   |ret=>
    simp only[run,ta]at h;rw[h]
def Afj(fn:AFn)(r:AV)(tm:Tm)(_M:Mem):Prop := ∃rs,UU tm fn.res=some rs/\J2 rs=r
def fD:AV->Bool
 |.j5 vs=>MP vs
 |v=>R7 v
theorem wJ{σ:GJ}{v:AV}(h:fD v=true):BD σ v=v:=by
 cases v with
 |j5 vs=>
  simp only[BD];congr 1;simp only[fD]at h;induction vs with
  |nil=>rfl
  |cons v r ih=>
   simp only[MP]at h;cases hv:R7 v<;>simp only[hv,cond_true,cond_false]at h
   ·cases h
   ·rw[Qa,ih h]
    congr 1;cases v<;>first|rfl|(simp[R7,vh]at hv;done)|skip
    rename_i cs;exact eU (σ:=σ) (v := .agg cs) hv
 |_=>exact eU (σ:=σ) h
def ZX(L:Lib)(f:Nat)(vs:w_)(r:AV):Prop:=fD r=true/\(∀σ:GJ,vs.map (BD σ)=vs)/\∀own:Own,IB L f vs own r own
theorem wH{σ:GJ}:∀{vs:w_},MP vs=true->vs.map (BD σ)=vs
 |[],_=>rfl
 |v::r,h=>by
  simp only[MP]at h;cases hv:R7 v<;>simp only[hv,cond_true,cond_false]at h
  ·cases h
  ·rw[Qa,eU hv,wH h]
theorem Afk{f:Nat}{fn:AFn}{vs:w_}{r:AV}(hL:L f=some fn)(hp:gd vs.length fn.cr=true)(hd:MP vs=true)(zn:KA fn.body=true)(k7:bY 100000 fn.res=true)(hr:fD r=true)(h:AA L [.code fn.body] (CU 0 vs) [] (Afj fn r)):ZX L f vs r:=by
 refine⟨hr,λσ=>wH hd,λown=>?_⟩;obtain⟨n,c,o6,w9,σ,tm,M,hR,rs,Ay,he⟩:=h (λ_ _=>(0,0)) ⟨CU 0 vs,own⟩ ⟨λj=>Or.inr (by rw[ME];exact aE hd j),⟨(λ_ _ _ e=>by cases e),(λ_ _ _ e=>by simp[c8,e8]at e),(λ_ _ _ e=>by simp[c8,e8]at e),(λ_ _ _ _ _ _ e=>by simp[c8,e8]at e),(λ_ _ _ e=>by simp[c8,e8]at e)⟩⟩;have ho:=KL n (by simp[Q6,zn]) w9;obtain⟨i1,i2⟩:=qW (N:=100000) (s:=o6) hR (λ_ _=>rfl) k7 Ay;refine IB.intro hL (BO.1 hp) ⟨n,c,o6,w9,?_,ho⟩;rw[i1,Ca,Yt i2,he,wJ hr]
theorem MI{f:Nat}{vs:w_}{r:AV}{tm:Tm}{M:Mem}{K:AV->Mem->Prop}(h:ZX L f vs r)(hk:K r M):A2 L f vs tm M K:=by
 intro σ own hs;refine⟨r,own,σ,M,?_,hs,λ_=>rfl,hk⟩;rw[h.2.1 σ,wJ h.1];exact h.2.2 own
end Go.e9

namespace Go.e9
variable {L:Lib}
def kR(fn:AFn)(z:Nat)(es:v_)(tm:Tm)(M:Mem):Prop:=match fn.res with
 |[.tmp t]=>match tg tm t with
  |.row k 0 z' 0 n=>match e8 M k with
   |some (_,.rw dj es')=>z'=z/\dj=z/\n=es.length/\es'=es/\DR es
   |_=>False
  |_=>False
 |_=>False
theorem NS.x{f:Nat}{fn:AFn}{vs:w_}{z:Nat}{es:v_}(hL:L f=some fn)(hp:gd vs.length fn.cr=true)(hd:MP vs=true)(h:AA L [.code fn.body] (CU 0 vs) [] (kR fn z es)):NS L f vs z es:=by
 obtain⟨n,c,o6,hr,σ,tm,M,hR,hq⟩:=h (λ_ _=>(0,0)) ⟨CU 0 vs,Own.emp⟩ ⟨λj=>Or.inr (by rw[ME];exact aE hd j),⟨(λ_ _ _ e=>by cases e),(λ_ _ _ e=>by simp[c8,e8]at e),(λ_ _ _ e=>by simp[c8,e8]at e),(λ_ _ _ _ _ _ e=>by simp[c8,e8]at e),(λ_ _ _ e=>by simp[c8,e8]at e)⟩⟩;unfold kR at hq;split at hq
 ·rename_i t ng
  split at hq
  ·rename_i k z' m Ew
   split at hq
   ·rename_i s dj es' hM
    obtain⟨rfl,rfl,rfl,rfl,u6⟩:=hq;have hv:j8 o6.tm t = .row (σ k 0).1 (σ k 0).2 dj 0 es'.length:=by
     rcases hR.tm t with e|e
     ·rw[Ew]at e;cases e
     ·rw[e,Ew];rfl
    have hb:=hR.sat.c9 k 0 (.rw dj es') (by simp only[c8,hM]);obtain⟨q,hq⟩:=IB.intro (r := .row (σ k 0).1 (σ k 0).2 dj 0 es'.length) (o':=o6.own) hL (BO.1 hp) ⟨n,c,o6,hr,by simp[ng,GE,hv,KH,J2],rfl⟩;refine⟨q,?_⟩;simp only[hq,OL,Own.get,hb];rw[if_pos (show(BC.c9 σ k (.rw dj es')).es.length=es'.length/\DR (BC.c9 σ k (.rw dj es')).es from⟨rfl,u6⟩)];rfl
   ·exact hq.elim
  ·exact hq.elim
 ·exact hq.elim
theorem Aem{Q:Tm->Mem->Prop}{c:BH}{k:List It}{tm:Tm}{M:Mem}(n:Nat)(h:fT (xp 0 tm) λtm=>YQ M λM=>XK L Q n (.code c::k) tm M):AA L (.code c::k) tm M Q:=by
 rw[YE,gZ]at h;exact tE (kT h)
theorem cY{α:Type}{enc:α->w_}{l:List α}{f z:Nat}{vs:w_}{K:Nat->v_->Nat->Prop}(n:Nat)(h:NS L f vs z (l.map enc))(hn:n=l.length)(hk:K z (l.map enc) n):CY L f vs K:=⟨z,_,n,h,by simpa using hn,hk⟩
end Go.e9

namespace Go.e9
def Y1(N:Nat):List LS->Bool
 |[]=>true
 |.tmp t::r=>Eb t N&&Y1 N r
 |.cell t _ _::r=>Eb t N&&Y1 N r
theorem qY{N:Nat}{s s':St}(ho:s.own=s'.own)(x6:∀j,j<N->j8 s'.tm j=j8 s.tm j):∀{res:List LS},Y1 N res=true->res.mapM (GE s)=res.mapM (GE s')
 |[],_=>rfl
 |.tmp t::r,h=>by
  simp only[Y1,za]at h;have:=qY ho x6 h.2
  simp only[Pb,GE,x6 t (VN.1 h.1),this]
 |.cell t agg n::r,h=>by
  simp only[Y1,za]at h;have:=qY ho x6 h.2
  simp only[Pb,GE,x6 t (VN.1 h.1),this,ho]
def Afi(N:Nat)(fn:AFn)(tm:Tm)(K:AV->Mem->Prop)(ch:Tm)(M':Mem):Prop:=gh N ch=tm/\jA ch M' fn.res (λrs=>rsv rs λv=>K v M')
theorem EZ{L:Lib}{f:Nat}{fn:AFn}{vs:w_}{tm:Tm}{M:Mem}{K:AV->Mem->Prop}(N:Nat)(hL:L f=some fn)(hp:gd vs.length fn.cr=true)(hN:(te fn.cr N&&(J9 N fn.body&&Y1 N fn.res))=true)
  (h:AA L [.code fn.body] (CU 0 vs++H8 N tm) M (Afi N fn tm K)):A2 L f vs tm M K:=by
 intro σ own hs;simp only[za]at hN;obtain⟨n1,n2,n3⟩:=hN;have n1:=oc n1;have hp:vs.length=fn.cr:=Kd hp;have Ik:RX σ (CU 0 vs++H8 N tm) M ⟨N4 (BD σ) (CU 0 vs++H8 N tm),own⟩:=⟨λj=>Or.inr (by rw[ME];exact MF (NQ σ) j _),hs⟩;obtain⟨n,c,s',hr,σ',ch,M',hR,hg,ng⟩:=h σ _ Ik;have On:Gh N (N4 (BD σ) (H8 N tm)) (CU 0 (vs.map (BD σ))) (N4 (BD σ) (CU 0 vs++H8 N tm)):=by
  constructor
  ·intro j hj
   rw[oK,MF (NQ σ),MF (NQ σ)];rcases cN j (H8 N tm) (CU 0 vs)with⟨_,e⟩|⟨hn,e⟩
   ·rw[e]
   ·rw[e,sV hj,sT j 0 vs hn]
  ·intro j hj
   rw[MF (NQ σ),MF (NQ σ)];rcases cN j (H8 N tm) (CU 0 vs)with⟨hn,e⟩|⟨_,e⟩
   ·have:=oJ j 0 vs hn
    omega
   ·rw[e]
 obtain⟨s,r1,r2,r3⟩:=KJ n (by simp[SP,n2]) On hr;obtain⟨rs,i1,i2,i3⟩:=qX hR ng;rw[<-qY (s:=s) r2.symm r3.lo n3,i3]at i1;have key:∃r,J2 (rs.map (BN σ'))=BD σ' r/\K r M':=by
  match rs,i2,i3 with
  |[],h,_=>exact⟨.j5 [],rfl,h⟩
  |[v],h,e=>
   simp only[Qa,Be,Nc,and_true]at e;exact⟨v,by simp only[Qa,Be,J2];exact e.symm,h⟩
  |a::b::l,h,_=>exact⟨.j5 (a::b::l),rfl,h⟩
 obtain⟨r,k1,k2⟩:=key;refine⟨r,s.own,σ',M',IB.intro hL (by simpa using hp) ⟨n,c,s,r1,?_,rfl⟩,?_,?_,k2⟩
 ·rw[i1,Ca,k1]
 ·rw[<-r2];exact hR.sat
 ·intro j
  have e1:tg tm j=tg ch (N+j):=by rw[ME,ME,<-hg,sS]
  rcases hR.tm (N+j)with e|e
  ·rw[e1,e];rfl
  ·rw[e1,<-e,r3.hi (N+j) O',MF (NQ σ),sU,<-ME,e1]
end Go.e9

namespace Go.e9
theorem Yz{A w C:u_}{i n:Nat}(hi:i=A.length+n)(hn:n<w.length):(A++w++C)[i]?=w[n]? := by
 subst hi;rw[xb,Ic O',td,Fc hn]
theorem Aog{A w C:u_}{i n v:Nat}(hi:i=A.length+n)(hn:n<w.length):(A++w++C).set i v=A++w.set n v++C:=by
 subst hi;rw[xb,Md _ _ O',td,List.set_append_left _ _ hn,xb]
theorem OK{A w C:u_}{i v:Nat}{KK:v_->Prop}(n:Nat)(hi:i=A.length+n)(hn:n<w.length)(h:KK ((A++w.set n v++C).map AJ)):A8 ((A++w++C).map AJ) i 0 [.int .u32 (v:Int)] KK:=by
 have hl:i<(A++w++C).length:=by simp;omega
 refine VJ (enc:=AJ) i v rfl rfl (λ_=>rfl) hl ?_;rw[Aog hi hn];exact h
theorem AlR{W X Vi p q u d c b pr t:Nat}(h:W+q*Vi=X+p*(c+b))(uy:pr=q*d+c)(ht:t=FF (FF u (pr%4294967296)) b)(hu:u<4294967296)(hb:b<=1) :
  W+p*(t%4294967296)+q*(Vi+p*d)=X+p*u+p*4294967296*(pr/4294967296+t/9223372036854775808):=by
 obtain⟨h1,_⟩:=kC hu (show pr%4294967296<4294967296 by omega) hb;rw[<-ht]at h1;have h2:=pc pr 4294967296;generalize t%4294967296=w at*;generalize t/9223372036854775808=b' at*;generalize pr%4294967296=pl at*;generalize pr/4294967296=ph at*;have e1:p*(w+pl+b)=p*(u+4294967296*b'):=by rw[h1]
 have e2:p*(pl+4294967296*ph)=p*(q*d+c):=by rw[h2,uy]
 grind
theorem Vf{q d c pr:Nat}(hq:q<4294967296)(hd:d<4294967296)(hc:c<4294967296)(uy:pr=q*d+c):pr/4294967296<4294967296/\pr<=18446744073709551615/\q*d<=18446744065119617025:=by
 have:=YU hq hd
 omega
theorem AlP{W X V p q u c b t:Nat}(h:W+q*V=X+p*(c+b))(ht:t=FF (FF u c) b)(hu:u<4294967296)(hc:c<4294967296)(hb:b<=1) :
  W+p*(t%4294967296)+q*V=X+p*u+p*4294967296*(t/9223372036854775808):=by
 obtain⟨h1,_⟩:=kC hu hc hb;rw[<-ht]at h1;generalize t%4294967296=w at*;generalize t/9223372036854775808=b' at*;have e1:p*(w+c+b)=p*(u+4294967296*b'):=by rw[h1]
 grind
theorem AlS{W X Vi p q u d c b pr w take have' dm:Nat}(h:W+q*Vi=X+p*(c+b))(uy:pr=c+q*d)(h1:take=pr%4294967296+b)(h2:(have'=u/\dm=0/\take<=u)\/(have'=u+4294967296/\dm=1/\u<take))(h3:w+take=have') :
  W+p*w+q*(Vi+p*d)=X+p*u+p*4294967296*(pr/4294967296+dm):=by
 have h4:=pc pr 4294967296;have h5:w+pr%4294967296+b=u+4294967296*dm:=O'
 generalize pr%4294967296=pl at*;generalize pr/4294967296=ph at*;have e1:p*(w+pl+b)=p*(u+4294967296*dm):=by rw[h5]
 have e2:p*(pl+4294967296*ph)=p*(c+q*d):=by rw[h4,uy]
 grind
theorem AlQ{W X V p q u c b w take have' dm:Nat}(h:W+q*V=X+p*(c+b))(h1:take=c+b)(h2:(have'=u/\dm=0/\take<=u)\/(have'=u+4294967296/\dm=1/\u<take))(h3:w+take=have') :
  W+p*w+q*V=X+p*u+p*4294967296*dm:=by
 have h5:w+c+b=u+4294967296*dm:=O'
 have e1:p*(w+c+b)=p*(u+4294967296*dm):=by rw[h5]
 grind
theorem uN{W X Vi p w d c t:Nat}(h:W+p*c=X+Vi)(ht:t=w+d+c):W+p*(t%4294967296)+p*4294967296*(t/4294967296)=X+p*w+(Vi+p*d):=by
 have h1:=QU W p t;have e:p*t=p*w+p*d+p*c:=by rw[ht];grind
 omega
theorem uM{W X V R p w c:Nat}(h:W+p*c=X+V)(hX:X+p*w+V=R+p*4294967296)(hR:R<p*4294967296)(hW:W<p):W+p*((w+c)%4294967296)=R:=by
 have h1:W+p*(w+c)=R+p*4294967296:=by
  rw[Pa];omega
 have h2:=pc (w+c) 4294967296;have h3:p*(w+c)=p*((w+c)%4294967296)+p*4294967296*((w+c)/4294967296):=by
  rw[Ia,<-Pa,h2]
 have h4:(w+c)%4294967296<4294967296:=Hc _ O';generalize (w+c)%4294967296=m at*;generalize (w+c)/4294967296=k at*;have h5:W+p*m<p*4294967296:=by
  have:p*m+p<=p*4294967296:=by rw[<-xf];exact ja p O'
  omega
 have h6:k=1:=by
  rcases Mb k 1 with hk|hk|hk
  ·have:k=0:=O'
   subst this;omega
  ·exact hk
  ·have:p*4294967296*2<=p*4294967296*k:=ja _ O'
   omega
 subst h6;omega
theorem An1{U V UL VL p u2 v2 v1 top:Nat}(hU:U=UL+p*(u2+4294967296*top))(hV:V=VL+p*(v2+4294967296*v1))(Cf:VL<p)(h2:v2<4294967296)(h:U<4294967296*V):top<4294967296*(v1+1):=by
 have h3:V<p*(4294967296*(v1+1)):=by
  have:p*(v2+4294967296*v1)+p<=p*(4294967296*(v1+1)):=by
   rw[<-xf];exact ja p O'
  omega
 have h4:p*(4294967296*top)<=U:=by
  have:p*(4294967296*top)<=p*(u2+4294967296*top):=ja p O'
  omega
 have h5:p*(4294967296*top)<p*(4294967296*(4294967296*(v1+1))):=by
  have:p*(4294967296*(4294967296*(v1+1)))=4294967296*(p*(4294967296*(v1+1))):=A'
  omega
 have:=zb h5
 omega
structure Gs(U V v1 v2 u2 top q r:Nat):Prop where
 hq:q*v1+r=top
 hr:r<4294967296
 ge:U/V<=q
theorem Gs.next{U V UL VL p v1 v2 u2 top q r:Nat}(g:Gs U V v1 v2 u2 top q r)(hU:U=UL+p*(u2+4294967296*top))(hV:V=VL+p*(v2+4294967296*v1))(Am:UL<p)(cg:0<V)(Kf:U<4294967296*V)
  (h:4294967296<=q\/r*4294967296+u2<q*v2):1<=q/\(q-1)*v1+(r+v1)=top/\U/V<=q-1:=by
 have h1:U/V<q:=by
  rcases h with h|h
  ·exact Akn Kf h cg
  ·exact Ako hU hV Am g.hq h cg
 have hq:=g.hq;clear h g hU hV Kf;generalize U/V=Q at*;obtain⟨k,rfl⟩:∃k,q=k+1:=⟨q-1,O'⟩;refine⟨O',?_,O'⟩;rw[Nat.add_sub_cancel,<-hq,Oc];omega
theorem Gs.start{U V UL VL p v1 v2 u2 top:Nat}(hU:U=UL+p*(u2+4294967296*top))(hV:V=VL+p*(v2+4294967296*v1))(Am:UL<p)(h2:u2<4294967296)(cg:0<V)(h1:0<v1)(h1b:v1<4294967296):Gs U V v1 v2 u2 top (top/v1) (top%v1):=by
 refine⟨by rw[xc];exact Je _ _,?_,?_⟩
 ·have:=Hc top h1
  omega
 ·rw[Nat.le_div_iff_mul_le h1]
  exact Akp hU hV Am h2 cg
theorem YI{U V UL VL p v1 v2 u2 top q r:Nat}(hU:U=UL+p*(u2+4294967296*top))(hV:V=VL+p*(v2+4294967296*v1))(Cf:VL<p)(Dq:2147483648<=v1)(La:v2<4294967296)(Kf:U<4294967296*V)(hq:q*v1+r=top)
  (h:(q<4294967296/\q*v2<=r*4294967296+u2)\/4294967296<=r):q<4294967296/\q<=U/V+1:=by
 rcases h with⟨h1,h2⟩|h
 ·exact⟨h1,Sb hU hV Cf Dq hq h2 h1⟩
 ·have ht:=An1 hU hV Cf La Kf
  have yd:q<4294967296:=by
   have h3:q*v1<4294967296*v1:=O'
   exact Gc h3
  refine⟨yd,Sb hU hV Cf Dq hq ?_ yd⟩;have:=YU yd La
  omega
theorem XA(a:u_)(k:Nat):val a=val (a.take k)+4294967296^k*val (a.drop k):=by
 rcases wc a.length k with h|h
 ·rw[zT O',ua O',KR];omega
 ·exact LQ a k h
theorem W9(a:u_)(k:Nat):val (a.drop k)=a.getD k 0+4294967296*val (a.drop (k+1)):=by
 rcases wc k a.length with h|h
 ·rw[I4 (zE h),xa,zE h];rfl
 ·rw[ua h,ua O',xa,Ld h];rfl
theorem SM{a:u_}(h:A3 a)(k:Nat):a.getD k 0<4294967296:=by
 rw[xa];cases e:a[k]? with
 |none=>simp
 |some d=>simpa using h.at e
theorem getD_some{a:u_}{k d:Nat}(h:a[k]?=some d):d=a.getD k 0:=by rw[xa,h];rfl
theorem getD_none{a:u_}{k:Nat}(h:a.length<=k):0=a.getD k 0:=by rw[xa,Ld h];rfl
theorem kG{a:u_}(hD:A3 a){n:Nat}(hn:3<=n)(hl:a.length<=n):∃r,r<4294967296^(n-3)/\val a=r+4294967296^(n-3)*(a.getD (n-3) 0+4294967296*(a.getD (n-2) 0+4294967296*a.getD (n-1) 0)):=by
 refine⟨val (a.take (n-3)),?_,?_⟩
 ·refine fc (F2 (hD.take _)) (nb O' ?_)
  rw[Na];omega
 ·have h1:=XA a (n-3)
  have h2:=W9 a (n-3);have h3:=W9 a (n-3+1);have h4:=W9 a (n-3+1+1);rw[ua (show a.length<=n-3+1+1+1 by omega),KR]at h4;rw[show n-3+1=n-2 by omega]at*;rw[show n-2+1=n-1 by omega]at*;rw[h4,Ha,Ga]at h3;rw[h3]at h2;rw[h2]at h1;exact h1
theorem AdX{a:u_}(hD:A3 a){n:Nat}(hn:2<=n)(hl:a.length<=n):∃r,r<4294967296^(n-2)/\val a=r+4294967296^(n-2)*(a.getD (n-2) 0+4294967296*a.getD (n-1) 0):=by
 refine⟨val (a.take (n-2)),?_,?_⟩
 ·refine fc (F2 (hD.take _)) (nb O' ?_)
  rw[Na];omega
 ·have h1:=XA a (n-2)
  have h2:=W9 a (n-2);have h3:=W9 a (n-2+1);rw[ua (show a.length<=n-2+1+1 by omega),KR]at h3;rw[show n-2+1=n-1 by omega]at*;rw[h3,Ha,Ga]at h2;rw[h2]at h1;exact h1
theorem R8{a b:Nat}(h:a<=b):(dg a).length<=(dg b).length:=by
 rcases wc (dg b).length (dg a).length with h1|h1
 ·have:=ZK h1;omega
 ·exact h1
theorem lW{p:Nat}(h:p<18446744073709551616):val [p%4294967296,p/4294967296]=p/\A3 [p%4294967296,p/4294967296]:=by
 refine⟨by simp[val];omega,λx hx=>?_⟩;simp at hx;omega
theorem II{a:u_}{k d:Nat}(h:a[k]?=some d):a.getD k 0=d:=(getD_some h).symm
theorem oU{y:u_}{s yt:Nat}(hD:A3 y)(zw:y[y.length-1]?=some yt)(hl:1<=y.length)(hs:s<=31)(b3:2147483648<=yt*2^s)(b4:yt*2^s<4294967296):val y*2^s<4294967296^y.length/\4294967296^(y.length-1)*2147483648<=val y*2^s:=by
 have h1:=LQ y (y.length-1) O';have h2:=I4 zw;rw[ua (show y.length<=y.length-1+1 by omega),KR,Ha,Ga]at h2;rw[h2]at h1;have h3:=F2 (hD.take (y.length-1));rw[Na,ib O']at h3;have e:4294967296^y.length=4294967296^(y.length-1)*4294967296:=by rw[<-Oa,Nat.succ_eq_add_one,show y.length-1+1=y.length by omega]
 rw[e];generalize 4294967296^(y.length-1)=p at*;have hk:(yt+1)*2^s<=4294967296:=by
  have e2:4294967296=2^s*2^(32-s):=by rw[<-Fa,show s+(32-s)=32 by omega]
  rw[e2,xc]at b4;have:=zb b4
  rw[e2,xc];exact ja _ this
 have h4:val y+1<=p*(yt+1):=by rw[Pa];omega
 have h5:=zR (2^s) h4;have h6:p*((yt+1)*2^s)<=p*4294967296:=ja p hk;rw[<-Ia]at h6;have h7:p*2147483648<=p*(yt*2^s):=ja p b3;have h8:p*(yt*2^s)<=val y*2^s:=by rw[<-Ia];exact zR _ O'
 have h9:=sc s;rw[Oc]at h5;exact⟨O',O'⟩
theorem Zu{v:u_}{k c d:Nat}(hD:A3 v)(hl:v.length=k+1)(h:4294967296^k*c<=val v)(hd:v[k]?=some d):c<=d:=by
 have h1:=LQ v k O';have h2:=I4 hd;rw[ua (show v.length<=k+1 by omega),KR,Ha,Ga]at h2;rw[h2]at h1;have h3:=F2 (hD.take k);rw[Na,ib O']at h3;generalize 4294967296^k=p at*;have h4:p*c<p*(d+1):=by rw[Pa];omega
 have:=zb h4
 omega
theorem xN(o:u_)(j n:Nat)(h:j+n<=o.length):∃A W C,A.length=j/\W.length=n/\o=A++W++C:=by
 refine⟨o.take j,(o.drop j).take n,(o.drop j).drop n,by simp;omega,by simp;omega,?_⟩;rw[xb,Od,Od]
theorem wP{A W C:u_}(h:A3 (A++W++C)):A3 A/\A3 W/\A3 C:=by
 refine⟨λx hx=>h x (by simp[hx]),λx hx=>h x (by simp[hx]),λx hx=>h x (by simp[hx])⟩
theorem xP{A W C:u_}{j l V:Nat}(hA:A.length=j)(hW:W.length=l+1)(hD:A3 (A++W++C))(h:val ((A++W++C).drop (j+1))<V)(hV:V<4294967296^l) :
  val C=0/\val W<4294967296*V/\val ((A++W++C).take (j+1))+4294967296^(j+1)*val ((A++W++C).drop (j+1))=val A+4294967296^j*val W:=by
 have h1:=XA (A++W++C) (j+1);have h2:val (A++W++C)=val A+4294967296^j*(val W+4294967296^(l+1)*val C):=by
  rw[xb,ZJ,ZJ,hA,hW]
 have h3:=W9 (A++W++C) j;have h4:(A++W++C).drop j=W++C:=by
  rw[xb,Pc O',ua O'];rfl
 have h5:=SM hD j;rw[h4,ZJ,hW]at h3;rw[Oa]at h3;have h6:val C=0:=by
  rcases db (val C)with h0|h0
  ·exact h0
  ·have:4294967296^l*4294967296*1<=4294967296^l*4294967296*val C:=ja _ h0
   omega
 rw[h6,Ha,Ga]at h3;refine⟨h6,O',?_⟩;rw[<-h1,h2,h6,Ha,Ga]
theorem mL{A W C:u_}{j:Nat}(hA:A.length=j)(hC:val C=0):val ((A++W++C).drop j)=val W/\val ((A++W++C).take j)=val A:=by
 rw[xb,Pc O',ua O',List.take_append_of_le_length O',zT O',Ib,ZJ,hC];simp
theorem xO{U VA P Q q V W R:Nat}(h:U=VA+P*W+P*4294967296*(Q*V))(h2:W=q*V+R):U=VA+P*((q+4294967296*Q)*V+R):=by
 rw[h,h2];grind
section
variable {a b:Nat} {K:AV->Prop}
theorem uB(n:Nat)(hx:a%2^n=0)(hy:b<2^n)(h:a+b<=18446744073709551615)(hk:K (.int .u64 ((a+b:Nat):Int))):AC .or .u64 (a:Int) .u64 (b:Int) K :=
 kO n hx hy (show a+b<18446744073709551616 by omega) (IntWalk.u64_in _ O') hk
theorem dI(n:Nat)(hx:b%2^n=0)(hy:a<2^n)(h:a+b<=18446744073709551615)(hk:K (.int .u64 ((a+b:Nat):Int))):AC .or .u64 (a:Int) .u64 (b:Int) K:=by
 have e:DM .or .u64 (a:Int) .u64 (b:Int)=DM .or .u64 (b:Int) .u64 (a:Int):=by
  simp only[DM,if_true,je]
 rw[Qd]at hk h;have hh:=uB (K:=K) n hx hy h hk;unfold AC at hh⊢;rw[e];exact hh
end
theorem dH{a:Nat}{K:AV->Prop}(h:a<=18446744069414584319)(hk:K (.int .u64 ((a+4294967296:Nat):Int))):AC .add .u64 (a:Int) .u64 4294967296 K :=
 HW (b:=4294967296) O' hk
theorem LW{l:u_}{i e:Nat}{K:w_->Prop}(he:l[i]?=some e)(h:K (AJ e)):A7 (l.map AJ) (0+((i:Int)).toNat) 0 1 K :=
 F6 (e:=e) (by rw[Ja,va];exact he) rfl h
theorem Ae5{l:u_}{i:Int}{e:Nat}{K:w_->Prop}(he:l[i.toNat]?=some e)(h:K (AJ e)):A7 (l.map AJ) (0+i.toNat) 0 1 K :=
 F6 (e:=e) (by rw[Ja];exact he) rfl h
theorem RV{A w C:u_}{i e:Nat}{K:w_->Prop}(n:Nat)(he:w[n]?=some e)(hi:i=A.length+n)(h:K (AJ e)):A7 ((A++w++C).map AJ) i 0 1 K:=by
 have hn:=(zS he).1;exact F6 (e:=e) (by rw[Yz hi hn];exact he) rfl h
end Go.e9

namespace Go.e9
def YL(n s:Nat):Nat:=4294967296^(n-3)*(2^(32-s)*4)
theorem Aln(n s:Nat):0<YL n s:=pf (Gd O') (pf (sc _) O')
theorem Vt{a:u_}(hD:A3 a){n s d1 d2 d3:Nat}(hn:3<=n)(hl:a.length<=n)(hs:s<=31)(h1:d1=a.getD (n-1) 0)(h2:d2=a.getD (n-2) 0)(h3:d3=a.getD (n-3) 0) :
  ((d1*4294967296+d2)*2^s+d3*2^s/4294967296)/4=val a/YL n s:=by
 obtain⟨r,hr,hv⟩:=kG hD hn hl;rw[<-h1,<-h2,<-h3]at hv;unfold YL;rw[hv,<-jd,Ed _ _ (Gd O'),Nat.div_eq_of_lt hr,Ja,<-jd];congr 1;have e:d3+4294967296*(d2+4294967296*d1)=d3+2^(32-s)*(2^s*(d1*4294967296+d2)):=by
  rw[<-Ia,<-Fa,show 32-s+s=32 by omega];omega
 rw[e,Ed _ _ (sc _)];have:=Xu (d:=d3) (s:=s) O'
 rw[WX]at this;rw[this,xc (2^s)];omega
theorem Vu{a:u_}(hD:A3 a){n s d1 d2:Nat}(hn:3<=n)(hl:a.length<=n)(h1:d1=a.getD (n-1) 0)(h2:d2=a.getD (n-2) 0)(k7:val a*2^s<4294967296^n) :
  (d1*4294967296+d2)*2^s<=18446744073709551615:=by
 obtain⟨r,hr,hv⟩:=kG hD hn hl;rw[<-h1,<-h2]at hv;generalize a.getD (n-3) 0=d3 at*;have e:4294967296^n=4294967296^(n-3)*(4294967296*18446744073709551616):=by
  rw[show n=n-3+3 by omega,Fa,show n-3+3-3=n-3 by omega]
 rw[e,hv]at k7;generalize 4294967296^(n-3)=p at*;have h3:p*(4294967296*((d1*4294967296+d2)*2^s))<p*(4294967296*18446744073709551616):=by
  refine Cb ?_ k7;rw[<-Ia,<-Ia];refine zR _ ?_;have h5:p*(4294967296*(d2+4294967296*d1))<=p*(d3+4294967296*(d2+4294967296*d1)):=ja p O';rw[Ia,show d1*4294967296+d2=d2+4294967296*d1 by omega];omega
 have:=zb (zb h3)
 omega
theorem iF{k s:Nat}(hs:s<=64)(h:k*2^s<=18446744073709551615):k*2^s+2^s<=18446744073709551616:=by
 have e:18446744073709551616=2^(64-s)*2^s:=by rw[<-Fa,show 64-s+s=64 by omega]
 have h1:k<2^(64-s):=by
  refine Gc (a:=2^s) ?_;rw[<-e];omega
 have h2:=zR (2^s) h1;rw[kd,<-e]at h2;exact h2
theorem Vv{a:u_}(hD:A3 a){n s:Nat}(hn:3<=n)(hl:a.length<=n)(hs:s<=31)(k7:val a*2^s<4294967296^n):val a/YL n s<=4611686018427387904:=by
 rw[<-Vt hD hn hl hs rfl rfl rfl];have h1:=Vu hD hn hl rfl rfl k7;have b3:=SM hD (n-3);have h2:=iF (show s<=64 by omega) h1;obtain⟨_,h3,_,_⟩:=WY (s:=s) b3 O';rw[WX]at h3;generalize (a.getD (n-1) 0*4294967296+a.getD (n-2) 0)*2^s=T at*;generalize a.getD (n-3) 0*2^s=U at*;omega
theorem Vw{V K:Nat}(hK:0<K):∃e:Int,(V:Int)=(K:Int)*((V/K:Nat):Int)+e/\0<=e/\e<=K:=by
 refine⟨((V%K:Nat):Int),?_,O',?_⟩
 ·have:=Je V K
  have h2:((K*(V/K)+V%K:Nat):Int)=(V:Int):=by rw[this]
  rw[<-h2];simp
 ·have:=Hc V hK
  omega
def Z9(t:Int):Nat:=(t%4294967296).toNat
theorem vS(t:Int):Z9 t<4294967296:=by unfold Z9;omega
theorem lK(t:Int):(Z9 t:Int)=t%4294967296:=by unfold Z9;omega
def RR(f g:Int):Prop:=(0<=f/\f<=2147483647/\-2147483647<=g/\g<=0)\/(-2147483647<=f/\f<=0/\0<=g/\g<=2147483647)
theorem Xt{f:Int}{d:Nat}(hd:d<4294967296):(0<=f->f<=2147483647->0<=f*d/\f*d<=9223372030412324865)/\(f<=0->-2147483647<=f->f*d<=0/\-9223372030412324865<=f*d):=by
 constructor
 ·intro h0 h1
  refine⟨Ec h0 O',?_⟩;have:f*d<=2147483647*4294967295:=Dc h1 O' O' O'
  omega
 ·intro h0 h1
  have a1:0<=(-f)*d:=Ec O' O';have a2:(-f)*d<=2147483647*4294967295:=Dc O' O' O' O';rw[Int.neg_mul]at a1 a2;omega
theorem RR.Jl{f g:Int}(h:RR f g){d e:Nat}(hd:d<4294967296)(he:e<4294967296):(-9223372030412324865<=f*d/\f*d<=9223372030412324865)/\(-9223372030412324865<=g*e/\g*e<=9223372030412324865)/\-9223372030412324865<=f*d+g*e/\f*d+g*e<=9223372030412324865:=by
 obtain⟨a1,a2⟩:=Xt (f:=f) hd;obtain⟨b1,b2⟩:=Xt (f:=g) he;rcases h with⟨h1,h2,h3,h4⟩|⟨h1,h2,h3,h4⟩
 ·have:=a1 h1 h2;have:=b2 h4 h3;omega
 ·have:=a2 h2 h1;have:=b1 h3 h4;omega
theorem vT{V X Y p c f g d e t:Int}(h:V+p*c=f*X+g*Y)(ht:t=f*d+c+g*e):V+p*(t%4294967296)+p*4294967296*(t/4294967296)=f*(X+p*d)+g*(Y+p*e):=by
 have h1:=Int.emod_add_mul_ediv t 4294967296;have h2:p*(t%4294967296)+p*4294967296*(t/4294967296)=p*t:=by
  rw[ud,<-ye,h1]
 have h3:p*t=f*(p*d)+p*c+g*(p*e):=by rw[ht];grind
 have h4:f*(X+p*d)=f*X+f*(p*d):=by rw[ye]
 have h5:g*(Y+p*e)=g*Y+g*(p*e):=by rw[ye]
 omega
theorem AgH{V P:Nat}{c R:Int}(hV:V<P)(h:(V:Int)+P*c=R)(h0:0<=R)(h1:R<P):(V:Int)=R:=by
 have hc:c=0:=by
  rcases Int.lt_trichotomy c 0 with hc|hc|hc
  ·have:(P:Int)*c<=P*(-1):=Mc O' O'
   omega
  ·exact hc
  ·have:(P:Int)*1<=P*c:=Mc O' O'
   omega
 subst hc;omega
theorem aU(x y:Nat):Jc y (x%y)=Jc x y:=by
 rw[tf x y,Nat.gcd_rec y x];exact tf _ _
def zv(neg:Bool)(m:u_):Int:=bif neg then -(val m:Int)else(val m:Int)
abbrev rZ(q neg:Bool)(m:u_):w_:=[.bool neg,.sl q (m.map AJ)]
abbrev eZ(z:Int):w_:=rZ false (decide (z<0)) (dg z.natAbs)
theorem FV(neg:Bool)(m:u_):(zv neg m).natAbs=val m:=by cases neg<;>simp[zv]
theorem GW(z:Int):zv (decide (z<0)) (dg z.natAbs)=z:=by
 unfold zv;rw[BQ];by_cases h:z<0
 ·simp[h];omega
 ·simp[h];omega
def Sm(n:Nat)(m:u_):Prop:=A3 m/\m.length<=n
theorem Sm.dg{n V:Nat}(h:V<4294967296^n):Sm n (dg V):=⟨EH V,NV.2 h⟩
theorem Sm.le{n n':Nat}{m:u_}(h:Sm n m)(hn:n<=n'):Sm n' m:=⟨h.1,by have:=h.2;omega⟩
theorem Sm.val{n:Nat}{m:u_}(h:Sm n m):val m<4294967296^n:=fc (F2 h.1) (nb O' h.2)
theorem Sm.yf{n:Nat}{m:u_}(h:Sm n m):Sm n (Go.e9.dg (Go.e9.val m)):=Sm.dg h.val
theorem FK{z:Int}{b:Bool}{n:Nat}(h1:n=z.natAbs)(h2:b=decide (z<0)):AV.agg [.bool b,.sl false ((dg n).map AJ)] = .agg (eZ z):=by rw[h1,h2]
theorem D8(z:Int):AY (.agg (eZ z)):=by
 simp only[AY,BK,and_true,true_and];exact C8 _
theorem MC{z:Int}(h:z<0):true=decide (z<0):=by simp[h]
theorem GF{z:Int}(h:0<=z):false=decide (z<0):=by simp;omega
theorem Ws(n:Nat):Sm n []:=⟨X7,qf _⟩
theorem rS{n d:Nat}(hn:1<=n)(hd:d<4294967296):Sm n [d]:=⟨IV hd,hn⟩
theorem Aeg(b:Bool):zv b []=0:=by cases b<;>rfl
theorem Sm.low{n V:Nat}{m:u_}(h:Sm n m)(hV:V<=Go.e9.val m):Sm n (Go.e9.dg V):=Sm.dg (Cb hV h.val)
theorem Sm.mul{n k:Nat}{a b:u_}(ha:Sm n a)(hb:Sm k b){V:Nat}(hV:V=Go.e9.val a*Go.e9.val b):Sm (n+k) (Go.e9.dg V):=by
 refine Sm.dg ?_;rw[hV,Fa];exact Nat.mul_lt_mul_of_le_of_lt (Nat.le_of_lt ha.val) hb.val (Gd O')
theorem Sm.add{n:Nat}{a b:u_}(ha:Sm n a)(hb:Sm n b){V:Nat}(hV:V<=Go.e9.val a+Go.e9.val b):Sm (n+1) (Go.e9.dg V):=by
 refine Sm.dg ?_;have h1:=ha.val;have h2:=hb.val;rw[Oa];omega
theorem IU(V:Nat):(dg V).length=0↔V=0:=by rw[List.length_eq_zero_iff,lX]
theorem FI(m:u_):zv false m=(val m:Int):=rfl
theorem OH(m:u_):zv true m = -(val m:Int):=rfl
def w6(z:Int):Int:=if z<0 then -1 else if 0<z then 1 else 0
theorem rO{z:Int}(h:z<0):-1=w6 z:=by unfold w6;rw[if_pos h]
theorem rP{z:Int}(h:0<z):1=w6 z:=by unfold w6;rw[if_neg O',if_pos h]
theorem jK{z:Int}(h:z=0):0=w6 z:=by unfold w6;rw[if_neg O',if_neg O']
theorem AdY{n:Nat}(h:n<18446744073709551616):val [n%4294967296,n/4294967296]=n:=(by simp[val];omega)
abbrev rQ(q1 q2 n:Bool)(m d:u_):w_:=[.bool n,.sl q1 (m.map AJ),.sl q2 (d.map AJ)]
abbrev eQ(x:Rat):w_:=rQ false false (decide (x.num<0)) (dg x.num.natAbs) (dg x.den)
def qv(n:Bool)(m d:u_):Rat:=mkRat (zv n m) (val d)
theorem GD(x:Rat):qv (decide (x.num<0)) (dg x.num.natAbs) (dg x.den)=x:=by
 unfold qv;rw[GW,BQ,Ee]
theorem Rv{d:Nat}(z:Nat)(hd:d≠0):0<Jc d z:=Nat.gcd_pos_of_pos_left z O'
theorem pL{z:Int}{d:Nat}(hd:d≠0):(mkRat z d).num.natAbs=z.natAbs/Jc d z.natAbs/\(mkRat z d).den=d/Jc d z.natAbs/\decide ((mkRat z d).num<0)=decide (z<0):=by
 have hg:=Rv z.natAbs hd;have h1:=Rat.num_mkRat z d;have h2:=Rat.den_mkRat z d;rw[if_neg hd]at h1 h2;rw[h1,h2];obtain⟨k,hk⟩:=Nat.gcd_dvd_right d z.natAbs;generalize hG:Jc d z.natAbs=g at*;have hz:z=(g:Int)*(z.sign*k):=by
  rw[<-ud,sf (g:Int),ud,<-Kc,<-hk,Int.sign_mul_natAbs]
 have e1:z/(g:Int)=z.sign*k:=by
  rw[hz,Int.mul_ediv_cancel_left _ O',<-hz]
 refine⟨?_,rfl,?_⟩
 ·rw[e1,Kb,hk,Nat.mul_div_cancel_left _ hg]
  by_cases h0:z=0
  ·subst h0
   have:k=0:=by
    have h5:g*k=0:=hk.symm;rcases Nat.mul_eq_zero.1 h5 with h|h
    ·omega
    ·exact h
   subst this;simp
  ·rw[Int.natAbs_sign_of_ne_zero h0,Nat.one_mul];simp
 ·congr 1
  rw[eq_iff_iff];rw[Int.ediv_lt_iff_lt_mul O',Int.zero_mul]
theorem DY(x:Rat):AY (.agg (eQ x)):=by
 simp only[AY,BK,and_true,true_and];exact⟨C8 _,C8 _⟩
theorem Z5(b w:Bool)(m d:u_):AY (.agg [.bool b,.sl false (m.map AJ),.sl false (d.map AJ),.bool w]):=by
 simp only[AY,BK,and_true,true_and];exact⟨C8 _,C8 _⟩
theorem vK(b:Bool)(m:u_):AY (.agg [.bool b,.sl false (m.map AJ)]):=by
 simp only[AY,BK,and_true,true_and];exact C8 _
theorem eE(b:Bool)(m d:u_):AY (.agg [.bool b,.sl false (m.map AJ),.sl false (d.map AJ)]):=by
 simp only[AY,BK,and_true,true_and];exact⟨C8 _,C8 _⟩
theorem aT(q:Bool)(l:u_):ZR (.sl q (l.map AJ)):=by
 intro e he c hc;obtain⟨x,_,rfl⟩:=Ka.1 he;simp at hc;subst hc;rfl
theorem kJ{r:AV}{K:AV->Prop}(h:KS r)(hk:K (Aa r)):BL r K:=⟨Or.inl h,by rw[pA h];exact hk⟩
theorem tS{r:AV}{K:AV->Prop}(h:¬KS r)(hd:U9 r)(hk:K (L5 r)):BL r K:=⟨Or.inr hd,by rw[oZ h];exact hk⟩
theorem IC{b w q1 q2:Bool}{m d:u_}{K:AV->Prop}(hk:K (.agg [.bool b,.sl true (m.map AJ),.sl true (d.map AJ),.bool w])):BL (.agg [.bool b,.sl q1 (m.map AJ),.sl q2 (d.map AJ),.bool w]) K:=by
 refine kJ ?_ hk;intro c hc;simp only[zc,yc,or_false]at hc;rcases hc with rfl|rfl|rfl|rfl
 ·trivial
 ·exact aT _ _
 ·exact aT _ _
 ·trivial
theorem AeY{b q1 q2:Bool}{m d:u_}{K:AV->Prop}(hk:K (.agg [.bool b,.sl true (m.map AJ),.sl true (d.map AJ)])):BL (.agg [.bool b,.sl q1 (m.map AJ),.sl q2 (d.map AJ)]) K:=by
 refine kJ ?_ hk;intro c hc;simp only[zc,yc,or_false]at hc;rcases hc with rfl|rfl|rfl
 ·trivial
 ·exact aT _ _
 ·exact aT _ _
theorem RT{b q1:Bool}{m:u_}{K:AV->Prop}(hk:K (.agg [.bool b,.sl true (m.map AJ)])):BL (.agg [.bool b,.sl q1 (m.map AJ)]) K:=by
 refine kJ ?_ hk;intro c hc;simp only[zc,yc,or_false]at hc;rcases hc with rfl|rfl
 ·trivial
 ·exact aT _ _
theorem oW:∀l:u_,IZ (l.map AJ)=l.map AJ
 |[]=>by simp[IZ]
 |x::l=>by rw[Qa,IZ,oW l];rfl
theorem dD{b b2 q1 q2:Bool}{m d:u_}{K:AV->Prop}(hk:K (.j5 [.agg [.bool b,.sl true (m.map AJ)],.agg [.bool b2,.sl true (d.map AJ)]])):BL (.j5 [.agg [.bool b,.sl q1 (m.map AJ)],.agg [.bool b2,.sl q2 (d.map AJ)]]) K:=by
 refine tS (λh=>h) (λv hv=>?_) ?_
 ·simp only[zc,yc,or_false]at hv
  rcases hv with rfl|rfl<;>trivial
 ·have e:L5 (.j5 [.agg [.bool b,.sl q1 (m.map AJ)],.agg [.bool b2,.sl q2 (d.map AJ)]]) = .j5 [.agg [.bool b,.sl true (IZ (m.map AJ))],.agg [.bool b2,.sl true (IZ (d.map AJ))]]:=rfl
  rw[e,oW,oW];exact hk
theorem iD{a b:Int}{d e:Nat}(hd:d≠0)(he:e≠0):mkRat a d+mkRat b e=mkRat (a*e+b*d) (d*e):=Rat.mkRat_add_mkRat a b hd he
theorem Uy{a b:Int}{d:Nat}(hd:d≠0):mkRat a d+mkRat b d=mkRat (a+b) d:=by
 rw[iD hd hd,<-Int.add_mul,xe hd]
theorem pJ(a b:Int)(d e:Nat):mkRat a d*mkRat b e=mkRat (a*b) (d*e):=Rat.mkRat_mul_mkRat a b d e
theorem Va(a:Int):mkRat a 1=(a:Rat):=by
 have h:=Ee (a:Rat);rw[Oe,Le]at h;exact h
theorem pK{z:Int}{d:Nat}(hd:d≠0):mkRat z d=0↔z=0:=Rat.mkRat_eq_zero hd
theorem Vb{z:Int}{d:Nat}(hd:d≠0):w6 (mkRat z d).num=w6 z:=by
 obtain⟨_,_,h⟩:=pL (z:=z) hd;have h0:(mkRat z d).num=0↔z=0:=by rw[Rat.num_eq_zero,pK hd]
 have h1:(mkRat z d).num<0↔z<0:=by simpa using h
 unfold w6;by_cases a:z<0
 ·rw[if_pos a,if_pos (h1.2 a)]
 ·rw[if_neg a,if_neg (λh=>a (h1.1 h))]
  by_cases b:z=0
  ·rw[if_neg O',if_neg (by have:=h0.2 b;omega)]
  ·rw[if_pos O',if_pos (by have:=mt h0.1 b;have:=mt h1.1 a;omega)]
theorem AlK{a b:Int}{d e:Nat}(hd:d≠0)(he:e≠0)(hb:b≠0):mkRat a d/mkRat b e=mkRat (b.sign*(a*e)) (d*b.natAbs):=by
 have hbn:b.natAbs≠0:=O'
 have h1:mkRat b e≠0:=λh=>hb ((pK he).1 h)
 have key:mkRat (b.sign*(a*e)) (d*b.natAbs)*mkRat b e=mkRat a d:=by
  rw[pJ];have e1:b.sign*(a*e)*b=a*((b.natAbs*e:Nat):Int):=by
   have:=Int.sign_mul_self b
   rw[Kc,<-this];grind
  rw[e1,show d*b.natAbs*e=d*(b.natAbs*e)by rw[Ia]];exact xe (Nat.mul_ne_zero hbn he)
 rw[<-key,Rat.mul_div_cancel h1]
theorem Aeh{x y:Int}(hy:y≠0):zv (decide (x<0) != decide (y<0)) (dg x.natAbs)=y.sign*x:=by
 unfold zv;rw[BQ];rcases Int.lt_or_gt_of_ne hy with h|h
 ·rw[Int.sign_eq_neg_one_of_neg h]
  by_cases hx:x<0
  ·simp[hx,h];omega
  ·simp[hx,h];omega
 ·rw[Int.sign_eq_one_of_pos h]
  by_cases hx:x<0
  ·simp[hx,show¬y<0 by omega];omega
  ·simp[hx,show¬y<0 by omega];omega
def Bt(k:Nat)(x:Rat):Prop:=x.num.natAbs<=2^k/\x.den<=2^k
theorem Bt.le{k l:Nat}{x:Rat}(h:Bt k x)(hl:k<=l):Bt l x:=by
 have:=nb (show 0<2 by omega) hl
 exact⟨uc h.1 this,uc h.2 this⟩
theorem Bt.mk{k:Nat}{z:Int}{d:Nat}(hz:z.natAbs<=2^k)(hd:d<=2^k):Bt k (mkRat z d):=by
 by_cases h0:d=0
 ·subst h0
  rw[Rat.mkRat_zero];exact⟨Z',by simp;exact rb⟩
 ·obtain⟨e1,e2,_⟩:=pL (z:=z) h0
  unfold Bt;rw[e1,e2];exact⟨uc (Ke _ _) hz,uc (Ke _ _) hd⟩
theorem Bt.add{k l:Nat}{x y:Rat}(hx:Bt k x)(hy:Bt l y):Bt (k+l+1) (x+y):=by
 rw[Rat.add_def'];refine Bt.mk ?_ ?_
 ·have h1:(x.num*y.den).natAbs<=2^k*2^l:=by rw[Kb,ue];exact Nb hx.1 hy.2
  have h2:(y.num*x.den).natAbs<=2^l*2^k:=by rw[Kb,ue];exact Nb hy.1 hx.2
  rw[xc (2^l)]at h2;rw[Oa,Fa];have h3:=re (x.num*y.den) (y.num*x.den);omega
 ·rw[Oa,Fa]
  have:=Nb hx.2 hy.2
  omega
theorem Bt.mul{k l:Nat}{x y:Rat}(hx:Bt k x)(hy:Bt l y):Bt (k+l) (x*y):=by
 rw[Rat.mul_def'];refine Bt.mk ?_ ?_
 ·rw[Kb,Fa];exact Nb hx.1 hy.1
 ·rw[Fa];exact Nb hx.2 hy.2
theorem Bt.zero(k:Nat):Bt k 0:=⟨Z',by simp;exact rb⟩
theorem Bt.one(k:Nat):Bt k 1:=⟨by simp;exact rb,by simp;exact rb⟩
theorem Bt.dig{k n:Nat}{x:Rat}(h:Bt k x)(hn:k<32*n):Sm n (dg x.num.natAbs)/\Sm n (dg x.den):=by
 have e:2^k<4294967296^n:=by
  rw[show 4294967296=2^32 from rfl,<-Nat.pow_mul];exact(Nat.pow_lt_pow_iff_right O').2 hn
 exact⟨Sm.dg (Cb h.1 e),Sm.dg (Cb h.2 e)⟩
def Bs(k:Nat)(l:o_):Prop := ∀x∈l,Bt k x
theorem Bs.at{k:Nat}{l:o_}(h:Bs k l){i:Nat}{x:Rat}(hx:l[i]?=some x):Bt k x:=h x (zM hx)
theorem Bs.le{k j:Nat}{l:o_}(h:Bs k l)(hj:k<=j):Bs j l:=λx hx=>(h x hx).le hj
theorem Bs.take{k:Nat}{l:o_}(h:Bs k l)(n:Nat):Bs k (l.take n):=λx hx=>h x (Jd hx)
def BT:o_->o_->Rat
 |x::xs,y::ys=>x*y+BT xs ys
 |_,_=>0
theorem xH(l:o_):BT l []=0:=by cases l<;>rfl
theorem xI:∀{a b:o_}{x y:Rat},a.length=b.length->BT (a++[x]) (b++[y])=BT a b+x*y
 |[],[],x,y,_=>by show x*y+0=0+x*y;rw[Rat.add_zero,Rat.zero_add]
 |p::a,q::b,x,y,h=>by
  show p*q+BT (a++[x]) (b++[y])=p*q+BT a b+x*y;rw[xI (by simpa using h),Rat.add_assoc]
theorem aG{a b:o_}{i:Nat}{x y:Rat}(hx:a[i]?=some x)(hy:b[i]?=some y):BT (a.take (i+1)) (b.take (i+1))=BT (a.take i) (b.take i)+x*y:=by
 have h1:=(zS hx).1;have h2:=(zS hy).1;rw[ma,ma,hx,hy,jb,jb,xI (by rw[Na,Na];omega)]
theorem fI{a b:o_}{n:Nat}(h:a.length=n):BT (a.take n) (b.take n)=BT a b:=by
 subst h;rw[zT (na _)];induction a generalizing b with
 |nil=>cases b<;>rfl
 |cons x a ih=>cases b with
  |nil=>rfl
  |cons y b=>simp only[Ea,Cd,BT,ih]
theorem Bs.dot{k l:Nat}:∀{a b:o_},Bs k a->Bs l b->Bt (a.length*(k+l+1)) (BT a b)
 |[],b,_,_=>by cases b<;>exact Bt.zero _
 |x::a,[],_,_=>Bt.zero _
 |x::a,y::b,ha,hb=>by
  have h1:=(ha x Z').mul (hb y Z');have h2:=Bs.dot (a:=a) (b:=b) (λz hz=>ha z (by simp[hz])) (λz hz=>hb z (by simp[hz]));refine(h1.add h2).le ?_;rw[Ea,kd];omega
structure HX where
 a:P'
 b:o_
 c:o_
 d:Rat
structure HX.Ok(S:HX)(n k:Nat):Prop where
 la:S.a.length=n
 lr:∀r∈S.a,r.length=n
 lb:S.b.length=n
 lc:S.c.length=n
 ba:∀r∈S.a,Bs k r
 bb:Bs k S.b
 bc:Bs k S.c
 bd:Bt k S.d
def DF(n:Nat)(j:Int):o_:=(eb n).map λi:Nat=>if(i:Int)=j then 1 else 0
theorem cS(n:Nat)(j:Int):(DF n j).length=n:=by simp[DF]
theorem An4(n:Nat)(j:Int):DF (n+1) j=DF n j++[if(n:Int)=j then 1 else 0]:=by simp[DF,de]
abbrev eO:Option Rat->w_
 |none=>[.bool false,.nil,.nil]
 |some x=>eQ x
def ED(l:o_)(m:Nat):List (Option Rat):=l.map some++sa (m-l.length) none
theorem aR(m:Nat):ED [] m=sa m none:=by simp[ED]
theorem SC{l:o_}{m:Nat}(h:l.length<=m):(ED l m).length=m:=by simp[ED];omega
theorem YF{l:o_}{m:Nat}{x:Rat}(h:l.length<m):(ED l m).set l.length (some x)=ED (l++[x]) m:=by
 unfold ED;have e:m-l.length=(m-(l++[x]).length)+1:=by simp;omega
 rw[e,List.replicate_succ,Md _ _ Z'];simp
theorem aQ{l:o_}{m:Nat}(h:l.length=m):(ED l m).map eO=l.map eQ:=by
 unfold ED;rw[h,Nat.sub_self];simp[mf]
abbrev eS(S:HX):w_:=[.sl false (S.a.map λr=>[AV.sl false (r.map eQ)]),.sl false (S.b.map eQ),.sl false (S.c.map eQ)]++eQ S.d
theorem MM(l:o_):DR (l.map eQ):=L2 (λx=>by simp only[BK,AY,and_true,true_and];exact⟨C8 _,C8 _⟩) l
theorem AnV{l:o_}{i:Nat}{x:Rat}(h:l[i]?=some x):l.take (i+1)=l.take i++[x]:=by
 rw[ma,h];rfl
theorem eG(S:HX):AY (.agg (eS S)):=by
 have h:DR (S.a.map λr=>[AV.sl false (r.map eQ)]):=L2 (λr=>by simp only[BK,AY,and_true,true_and];exact MM r) S.a;simp only[AY,mb,Ib,BK,and_true,true_and];exact⟨h,MM _,MM _,C8 _,C8 _⟩
def EU(vals:o_):List (Int×Int)->Rat
 |[]=>0
 |t::ts=>(t.2:Rat)*vals.getD t.1.toNat 0+EU vals ts
theorem Zf(vals:o_)(t:Int×Int):∀ts,EU vals (ts++[t])=EU vals ts+(t.2:Rat)*vals.getD t.1.toNat 0
 |[]=>by simp only[Ib,EU];grind
 |u::ts=>by simp only[mb,EU];rw[Zf vals t ts];grind
theorem Zg{vals:o_}{ts:List (Int×Int)}{i:Nat}{t:Int×Int}(h:ts[i]?=some t):EU vals (ts.take (i+1))=EU vals (ts.take i)+(t.2:Rat)*vals.getD t.1.toNat 0:=by
 rw[ma,h,jb,Zf]
def HE(u:Rat)(ex:Int):Nat->o_->List (List (Int×Int))->o_
 |_,vals,[]=>vals
 |k,vals,ts::r=>HE u ex (k+1) (vals++[EU vals ts/u+(if(k:Int)=ex then 1 else 0)]) r
theorem Ta(u:Rat)(ex:Int):∀(k:Nat)(vals:o_)(l:List (List (Int×Int))),(HE u ex k vals l).length=vals.length+l.length
 |_,_,[]=>rfl
 |k,vals,ts::r=>by rw[HE,Ta u ex (k+1)];simp;omega
theorem Bs.getD{k:Nat}{l:o_}(h:Bs k l)(i:Nat):Bt k (l.getD i 0):=by
 rw[xa];cases e:l[i]? with
 |none=>exact Bt.zero k
 |some x=>exact h.at e
theorem Bs.sum{k j:Nat}{vals:o_}(hv:Bs k vals):∀(ts:List (Int×Int)),(∀t∈ts,Bt j ((t.2:Int):Rat))->Bt (ts.length*(j+k+1)) (EU vals ts)
 |[],_=>Bt.zero _
 |t::ts,h=>by
  have h1:=(h t Z').mul (hv.getD t.1.toNat);have h2:=Bs.sum hv ts (λu hu=>h u (by simp[hu]));refine(h1.add h2).le ?_;rw[Ea,kd];omega
theorem Akb{l:o_}{x:Rat}{m:Nat}(h:m<l.length):(l++[x]).getD m 0=l.getD m 0:=by
 rw[xa,xa,Fc h]
theorem Aka{l:o_}{x:Rat}{m:Nat}(h:m=l.length):(l++[x]).getD m 0=x:=by
 subst h;rw[xa,Ic (na _)];simp
def gS:Nat->Nat
 |0=>0
 |i+1=>5*gS i+150
theorem Aj5(i:Nat):gS i<=gS (i+1):=by rw[gS];omega
theorem Bt.ofInt{k:Nat}{z:Int}(h:z.natAbs<=2^k):Bt k ((z:Int):Rat):=⟨by rw[Oe];exact h,by rw[Le];exact rb⟩
theorem Bt.yi{k j:Nat}{x:Rat}{z:Int}(h:Bt k x)(hz:1<=z)(hj:z.natAbs<=2^j):Bt (k+j) (x/(z:Rat)):=by
 obtain⟨d,rfl⟩:=Int.eq_ofNat_of_zero_le (show 0<=z by omega);have e:x/((d:Int):Rat)=x*mkRat 1 d:=by
  rw[Hd,Rat.mkRat_eq_div,Hd];congr 1;rw[show((1:Int):Rat)=1 from rfl,Rat.one_mul];rfl
 rw[e];exact h.mul (Bt.mk (by simp;exact rb) (by simpa using hj))
structure VG(l:List (List (Int×Int))):Prop where
 len:∀ts∈l,ts.length<=5
 cf:∀ts∈l,∀t∈ts,t.2.natAbs<=2^24
theorem Al4{ts:List (Int×Int)}{vals:o_}{k:Nat}{z:Int}(h1:ts.length<=5)(h2:∀t∈ts,t.2.natAbs<=2^24)(hv:Bs k vals)(hz:1<=z)(ka:z.natAbs<=2^24)(b:Bool):Bt (5*k+150) (EU vals ts/(z:Rat)+(if b=true then 1 else 0)):=by
 have a1:=hv.sum ts (j:=24) (λt ht=>Bt.ofInt (h2 t ht));have a2:Bt (5*(24+k+1)) (EU vals ts):=a1.le (zR _ h1);have a3:=a2.yi hz ka;have a4:Bt 0 (if b=true then(1:Rat)else 0):=by cases b<;>first|exact Bt.zero 0|exact Bt.one 0
 exact(a3.add a4).le O'
theorem Sz{z ex:Int}(hz:1<=z)(ka:z.natAbs<=2^24):∀(l:List (List (Int×Int)))(k:Nat)(vals:o_),VG l->Bs (gS k) vals->Bs (gS (k+l.length)) (HE (z:Rat) ex k vals l)
 |[],k,vals,_,hv=>hv
 |ts::l,k,vals,h,hv=>by
  have h1:=Al4 (h.len ts Z') (h.cf ts Z') hv hz ka (decide ((k:Int)=ex));simp only[decide_eq_true_eq]at h1;rw[HE,Ea,show k+(l.length+1)=k+1+l.length by omega];refine Sz hz ka l (k+1) _ ⟨λt ht=>h.len t (by simp[ht]),λt ht=>h.cf t (by simp[ht])⟩ ?_;intro x hx;rcases ae.1 hx with hx|hx
  ·exact(hv x hx).le (Aj5 k)
  ·simp only[ve]at hx
   rw[hx];exact h1
theorem AjV(u:Rat)(ex:Int)(vals:o_)(l:List (List (Int×Int)))(i:Nat)(ts:List (Int×Int))(h:l[i]?=some ts):HE u ex 0 vals (l.take (i+1))=HE u ex 0 vals (l.take i)++[EU (HE u ex 0 vals (l.take i)) ts/u+(if(i:Int)=ex then 1 else 0)]:=by
 have key:∀(l:List (List (Int×Int)))(k:Nat)(vals:o_)(ts:List (Int×Int)),HE u ex k vals (l++[ts])=HE u ex k vals l++[EU (HE u ex k vals l) ts/u+(if((k+l.length:Nat):Int)=ex then 1 else 0)]:=by
  intro l;induction l with
  |nil=>intro k vals ts;simp[HE]
  |cons a l ih=>
   intro k vals ts;rw[mb,HE,ih,HE,Ea,show k+1+l.length=k+(l.length+1)by omega]
 have hi:=(zS h).1;rw[ma,h,jb,key,Na,ib O',Ja]
def DW(m:P')(j:Nat):o_:=m.map λr=>r.getD j 0
def GN(r:o_)(m:P')(n:Nat):o_:=(eb n).map λj=>BT r (DW m j)
def IJ(a m:P')(n:Nat):P':=a.map λr=>GN r m n
def GO(m:P')(b:o_):o_:=m.map λr=>BT r b
theorem AgR(m:P')(j:Nat):(DW m j).length=m.length:=by simp[DW]
theorem AlV(r:o_)(m:P')(n:Nat):(GN r m n).length=n:=by simp[GN]
theorem AlT(a m:P')(n:Nat):(IJ a m n).length=a.length:=by simp[IJ]
theorem pN(m:P')(b:o_):(GO m b).length=m.length:=by simp[GO]
structure Sq(n:Nat)(m:P'):Prop where
 l:m.length=n
 r:∀r∈m,r.length=n
theorem Sq.at{n:Nat}{m:P'}(h:Sq n m){i:Nat}{r:o_}(hr:m[i]?=some r):r.length=n:=h.r r (zM hr)
theorem Sq.mul{n:Nat}{a:P'}(h:a.length=n)(m:P'):Sq n (IJ a m n):=by
 refine⟨by rw[AlT,h],λr hr=>?_⟩;obtain⟨x,_,rfl⟩:=Ka.1 hr;exact AlV _ _ _
def Ms(k:Nat)(m:P'):Prop := ∀r∈m,Bs k r
theorem Ms.at{k:Nat}{m:P'}(h:Ms k m){i:Nat}{r:o_}(hr:m[i]?=some r):Bs k r:=h r (zM hr)
theorem Ms.Lw{k:Nat}{m:P'}(h:Ms k m)(j:Nat):Bs k (DW m j):=by
 intro x hx;obtain⟨r,hr,rfl⟩:=Ka.1 hx;rw[xa];cases e:r[j]? with
 |none=>exact Bt.zero k
 |some x=>exact(h r hr).at e
theorem mG:∀a b:o_,BT a b=BT b a
 |[],[]=>rfl
 |[],_::_=>rfl
 |_::_,[]=>rfl
 |x::a,y::b=>by simp only[BT,mG a b,Rat.mul_comm]
def wQ(S:HX):Nat->o_
 |0=>S.b
 |j+1=>GO S.a (wQ S j)
def conv(A h:Nat->Rat)(K:Nat):Nat->Rat
 |0=>0
 |a+1=>conv A h K a+A a*h (K-a)
def H9(f:Nat->Rat):Nat->Rat
 |0=>0
 |n+1=>H9 f n+f n
theorem mH(x:Rat):∀a b:o_,BT (a.map (· * x)) b=BT a b*x
 |[],b=>by simp[BT]
 |a::l,[]=>by rw[xH,xH,Rat.zero_mul]
 |a::l,b::k=>by
  simp only[Qa,BT,mH x l k];grind
end Go.e9

namespace Go.e9
theorem Bt.Qx{k:Nat}{y:Rat}(h:Bt k y):Bt k y⁻¹:=by
 rw[Rat.inv_def];rcases Int.natAbs_eq y.num with e|e
 ·rw[e,ie]
  exact Bt.mk (by simpa using h.2) h.1
 ·rw[e,Rat.divInt_neg',ie]
  exact Bt.mk (by simpa using h.2) h.1
theorem Bt.vi{k l:Nat}{x y:Rat}(hx:Bt k x)(hy:Bt l y):Bt (k+l) (x/y):=by
 rw[Hd];exact hx.mul hy.Qx
theorem Bt.Jj{k:Nat}{x:Rat}(h:Bt k x):Bt k (-x):=⟨by rw[Rat.neg_num,Int.natAbs_neg];exact h.1,by rw[Rat.neg_den];exact h.2⟩
def cE(s x:Rat):Rat:=s*(((s*x).den:Nat):Rat)
def HN(r:o_):Rat:=r.foldl cE 1
theorem Am6(r:o_)(x:Rat):HN (r++[x])=cE (HN r) x:=by rw[HN,List.foldl_append];rfl
def whole(m:P'):P':=m.map λr=>r.map (· * HN r)
theorem AlW{a b c:Rat}(h:c≠0)(e:a*c=b*c):a=b:=by
 have h1:=Rat.mul_inv_cancel c h;have:a*c*c⁻¹=b*c*c⁻¹:=by rw[e]
 rwa [vd,vd,h1,rf,rf]at this
end Go.e9

namespace Go.e9
structure Pt where
 x:Rat
 y:Rat
 w:Rat
def AnQ(g:List Pt)(f:Pt->Rat):Rat:=g.foldl (λs p=>s+f p) 0
def rhs(g:List Pt)(k:Nat):Rat:=AnQ g λp=>p.w*p.x^k*p.y
def Wh(k:Nat)(x:Rat):Prop := ∃z:Int,x=(z:Rat)/\z.natAbs<=2^k
theorem Wh.le{k l:Nat}{x:Rat}(h:Wh k x)(hl:k<=l):Wh l x:=by
 obtain⟨z,e,b⟩:=h;exact⟨z,e,uc b (nb O' hl)⟩
theorem Wh.mul{k l:Nat}{x y:Rat}(hx:Wh k x)(hy:Wh l y):Wh (k+l) (x*y):=by
 obtain⟨z,rfl,b⟩:=hx;obtain⟨u,rfl,c⟩:=hy;exact⟨z*u,by rw[Lc],by rw[Kb,Fa];exact Nb b c⟩
theorem Wh.add{k:Nat}{x y:Rat}(hx:Wh k x)(hy:Wh k y):Wh (k+1) (x+y):=by
 obtain⟨z,rfl,b⟩:=hx;obtain⟨u,rfl,c⟩:=hy;refine⟨z+u,by rw[Rat.intCast_add],?_⟩;rw[Oa];have:=re z u
 omega
theorem Wh.zero(k:Nat):Wh k 0:=⟨0,rfl,qf _⟩
theorem Wh.bt{k:Nat}{x:Rat}(h:Wh k x):Bt k x:=by
 obtain⟨z,rfl,b⟩:=h;exact Bt.ofInt b
theorem Wh.dot{k l:Nat}:∀{a b:o_},(∀x∈a,Wh k x)->(∀x∈b,Wh l x)->Wh (k+l+a.length) (BT a b)
 |[],b,_,_=>by cases b<;>exact Wh.zero _
 |x::a,[],_,_=>Wh.zero _
 |x::a,y::b,ha,hb=>by
  rw[BT,Ea,<-Nat.add_assoc];exact(((ha x ic).mul (hb y ic)).le O').add (Wh.dot (λz hz=>ha z (nc _ hz)) λz hz=>hb z (nc _ hz))
theorem WH(y:Rat):y*(y.den:Rat)=(y.num:Rat):=by
 have h:=Rat.num_divInt_den y;rw[Rat.divInt_eq_div]at h;have h0:((y.den:Int):Rat)≠0:=λe=>by
  have:((y.den:Int):Rat)=((0:Int):Rat):=e
  have:=Me.1 this
  have:=y.den_pos
  omega
 have h2:=Rat.div_mul_cancel h0 (a:=(y.num:Rat));rw[h,kc]at h2;exact h2
theorem lV{y:Rat}{T:Nat}{z:Int}(h:(T:Rat)*y=(z:Rat)):y.den ∣ T:=by
 have h1:y*(y.den:Rat)=(y.num:Rat):=WH y;have h2:(((T:Int)*y.num:Int):Rat)=((z*(y.den:Int):Int):Rat):=by
  rw[Lc,Lc,<-h1,<-h,kc,kc,vd]
 have h3:=Me.1 h2;have h4:(y.den:Int) ∣ (T:Int)*y.num:=⟨z,by rw[h3,sf]⟩;have h5:y.den ∣ T*y.num.natAbs:=by
  have:=Int.natAbs_dvd_natAbs.2 h4
  simpa [Kb]using this
 exact Nat.Coprime.dvd_of_dvd_mul_right (Nat.Coprime.symm y.reduced) h5
theorem Alo{α:Type}{l:List α}(h:l.length=1):∃a,l=[a]:=by
 rcases l with _|⟨a,_|⟨b,l⟩⟩<;>simp at h
 exact⟨a,rfl⟩
theorem oS{α:Type}{l:List α}(h:l.length=2):∃a b,l=[a,b]:=by
 obtain⟨a,r,rfl⟩:∃a r,l=a::r:=by
  cases l with
  |nil=>simp at h
  |cons a r=>exact⟨a,r,rfl⟩
 obtain⟨b,rfl⟩:=Alo (l:=r) (by simpa using h);exact⟨_,_,rfl⟩
theorem Vx{α:Type}{l:List α}(h:l.length=3):∃a b c,l=[a,b,c]:=by
 obtain⟨a,r,rfl⟩:∃a r,l=a::r:=by
  cases l with
  |nil=>simp at h
  |cons a r=>exact⟨a,r,rfl⟩
 obtain⟨b,c,rfl⟩:=oS (l:=r) (by simpa using h);exact⟨_,_,_,rfl⟩
def GC(u:Rat)(ex:Int):Nat->o_->List (List (Int×Int))->o_
 |_,vals,[]=>vals
 |k,vals,ts::r=>GC u ex (k+1) (vals++[if(k:Int)=ex then 1 else EU vals ts*u]) r
theorem nV(u:Rat)(ex:Int):∀(k:Nat)(vals:o_)(l:List (List (Int×Int))),(GC u ex k vals l).length=vals.length+l.length
 |_,vals,[]=>by simp[GC]
 |k,vals,ts::r=>by rw[GC,nV u ex (k+1)];simp;omega
theorem Akc(u:Rat)(ex:Int)(vals:o_)(l:List (List (Int×Int)))(i:Nat)(ts:List (Int×Int))(h:l[i]?=some ts):GC u ex 0 vals (l.take (i+1))=GC u ex 0 vals (l.take i)++[if(i:Int)=ex then 1 else EU (GC u ex 0 vals (l.take i)) ts*u]:=by
 have key:∀(l:List (List (Int×Int)))(k:Nat)(vals:o_)(ts:List (Int×Int)),GC u ex k vals (l++[ts])=GC u ex k vals l++[if((k+l.length:Nat):Int)=ex then 1 else EU (GC u ex k vals l) ts*u]:=by
  intro l;induction l with
  |nil=>intro k vals ts;simp[GC]
  |cons a l ih=>
   intro k vals ts;rw[mb,GC,ih,GC,Ea,show k+1+l.length=k+(l.length+1)by omega]
 have hi:=(zS h).1;rw[ma,h,jb,key,Na,ib O',Ja]
def Q4(m:Nat):Nat->Nat
 |0=>0
 |i+1=>m*(Q4 m i+25)+Q4 m i+24
theorem gI{u:Rat}{ex:Int}{m:Nat}(hu:Bt 24 u):∀(l:List (List (Int×Int)))(k:Nat)(vals:o_),(∀ts∈l,ts.length<=m)->(∀ts∈l,∀t∈ts,t.2.natAbs<=2^24)->Bs (Q4 m k) vals->Bs (Q4 m (k+l.length)) (GC u ex k vals l)
 |[],k,vals,_,_,hv=>hv
 |ts::l,k,vals,h1,h2,hv=>by
  rw[GC,Ea,show k+(l.length+1)=k+1+l.length by omega];refine gI hu l (k+1) _ (λt ht=>h1 t (by simp[ht])) (λt ht=>h2 t (by simp[ht])) ?_;intro x hx;rcases ae.1 hx with hx|hx
  ·exact(hv x hx).le (by rw[Q4];omega)
  ·simp only[ve]at hx
   subst hx;split
   ·exact Bt.one _
   ·have a1:=hv.sum ts (j:=24) (λt ht=>Bt.ofInt (h2 ts Z' t ht))
    have a2:=zR (24+Q4 m k+1) (h1 ts Z');refine((a1.le a2).mul hu).le ?_;rw[Q4,show 24+Q4 m k+1=Q4 m k+25 by omega];omega
theorem tG{L:Lib}{kk:List It}{tm:Tm}{M:Mem}{Q Q':Tm->Mem->Prop}(h:AA L kk tm M Q)(hq:∀tm M,Q tm M->Q' tm M):AA L kk tm M Q':=λσ st hr=>by
 obtain⟨n,c,s,h1,σ',ch,M',h2,h3⟩:=h σ st hr;exact⟨n,c,s,h1,σ',ch,M',h2,hq _ _ h3⟩
end Go.e9

namespace Go.e9
open F
attribute [local irreducible] AA AF AX AC B4 AU A7 A8 BV BI B0 DS BG A1 BU CB AB A2 AH pw CG B3 CR DK C2 CO CJ BL CY C3 C4 CX C7
variable {L:Lib}
def DL(a b:Int):Int:=if a<b then -1 else if b<a then 1 else 0
theorem KB{a b:Int}(h:a<b):-1=DL a b:=by unfold DL;rw[if_pos h]
theorem OP{a b:Int}(h:b<a):1=DL a b:=by unfold DL;rw[if_neg O',if_pos h]
theorem VT{a b:Int}(h:a=b):0=DL a b:=by unfold DL;rw[if_neg O',if_neg O']
theorem AiR(N:c6 L)(a:Int):Ev L 58 [.int .i64 a] (.bool false):=by
 refine Ev.x N.R5 rfl rfl ?_;repeat' (first|apply AG<;>intro hc<;>try omega|apply AE)<;>conv=>whnf
 exact E9 rfl
theorem AiS(N:c6 L)(a:Int):Ev L 59 [.int .u32 a] (.bool false):=by
 refine Ev.x N.R6 rfl rfl ?_;repeat' (first|apply AG<;>intro hc<;>try omega|apply AE)<;>conv=>whnf
 exact E9 rfl
theorem yC(N:c6 L)(a b:Int):Ev L 60 [.int .i64 a,.int .i64 b] (.int .i64 (DL a b)):=by
 refine Ev.x N.R3 rfl rfl ?_;repeat' (first|apply AG<;>intro hc<;>try omega|apply AE|refine AD (AiR N _) ?_)<;>conv=>whnf
 ·exact BP (KB O')
 ·exact BP (OP O')
 ·exact BP (VT O')
theorem Aiw(N:c6 L)(a b:Int):Ev L 61 [.int .u32 a,.int .u32 b] (.int .i64 (DL a b)):=by
 refine Ev.x N.R4 rfl rfl ?_;repeat' (first|apply AG<;>intro hc<;>try omega|apply AE|refine AD (AiS N _) ?_)<;>conv=>whnf
 ·exact BP (KB O')
 ·exact BP (OP O')
 ·exact BP (VT O')
theorem yB(N:c6 L)(l:u_)(q:Bool)(hl:l.length<=1099511627776):Ev L 62 [.sl q (l.map AJ)] (.sl false (l.map AJ)):=by
 cases l with
 |nil=>
  refine G8.nil N.LN (G8.x N.LN rfl rfl ?_) (G8.x N.LN rfl rfl ?_)
  ·(repeat' (apply AE<;>conv=>whnf))
   exact AW rfl (by simp[AY,DR])
  ·(repeat' (apply AE<;>conv=>whnf))
   refine XJ (enc:=AJ) (l:=[]) (l':=[]) rfl (λ_=>rfl) Z' Z' ?_;conv=>whnf
   (repeat' ((refine C6 (λ_=>rfl) rfl ?_ ?_;(first|rfl|simp))<;>conv=>whnf))
   exact AW rfl (by simp[AY,DR])
 |cons d l=>
  refine G8.cons (G8.x N.LN rfl rfl ?_);(repeat' (apply AE<;>conv=>whnf))
  refine A4 Z' ?_;conv=>whnf
  skip
  refine XJ (enc:=AJ) (l:=[]) (l':=d::l) rfl (λ_=>rfl) (by simp at hl⊢;omega) (by simp at hl⊢;omega) ?_;conv=>whnf
  (repeat' ((refine C6 (λ_=>rfl) rfl ?_ ?_;(first|rfl|simp))<;>conv=>whnf))
  exact AW rfl (by simp only[AY,true_and];exact C8 (d::l))
theorem NN(N:c6 L)(l:u_)(q:Bool)(hD:A3 l)(hl:l.length<=1099511627776):ZX L 65 [.sl q (l.map AJ)] (.sl q ((dg (val l)).map AJ)):=by
 refine Afk N.HH rfl rfl rfl rfl rfl ?_;repeat' (first|apply AP|apply AE)<;>conv=>whnf
 refine DG (λn=>n) (λ(n:Nat)=>n<=l.length/\∀i,n<=i->i<l.length->l[i]?=some 0) (λn=>[(3,.int .i64 n)]) (λ_=>[]) l.length ⟨na _,λi h1 h2=>O'⟩ ?_;intro n ⟨p1,p2⟩ ih;rcases n with _|n
 ·repeat' (first|apply AG<;>intro hc<;>try omega|apply AE)<;>conv=>whnf
  refine QS (k:=0) (λ_=>rfl) O' ?_;conv=>whnf
  refine⟨_,rfl,?_⟩;rw[H5 hD p1 p2 (Or.inl rfl)];rfl
 ·have e1:((n+1:Nat):Int)-1=n:=O'
  repeat' (first|apply AG<;>intro hc<;>try omega|apply BS;omega|refine RW V' ?_ (λe he hb=>?_);omega|apply AE)<;>conv=>whnf
  ·rw[e1]
   exact BF [] (ih n O' ⟨O',λi h1 h2=>by
    by_cases h:i=n
    ·subst h
     rw[e1,va]at he;rw[he];congr 1;omega
    ·exact p2 i O' h2⟩)
  ·refine QS (k:=n+1) (λ_=>rfl) O' ?_
   (conv=>whnf)
   refine⟨_,rfl,?_⟩;rw[e1,va]at he;rw[H5 hD p1 p2 (Or.inr ⟨e,he,O'⟩)];rfl
theorem aI(N:c6 L)(l:u_)(q:Bool)(hD:A3 l)(hl:l.length<=1099511627776):Ev L 66 [.sl q (l.map AJ)] (.sl false ((dg (val l)).map AJ)):=by
 have hc:=FN hD;refine Ev.x N.S7 rfl rfl ?_;repeat' (first|apply AE|refine MI (NN N l _ hD hl) ?_|refine AD (yB N (dg (val l)) _ O') ?_)<;>conv=>whnf
 exact AW rfl (by simp only[AY,true_and];exact C8 _)
theorem AgM{a b:Nat}(h:((dg a).length:Int)≠(dg b).length):DL (dg a).length (dg b).length=DL a b:=by
 rcases Mb (dg a).length (dg b).length with h1|h1|h1
 ·have:=ZK h1
  rw[<-KB O',<-KB O']
 ·omega
 ·have:=ZK h1
  rw[<-OP O',<-OP O']
theorem Q2(N:c6 L)(a b:u_)(q1 q2:Bool)(hA:A3 a)(hB:A3 b)(la:a.length<=1099511627776)(lb:b.length<=1099511627776):Ev L 67 [.sl q1 (a.map AJ),.sl q2 (b.map AJ)] (.int .i64 (DL (val a) (val b))):=by
 have l1:=FN hA;have l2:=FN hB;have d1:=EH (val a);have d2:=EH (val b);refine Ev.x N.OZ rfl rfl ?_;repeat' (first|apply AG<;>intro hc<;>try omega|apply BS;omega|apply AP|apply AE|refine MI (NN N a _ hA la) ?_|refine MI (NN N b _ hB lb) ?_|refine AD (yC N _ _) ?_)<;>conv=>whnf
 ·exact BP (AgM O')
 have hlen:(dg (val a)).length=(dg (val b)).length:=O'
 have v1:=BQ (val a);have v2:=BQ (val b);generalize dg (val a)=X at*;generalize dg (val b)=Y at*;refine DG (λn=>n) (λ(n:Nat)=>n<=X.length/\X.drop n=Y.drop n) (λn=>[(7,.int .i64 ((n:Int)-1))]) (λ_=>[]) X.length ⟨na _,by rw[ua (na _),ua O']⟩ ?_;intro n ⟨p1,p2⟩ ih;rcases n with _|n
 ·repeat' (first|apply AG<;>intro hc<;>try omega|apply AE)<;>conv=>whnf
  rw[vb,vb]at p2;exact BP (VT (by rw[<-v1,<-v2,p2]))
 ·have e1:((n+1:Nat):Int)-1=n:=O'
  rw[e1];repeat' (first|apply AG<;>intro hc<;>try omega|apply BS;omega|refine A5 V' ?_ rfl ?_;omega|refine dN V' ?_ (λe he hb=>?_);omega|apply AE|refine AD (Aiw N _ _) ?_)<;>conv=>whnf
  ·rename_i x hx _
   rcases Mb x e with h|h|h
   ·have:=kD d1 d2 hlen hx he p2 h
    refine BP ?_;rw[<-KB O',<-KB O']
   ·omega
   ·have:=kD d2 d1 hlen.symm he hx p2.symm h
    refine BP ?_;rw[<-OP O',<-OP O']
  ·rename_i x hx _
   refine BB [] E' (ih n O' ⟨O',?_⟩);obtain⟨i1,e1⟩:=zS hx;obtain⟨i2,e2⟩:=zS he;rw[Ba i1,Ba i2,p2,e1,e2];congr 1;omega
theorem lL:∀(i:Nat){x y:List Int},x.take i=y.take i->i<=x.length->i<=y.length->B6 x y=B6 (x.drop i) (y.drop i)
 |0,_,_,_,_,_=>rfl
 |i+1,a::x,b::y,h,h1,h2=>by
  simp only[Cd,Nc]at h;simp only[B6,h.1,Int.lt_irrefl,if_false,List.drop_succ_cons];exact lL i h.2 (by simpa using h1) (by simpa using h2)
 |i+1,[],_,_,h1,_=>by simp at h1
 |i+1,_::_,[],_,_,h2=>by simp at h2
theorem nK(N:s9 L)(x y:List Int)(q1 q2:Bool)(hx:x.length<9223372036854775808)(hy:y.length<9223372036854775808):Ev L 424 [.sl q1 (x.map AZ),.sl q2 (y.map AZ)] (.int .i64 (B6 x y)):=by
 refine Ev.x N.QH rfl rfl ?_;repeat' (first|apply AP|apply AE)<;>conv=>whnf
 refine DG (λi=>x.length-i) (λ(i:Nat)=>i<=x.length/\i<=y.length/\x.take i=y.take i) (λi=>[(11,.int .i64 i)]) (λ_=>[]) 0 ⟨O',O',rfl⟩ ?_;intro i ⟨p1,p2,p3⟩ ih;have hd:=lL i p3 p1 p2;by_cases hi:i<x.length
 ·obtain⟨a,ha⟩:=N' x i hi
  rw[DC ha]at hd;by_cases hj:i<y.length
  ·obtain⟨b,hb⟩:=N' y i hj
   rw[DC hb]at hd;repeat' (first|apply AG<;>intro hc<;>try omega|apply AR;omega|apply AP|refine A5 V' ?_ rfl ?_;omega|apply AE|refine AD (yC N.toc6 _ _) ?_)<;>conv=>whnf
   ·rw[hd]
    refine BP ?_;simp only[B6];unfold DL at hc⊢;split
    ·rfl
    ·split
     ·rfl
     ·rename_i h2 h3
      rw[if_neg h2,if_neg h3]at hc;exact absurd rfl hc
   ·have e2:a=b:=by
     unfold DL at hc;split at hc
     ·omega
     ·split at hc<;>omega
    refine BB [] E' (ih (i+1) O' ⟨O',O',?_⟩);rw[ma,ma,p3,ha,hb,e2]
  ·rw[E6 (l:=y) (i:=i) O']at hd
   rw[hd];repeat' (first|apply AG<;>intro hc<;>try omega|apply AP|refine A5 V' ?_ rfl ?_;omega|apply AE)<;>conv=>whnf
   exact BP rfl
 ·rw[E6 (l:=x) (i:=i) O']at hd
  by_cases hj:i<y.length
  ·obtain⟨b,hb⟩:=N' y i hj
   rw[DC hb]at hd;rw[hd];repeat' (first|apply AG<;>intro hc<;>try omega|apply AP|apply AE)<;>conv=>whnf
   exact BP rfl
  ·rw[E6 O']at hd
   rw[hd];repeat' (first|apply AG<;>intro hc<;>try omega|apply AP|apply AE)<;>conv=>whnf
   exact BP rfl
def J7:List Int->List Int->Bool
 |b::box,v::s=>decide (-b<=v/\v<=b)&&J7 box s
 |_,_=>true
theorem U1:∀{box s:List Int},s.length=box.length->(J7 box s=true↔CK box s)
 |[],[],_=>by simp[J7,CK]
 |b::box,v::s,h=>by
  simp only[J7,CK,za,decide_eq_true_eq];rw[U1 (by simpa using h)]
 |[],_::_,h=>by simp at h
 |_::_,[],h=>by simp at h
theorem AjP(N:s9 L)(s box:List Int)(q1 q2:Bool)(hl:s.length=box.length)(hb:∀b∈box,0<=b/\b<=9223372036854775807)(hx:box.length<9223372036854775808):Ev L 425 [.sl q1 (s.map AZ),.sl q2 (box.map AZ)] (.bool (J7 box s)):=by
 refine Ev.x N.OV rfl rfl ?_;repeat' (first|apply AP|apply AE)<;>conv=>whnf
 refine DG (λi=>s.length-i) (λ(i:Nat)=>i<=s.length/\J7 (box.drop i) (s.drop i)=J7 box s) (λi=>[(9,.int .i64 i)]) (λ_=>[]) 0 ⟨O',rfl⟩ ?_;intro i ⟨p1,p2⟩ ih;by_cases hi:i<s.length
 ·obtain⟨v,hv⟩:=N' s i hi
  obtain⟨b,iv⟩:=N' box i;have qe:=hb b (zM iv);rw[DC hv,DC iv,J7]at p2;repeat' (first|apply AG<;>intro hc<;>try omega|apply AR;omega|apply B4.neg;omega|refine A5 V' ?_ rfl ?_;omega|apply AE)<;>conv=>whnf
  ·rw[decide_eq_false O',ea]at p2
   exact E9 p2
  ·rw[decide_eq_false O',ea]at p2
   exact E9 p2
  ·rw[decide_eq_true O',Ma]at p2
   exact BF [] (ih (i+1) O' ⟨O',p2⟩)
 ·rw[E6 O',E6 O']at p2
  repeat' (first|apply AG<;>intro hc<;>try omega|apply AE)<;>conv=>whnf
  exact E9 p2
abbrev IG(q:Bool)(s:List Int):w_:=[.sl q (s.map AZ)]
abbrev EC(c:List (List Int)×List Int):w_:=[.sl false (c.1.map (IG false)),.sl false (c.2.map AZ)]
def LB(l:List (List Int)):Nat->Nat
 |0=>0
 |i+1=>if B6 (l.getD i []) (l.getD (LB l i) [])<0 then i else LB l i
theorem iB(l:List (List Int)):∀i,LB l i<i\/LB l i=0
 |0=>.inr rfl
 |i+1=>by
  simp only[LB];split
  ·exact .inl O'
  ·rcases iB l i with h|h<;>omega
theorem pI(l:List (List Int)):∀(i j:Nat),j<i->0<=B6 (l.getD j []) (l.getD (LB l i) [])
 |i+1,j,h=>by
  simp only[LB];split
  ·rename_i h1
   by_cases e:j=i
   ·subst e;rw[X1];omega
   ·have h2:=pI l i j O'
    rcases Int.lt_or_le (B6 (l.getD j []) (l.getD i [])) 0 with h3|h3
    ·have:=aB h3 h1;omega
    ·exact h3
  ·rename_i h1
   by_cases e:j=i
   ·subst e;omega
   ·exact pI l i j O'
theorem gH{l:List (List Int)}{i:Nat}{e:List Int}(h:l[i]?=some e):l.getD i []=e:=by rw[xa,h];rfl
def OX(c:List (List Int)×List Int):List (List Int)×List Int:=(HM (LB c.1 c.1.length) c.1,HM (LB c.1 c.1.length) c.2)
theorem Zm{α:Type}{l:List α}{i:Nat}{e:α}(h:l[i]?=some e):l.take i++[e]=l.take (i+1):=by rw[ma,h];rfl
theorem VQ(c:List (List Int)×List Int):AY (.agg (EC c)):=by
 simp only[AY,BK,true_and,and_true];exact⟨L2 (λs=>by simp only[BK,AY,true_and,and_true];exact KX s) c.1,KX c.2⟩
theorem yK(N:s9 L)(dd:List (List Int))(outs:List Int)(q q1 q2:Bool)(h0:0<dd.length)(hl:outs.length=dd.length)(hb:dd.length<=1000000)(hs:∀s∈dd,s.length<=1000000):Ev L 427 [.sl q1 (dd.map (IG q)),.sl q2 (outs.map AZ)] (.agg (EC (OX (dd,outs)))):=by
 refine Ev.x N.MW rfl rfl ?_;repeat' (first|apply AP|apply AE)<;>conv=>whnf
 refine EE (λi _=>dd.length-i) (λ(i m:Nat)=>i<=dd.length/\m=LB dd i) (λi m=>[(12,.int .i64 i),(5,.int .i64 m)]) (λ_ _=>[]) 0 0 ⟨O',rfl⟩ ?_;intro i m ⟨p1,p2⟩ ih;by_cases hi:i<dd.length
 ·have hm:m<dd.length:=by have:=iB dd i;omega
  obtain⟨s,mc⟩:=N' dd i hi;obtain⟨t,po⟩:=N' dd m hm;have hC:=nK N s t q q (by have:=hs s (zM mc);omega) (by have:=hs t (zM po);omega);have hn:LB dd (i+1)=if B6 s t<0 then i else m:=by
   simp only[LB];rw[<-p2,gH mc,gH po]
  repeat' (first|apply AG<;>intro hc<;>try omega|apply AR;omega|refine A5 V' ?_ rfl ?_;omega|apply AE|refine AD (hC) ?_)<;>conv=>whnf
  ·rw[if_pos hc]at hn
   exact BF [] (ih (i+1) i O' ⟨O',hn.symm⟩)
  ·rw[if_neg O']at hn
   exact BF [] (ih (i+1) m O' ⟨O',hn.symm⟩)
 have ei:i=dd.length:=O'
 subst ei;have hm:m<dd.length:=by have:=iB dd dd.length;omega
 rw[OX,<-p2];clear ih p1;have gk:∀i,i<dd.length->∃(s:List Int) (v:Int),dd[(m+i)%dd.length]?=some s/\outs[(m+i)%dd.length]?=some v/\(HM m dd)[i]?=some s/\(HM m outs)[i]?=some v:=λi hi=>by
  have h1:=Hc (m+i) h0;obtain⟨s,hs⟩:=N' dd ((m+i)%dd.length) h1;obtain⟨v,hv⟩:=N' outs ((m+i)%dd.length);exact⟨s,v,hs,hv,(Wy hm hi).trans hs,(Wy O' O').trans (by rw[hl];exact hv)⟩
 have il:(HM m dd).length=dd.length:=Wz O';have Ps:(HM m outs).length=dd.length:=by rw[Wz O',hl]
 have Ay:∀s∈HM m dd,s.length<=1000000:=λs h=>hs s ((UX m dd).mem_iff.1 h)
 generalize HM m dd=R at*;generalize HM m outs=O at*;have Cx:∀i:Nat,(((m:Int)+(i:Int))%(dd.length:Int)).toNat=(m+i)%dd.length:=λi=>by rw[<-Ge,<-Qe,va]
 repeat' (first|apply AG<;>intro hc<;>try omega|apply AP|apply AE)<;>conv=>whnf
 refine I5 ?_;obtain⟨s,v,a1,a2,a3,a4⟩:=gk 0 h0;have me:=Ay s (zM a3);have e3:R.take 1=[s]:=by rw[ma,a3];rfl
 have e4:O.take 1=[v]:=by rw[ma,a4];rfl
 repeat' (first|apply AG<;>intro hc<;>try omega|apply AR;omega|(refine I9 ?_ (λ_ _ _=>?_) (λ_ _ _ _=>?_);omega;all_goals try omega)|apply AP|refine A5 V' ?_ rfl ?_;omega|apply AE)<;>conv=>whnf
 refine XJ (enc:=AZ) (l:=[]) (l':=s) rfl (λ_=>rfl) K' K' ?_;rw[Ib];conv=>whnf
 skip
 refine A4 ⟨by rw[tc],O'⟩ ?_;conv=>whnf
 repeat' (first|refine A5 V' ?_ rfl ?_;omega|apply CT)<;>conv=>whnf
 refine MH (enc:=AZ) v rfl rfl O' ?_;conv=>whnf
 repeat' (first|apply AR;omega|fail)<;>conv=>whnf
 refine EA (λi=>dd.length-i) (λ(i:Nat)=>1<=i/\i<=dd.length) (λi=>[(29,.int .i64 i)]) (λi=>[(7,7,.bx [.row 47 0 1 0 i,.row 56 0 1 0 i]),(47,47,.mx (E2 1 AZ (R.take i))),(56,56,.rw 1 ((O.take i).map AZ))]) [] [] 1 (by rw[e3,e4];exact E') O' ?_;intro i ⟨p1,p2⟩ ih;by_cases hi:i<dd.length
 ·obtain⟨s,v,a1,a2,a3,a4⟩:=gk i hi
  have me:=Ay s (zM a3);have e3:=Zm a3;have e4:=Zm a4;have hlR:(R.take i).length=i:=by rw[Na];omega
  have hlO:(O.take i).length=i:=by rw[Na];omega
  have hrm:=Cx i;repeat' (first|apply AG<;>intro hc<;>try omega|apply AR;omega|(refine I9 ?_ (λ_ _ _=>?_) (λ_ _ _ _=>?_);omega;all_goals try omega)|apply AP|refine A5 V' ?_ rfl ?_;omega|apply AE)<;>conv=>whnf
  refine XJ (enc:=AZ) (l:=[]) (l':=s) rfl (λ_=>rfl) K' K' ?_;rw[Ib];conv=>whnf
  skip
  refine A4 (by rw[tc]) ?_;refine ZM (z:=1) (en:=AZ) (r:=s) O' O' O' ?_;rw[e3];conv=>whnf
  repeat' (first|refine A5 V' ?_ rfl ?_;omega|apply CT)<;>conv=>whnf
  refine DH (enc:=AZ) v rfl O' rfl O' O' ?_;rw[e4,show(O.take (i+1)).length=i+1 by rw[Na];omega,show(R.take (i+1)).length=i+1 by rw[Na];omega];conv=>whnf
  repeat' (first|apply AR;omega|fail)<;>conv=>whnf
  exact BF [(47,1000047),(56,1000056)] (ih (i+1) O' O')
 have ei:i=dd.length:=O'
 rw[ei,zT O',zT O'];clear ih p1 p2 gk;repeat' (first|apply AG<;>intro hc<;>try omega|apply AE)<;>conv=>whnf
 refine VH (λ_=>rfl) rfl il.symm ?_;conv=>whnf
 refine C6 (λ_=>rfl) rfl Ps.symm ?_;conv=>whnf
 exact AW rfl (VQ (R,O))
def JN:List Int->Int->Bool
 |[],_=>false
 |b::r,a=>if 4096<a*(2*b+1)then true else JN r (a*(2*b+1))
def JC(n:Nt)(x:Int)(box:List Int):Int :=
 if DN n then(if(box.length:Int)=n.s then(if box.all (λb=>decide (0<=b))then(if FT n.d x then(if DX n.d box then(if JN box 1 then 5 else 0)else 17)else 17)else 1)else 1)else 2
theorem YG{w:Wd}{v:Int}(h:FT w v):-8388608<=v/\v<=8388607:=by
 obtain⟨h1,h2,h3⟩:=h;obtain⟨g1,g2,g3,g4⟩:=RB h1;omega
theorem mT(I:a8 L)(J:k9 L)(N:s9 L)(n:Nt)(x:Int)(box:List Int)(q:Bool)(hb:box.length<9223372036854775808):Ev L 428 [.agg (B2 n),.int .i64 x,.sl q (box.map AZ)] (.int .i64 (JC n x box)):=by
 refine Ev.x N.K9 rfl rfl ?_;repeat' (first|apply AG<;>intro hc<;>try omega|apply AP|apply AE|refine ZO (fU n I J) (λhf=>?_) (λhf=>?_))<;>conv=>whnf
 ·rw[JC,if_pos hf,if_neg hc]
  exact BP rfl
 ·rw[JC,if_pos hf,if_pos hc]
  refine DG (λi=>box.length-i) (λ(i:Nat)=>i<=box.length/\box.all (λb=>decide (0<=b))=(box.drop i).all λb=>decide (0<=b)) (λi=>[(24,.int .i64 i)]) (λ_=>[]) 0 ⟨O',rfl⟩ ?_;intro i ⟨p1,p2⟩ ih;by_cases hi:i<box.length
  ·obtain⟨b,iv⟩:=N' box i hi
   rw[DC iv,ya]at p2;repeat' (first|apply AG<;>intro hc<;>try omega|apply AR;omega|refine A5 V' ?_ rfl ?_;omega|apply AE)<;>conv=>whnf
   ·rw[decide_eq_false O',ea]at p2
    rw[p2];exact BP rfl
   ·rw[decide_eq_true O',Ma]at p2
    exact BF [] (ih (i+1) O' ⟨O',p2⟩)
  rw[E6 O',ec]at p2;rw[p2,if_pos rfl];have ei:i=box.length:=O'
  subst ei;have h0:∀b∈box,0<=b:=λb h=>of_decide_eq_true (ga.1 p2 b h)
  clear ih p1 p2;repeat' (first|apply AG<;>intro hc<;>try omega|apply AP|apply AE|refine EN (V2 _ I _) (λhf=>?_) (λhf=>?_))<;>conv=>whnf
  ·rw[if_pos hf]
   refine DG (λi=>box.length-i) (λ(i:Nat)=>i<=box.length/\DX n.d box=DX n.d (box.drop i)) (λi=>[(38,.int .i64 i)]) (λ_=>[]) 0 ⟨O',rfl⟩ ?_;intro i ⟨p1,p2⟩ ih;by_cases hi:i<box.length
   ·obtain⟨b,iv⟩:=N' box i hi
    rw[DC iv,DX,DX,ya]at p2;repeat' (first|apply AG<;>intro hc<;>try omega|apply AR;omega|refine A5 V' ?_ rfl ?_;omega|apply AE|refine EN (V2 _ I _) (λhf=>?_) (λhf=>?_))<;>conv=>whnf
    ·rw[decide_eq_true hf,Ma]at p2
     exact BF [] (ih (i+1) O' ⟨O',p2⟩)
    ·rw[decide_eq_false hf,ea]at p2
     rw[show DX n.d box=false from p2];exact BP rfl
   rw[E6 O']at p2;have p2:DX n.d box=true:=p2;rw[if_pos p2];have ei:i=box.length:=O'
   subst ei;have hw:∀b∈box,b<=8388607:=λb h=>(YG (of_decide_eq_true (ga.1 p2 b h))).2
   clear ih p1 p2;repeat' (first|apply AG<;>intro hc<;>try omega|apply AP|apply AE)<;>conv=>whnf
   refine EE (λi _=>box.length-i) (λ(i:Nat)(a:Int)=>i<=box.length/\0<=a/\a<=4096/\JN box 1=JN (box.drop i) a) (λi a=>[(50,.int .i64 i),(11,.int .i64 a)]) (λ_ _=>[]) 0 1 ⟨O',O',O',rfl⟩ ?_;intro i a ⟨p1,p2,p3,p4⟩ ih;by_cases hi:i<box.length
   ·obtain⟨b,iv⟩:=N' box i hi
    have jn:=h0 b (zM iv);have qe:=hw b (zM iv);have Cw:0<=a*(2*b+1):=Ec p2 O';have ix:a*(2*b+1)<=4096*16777215:=Dc p3 O' O' O';rw[DC iv,JN]at p4;repeat' (first|apply AG<;>intro hc<;>try omega|apply AR;omega|apply GH;omega|refine A5 V' ?_ rfl ?_;omega|apply AE)<;>conv=>whnf
    ·rw[if_pos O']at p4
     rw[p4];exact BP rfl
    ·rw[if_neg O']at p4
     exact BB [] E' (ih (i+1) _ O' ⟨O',Cw,O',p4⟩)
   rw[E6 O',JN]at p4;rw[p4];repeat' (first|apply AG<;>intro hc<;>try omega|apply AE)<;>conv=>whnf
   exact BP rfl
  ·rw[if_neg hf]
   exact BP rfl
 ·rw[JC,if_neg (by rw[hf];simp)]
  exact BP rfl
theorem yH(N:s9 L)(x y:List Int)(q1 q2:Bool)(hl:x.length=y.length)(hx:x.length<9223372036854775808):Ev L 429 [.sl q1 (x.map AZ),.sl q2 (y.map AZ)] (.bool (decide (B6 x y<0))):=by
 refine Ev.x N.P8 rfl rfl ?_;(repeat' (apply AE<;>conv=>whnf))
 refine DG (λi=>x.length-i) (λ(i:Nat)=>i<=x.length/\x.take i=y.take i) (λi=>[(5,.int .i64 i)]) (λ_=>[]) 0 ⟨O',rfl⟩ ?_;intro i ⟨p1,p3⟩ ih;have hd:=lL i p3 p1 O';by_cases hi:i<x.length
 ·obtain⟨a,ha⟩:=N' x i hi
  obtain⟨b,hb⟩:=N' y i;rw[DC ha,DC hb,B6]at hd;repeat' (first|apply AG<;>intro hc<;>try omega|apply AR;omega|apply AP|refine A5 V' ?_ rfl ?_;omega|apply AE)<;>conv=>whnf
  ·rename_i h1 h2
   refine QK ?_;rw[hd,if_pos O'];omega
  ·rename_i h1 h2
   refine MJ ?_;rw[hd,if_neg O',if_pos O'];omega
  ·refine BB [] E' (ih (i+1) O' ⟨O',?_⟩)
   rw[ma,ma,p3,ha,hb,hc]
 ·rw[E6 O',E6 O']at hd
  repeat' (first|apply AG<;>intro hc<;>try omega|apply AP|apply AE)<;>conv=>whnf
  refine MJ ?_;rw[hd];simp[B6]
theorem Aiy(N:s9 L)(c d:List (List Int)×List Int)(s t:List Int)(hs:c.1[0]?=some s)(ht:d.1[0]?=some t)(me:s.length<9223372036854775808)(dp:t.length<9223372036854775808) :
  Ev L 435 [.agg (EC c),.agg (EC d)] (.int .i64 (B6 s t)):=by
 obtain⟨cs,co⟩:=c;obtain⟨ds,do'⟩:=d;dsimp only at hs ht;show Ev L 435 [.agg [.sl false (cs.map (IG false)),.sl false (co.map AZ)],.agg [.sl false (ds.map (IG false)),.sl false (do'.map AZ)]] _;refine Ev.x N.S0 rfl rfl ?_;have hC:=nK N s t false false me dp;repeat' (first|refine A5 V' ?_ rfl ?_;omega|apply AE|refine AD (hC) ?_)<;>conv=>whnf
 exact BP rfl
theorem kF{y:u_}{i:Nat}(h:y.length<=i):val (y.take (i+1))=val (y.take i):=by
 rw[DQ h,DQ O']
theorem yU(N:c6 L)(a b:u_)(q1 q2:Bool)(hA:A3 a)(hB:A3 b)(la:a.length<=1099511627775)(lb:b.length<=1099511627775):Ev L 68 [.sl q1 (a.map AJ),.sl q2 (b.map AJ)] (.sl false ((dg (val a+val b)).map AJ)):=by
 have l1:=FN hA;have l2:=FN hB;have d1:=EH (val a);have d2:=EH (val b);have v1:=BQ (val a);have v2:=BQ (val b);refine Ev.x N.OY rfl rfl ?_;repeat' (first|apply AG<;>intro hc<;>try omega|apply AR;omega|apply AP|apply AE|refine MI (NN N a _ hA O') ?_|refine MI (NN N b _ hB O') ?_)<;>conv=>whnf
 ·generalize dg (val a)=y at*
  generalize dg (val b)=x at*;rw[<-v1,<-v2,Qd (val y)];have hlen:y.length<=x.length:=O'
  have Qm:x.length<=1099511627775:=O'
  clear v1 v2 hA hB la lb;refine FJ (enc:=AJ) 0 (x.length+1) rfl O' O' ?_;conv=>whnf
  (repeat' (apply AP<;>conv=>whnf))
  refine F5 (λi _ _=>x.length-i) (λ(i:Nat)(o:u_)(c:Nat)=>i<=x.length/\o.length=x.length+1/\A3 o/\c<=1/\val (o.take i)+4294967296^i*c=val (x.take i)+val (y.take i)) (λi o c=>[(8,.int .u64 (c:Int)),(29,.int .i64 i)]) (λi o c=>[(26,26,.rw 1 (o.map AJ))]) 0 (sa (x.length+1) 0) 0 ⟨O',Z',K2 _,O',by simp[val]⟩ ?_;intro i o c ⟨p1,p2,p3,p4,p5⟩ ih;by_cases hi:i<x.length
  ·repeat' (first|apply AG<;>intro hc<;>try omega|apply A4;omega|apply HW;omega|apply B7;omega|apply G7|apply AP|refine dN V' ?_ (λe he hb=>?_);omega|apply AE)<;>conv=>whnf
   ·rename_i d hd _
    refine GI O' ?_;conv=>whnf
    repeat' (first|apply AR;omega|apply GQ)<;>conv=>whnf
    refine BB [] E' (ih (i+1) _ _ O' ⟨O',by simpa using p2,p3.set _ O',O',?_⟩);have h1:=ER hd;have h2:=ER he;have h3:=QU (val (o.take i)) (4294967296^i) (d+c+e);have h4:=HS (v:=(d+c+e)%4294967296) (show i<o.length by omega);rw[h4,h1,h2,Oa];generalize 4294967296^i=p at*;rw[h3,Pa,Pa];omega
   ·refine GI O' ?_
    (conv=>whnf)
    repeat' (first|apply AR;omega|apply GQ)<;>conv=>whnf
    refine BB [] E' (ih (i+1) _ _ O' ⟨O',by simpa using p2,p3.set _ O',O',?_⟩);have h1:=ER he;have h2:=kF (y:=y) (i:=i) O';have h3:=QU (val (o.take i)) (4294967296^i) (e+c);have h4:=HS (v:=(e+c)%4294967296) (show i<o.length by omega);rw[h4,h1,h2,Oa];generalize 4294967296^i=p at*;rw[h3,Pa];omega
  ·obtain rfl:i=x.length:=O'
   clear ih;repeat' (first|apply AG<;>intro hc<;>try omega|apply A4;omega|apply E3;omega|apply AP|apply AE)<;>conv=>whnf
   refine GI O' ?_;conv=>whnf
   skip
   have hV:val (o.set x.length c)=val x+val y:=by
    have h4:=HS (v:=c) (show x.length<o.length by omega);rw[zT K']at h4;rw[h4,p5,DQ (na _),DQ hlen]
   have hD:A3 (o.set x.length c):=p3.set _ O';have hL:(o.set x.length c).length=x.length+1:=by simpa using p2
   clear p3 p4 p5 p2;generalize o.set x.length c=O at*;rw[<-hL];refine I7 1000 N.HH rfl rfl ?_;(repeat' (apply AE<;>conv=>whnf))
   refine EA (λn=>n) (λ(n:Nat)=>n<=(O).length/\∀i,n<=i->i<(O).length->(O)[i]?=some 0) (λn=>[(3,.int .i64 n)]) (λ_=>[]) [] [] (O).length (by first|exact E'|(simp only[qb,ob];exact E')) ⟨na _,λi h1 h2=>O'⟩ ?_;intro n ⟨p1,p2⟩ ih;rcases n with _|n
   ·repeat' (first|apply AG<;>intro hc<;>try omega|apply AE)<;>conv=>whnf
    refine I6 0 O' O' ?_;conv=>whnf
    refine⟨rfl,_,rfl,?_⟩;conv=>whnf
    have hm:=p1;have fh:=H5 (l:=O) V' p1 p2 (Or.inl rfl);clear ih p1 p2;(refine H3 (enc:=AJ) (λ_=>rfl) O' ?_;(conv=>whnf);exact AW (by rw[<-hV,<-fh];rfl) (by simp only[AY,true_and];exact C8 _))
   ·have e1:((n+1:Nat):Int)-1=n:=O'
    repeat' (first|apply AG<;>intro hc<;>try omega|apply A4;omega|apply BS;omega|refine VD V' ?_ (λv hv hb=>?_);omega|apply AE)<;>conv=>whnf
    ·rw[e1]
     exact BF [] (ih n O' ⟨O',λi h1 h2=>by
      by_cases h:i=n
      ·subst h
       rw[e1,va]at hv;rw[hv];congr 1;omega
      ·exact p2 i O' h2⟩)
    ·refine I6 (n+1) O' O' ?_
     (conv=>whnf)
     refine⟨rfl,_,rfl,?_⟩;conv=>whnf
     rw[e1,va]at hv;have hm:=p1;have fh:=H5 (l:=O) V' p1 p2 (Or.inr ⟨_,hv,O'⟩);clear ih p1 p2 hv;(refine H3 (enc:=AJ) (λ_=>rfl) O' ?_;(conv=>whnf);exact AW (by rw[<-hV,<-fh];rfl) (by simp only[AY,true_and];exact C8 _))
 ·generalize dg (val a)=x at*
  generalize dg (val b)=y at*;rw[<-v1,<-v2];have hlen:y.length<=x.length:=O'
  have Qm:x.length<=1099511627775:=O'
  clear v1 v2 hA hB la lb;refine FJ (enc:=AJ) 0 (x.length+1) rfl O' O' ?_;conv=>whnf
  (repeat' (apply AP<;>conv=>whnf))
  refine F5 (λi _ _=>x.length-i) (λ(i:Nat)(o:u_)(c:Nat)=>i<=x.length/\o.length=x.length+1/\A3 o/\c<=1/\val (o.take i)+4294967296^i*c=val (x.take i)+val (y.take i)) (λi o c=>[(8,.int .u64 (c:Int)),(29,.int .i64 i)]) (λi o c=>[(26,26,.rw 1 (o.map AJ))]) 0 (sa (x.length+1) 0) 0 ⟨O',Z',K2 _,O',by simp[val]⟩ ?_;intro i o c ⟨p1,p2,p3,p4,p5⟩ ih;by_cases hi:i<x.length
  ·repeat' (first|apply AG<;>intro hc<;>try omega|apply A4;omega|apply HW;omega|apply B7;omega|apply G7|apply AP|refine dN V' ?_ (λe he hb=>?_);omega|apply AE)<;>conv=>whnf
   ·rename_i d hd _
    refine GI O' ?_;conv=>whnf
    repeat' (first|apply AR;omega|apply GQ)<;>conv=>whnf
    refine BB [] E' (ih (i+1) _ _ O' ⟨O',by simpa using p2,p3.set _ O',O',?_⟩);have h1:=ER hd;have h2:=ER he;have h3:=QU (val (o.take i)) (4294967296^i) (d+c+e);have h4:=HS (v:=(d+c+e)%4294967296) (show i<o.length by omega);rw[h4,h1,h2,Oa];generalize 4294967296^i=p at*;rw[h3,Pa,Pa];omega
   ·refine GI O' ?_
    (conv=>whnf)
    repeat' (first|apply AR;omega|apply GQ)<;>conv=>whnf
    refine BB [] E' (ih (i+1) _ _ O' ⟨O',by simpa using p2,p3.set _ O',O',?_⟩);have h1:=ER he;have h2:=kF (y:=y) (i:=i) O';have h3:=QU (val (o.take i)) (4294967296^i) (e+c);have h4:=HS (v:=(e+c)%4294967296) (show i<o.length by omega);rw[h4,h1,h2,Oa];generalize 4294967296^i=p at*;rw[h3,Pa];omega
  ·obtain rfl:i=x.length:=O'
   clear ih;repeat' (first|apply AG<;>intro hc<;>try omega|apply A4;omega|apply E3;omega|apply AP|apply AE)<;>conv=>whnf
   refine GI O' ?_;conv=>whnf
   skip
   have hV:val (o.set x.length c)=val x+val y:=by
    have h4:=HS (v:=c) (show x.length<o.length by omega);rw[zT K']at h4;rw[h4,p5,DQ (na _),DQ hlen]
   have hD:A3 (o.set x.length c):=p3.set _ O';have hL:(o.set x.length c).length=x.length+1:=by simpa using p2
   clear p3 p4 p5 p2;generalize o.set x.length c=O at*;rw[<-hL];refine I7 1000 N.HH rfl rfl ?_;(repeat' (apply AE<;>conv=>whnf))
   refine EA (λn=>n) (λ(n:Nat)=>n<=(O).length/\∀i,n<=i->i<(O).length->(O)[i]?=some 0) (λn=>[(3,.int .i64 n)]) (λ_=>[]) [] [] (O).length (by first|exact E'|(simp only[qb,ob];exact E')) ⟨na _,λi h1 h2=>O'⟩ ?_;intro n ⟨p1,p2⟩ ih;rcases n with _|n
   ·repeat' (first|apply AG<;>intro hc<;>try omega|apply AE)<;>conv=>whnf
    refine I6 0 O' O' ?_;conv=>whnf
    refine⟨rfl,_,rfl,?_⟩;conv=>whnf
    have hm:=p1;have fh:=H5 (l:=O) V' p1 p2 (Or.inl rfl);clear ih p1 p2;(refine H3 (enc:=AJ) (λ_=>rfl) O' ?_;(conv=>whnf);exact AW (by rw[<-hV,<-fh];rfl) (by simp only[AY,true_and];exact C8 _))
   ·have e1:((n+1:Nat):Int)-1=n:=O'
    repeat' (first|apply AG<;>intro hc<;>try omega|apply A4;omega|apply BS;omega|refine VD V' ?_ (λv hv hb=>?_);omega|apply AE)<;>conv=>whnf
    ·rw[e1]
     exact BF [] (ih n O' ⟨O',λi h1 h2=>by
      by_cases h:i=n
      ·subst h
       rw[e1,va]at hv;rw[hv];congr 1;omega
      ·exact p2 i O' h2⟩)
    ·refine I6 (n+1) O' O' ?_
     (conv=>whnf)
     refine⟨rfl,_,rfl,?_⟩;conv=>whnf
     rw[e1,va]at hv;have hm:=p1;have fh:=H5 (l:=O) V' p1 p2 (Or.inr ⟨_,hv,O'⟩);clear ih p1 p2 hv;(refine H3 (enc:=AJ) (λ_=>rfl) O' ?_;(conv=>whnf);exact AW (by rw[<-hV,<-fh];rfl) (by simp only[AY,true_and];exact C8 _))
theorem AgK{a b:Int}(h:DL a b<=0):a<=b:=by
 unfold DL at h;split at h
 ·omega
 ·split at h<;>omega
theorem AgL{a b:Int}(h:0<DL a b):b<a:=by
 unfold DL at h;split at h
 ·omega
 ·split at h<;>omega
theorem mV(N:c6 L)(a b:u_)(q1 q2:Bool)(hA:A3 a)(hB:A3 b)(la:a.length<=1099511627776)(lb:b.length<=1099511627776):Ev L 69 [.sl q1 (a.map AJ),.sl q2 (b.map AJ)] (.sl false ((dg (val a-val b)).map AJ)):=by
 have l1:=FN hA;have l2:=FN hB;have d1:=EH (val a);have d2:=EH (val b);have v1:=BQ (val a);have v2:=BQ (val b);refine Ev.x N.O0 rfl rfl ?_;repeat' (first|apply AG<;>intro hc<;>try omega|apply AP|apply AE|refine AD (Q2 N a b _ _ hA hB la lb) ?_|refine MI (NN N a _ hA la) ?_|refine MI (NN N b _ hB lb) ?_)<;>conv=>whnf
 ·have:=AgK hc
  refine AW ?_ (by simp only[AY,true_and];exact C8 _);rw[show val a-val b=0 by omega,FX];rfl
 ·have k7:=AgL hc
  have ub:(dg (val b)).length<=(dg (val a)).length:=by
   rcases wc (dg (val a)).length (dg (val b)).length with h|h
   ·have:=ZK h;omega
   ·exact h
  have pd:val b<val a:=O'
  clear k7 hc;generalize dg (val a)=x at*;generalize dg (val b)=y at*;rw[<-v1,<-v2]at pd⊢;clear v1 v2 hA hB lb;refine FJ (enc:=AJ) 0 x.length rfl rfl O' ?_;conv=>whnf
  (repeat' (apply AP<;>conv=>whnf))
  refine F5 (λi _ _=>x.length-i) (λ(i:Nat)(o:u_)(c:Nat)=>i<=x.length/\o.length=x.length/\A3 o/\c<=1/\val (o.take i)+val (y.take i)=val (x.take i)+4294967296^i*c) (λi o c=>[(8,.int .u64 (c:Int)),(25,.int .i64 i)]) (λi o c=>[(22,22,.rw 1 (o.map AJ))]) 0 (sa x.length 0) 0 ⟨O',Z',K2 _,O',by simp[val]⟩ ?_;intro i o c ⟨p1,p2,p3,p4,p5⟩ ih;by_cases hi:i<x.length
  ·repeat' (first|apply AG<;>intro hc<;>try omega|apply A4;omega|apply dM;omega|apply B7;omega|apply G7|apply AP|refine dN V' ?_ (λe he hb=>?_);omega|apply AE)<;>conv=>whnf
   ·rename_i d hd bn
    obtain⟨s1,s2⟩:=AnM bn hb p4;refine GI O' ?_;conv=>whnf
    repeat' (first|apply AR;omega|apply dL)<;>conv=>whnf
    generalize FF (FF d c) e=t at*;refine BB [] E' (ih (i+1) _ _ O' ⟨O',by simpa using p2,p3.set _ O',s2,?_⟩);rw[HS O',ER hd,ER he,Oa];exact Adz p5 s1
   ·obtain⟨s1,s2⟩:=AnL hb p4
    refine GI O' ?_;conv=>whnf
    repeat' (first|apply AR;omega|apply dL)<;>conv=>whnf
    generalize FF e c=t at*;refine BB [] E' (ih (i+1) _ _ O' ⟨O',by simpa using p2,p3.set _ O',s2,?_⟩);rw[HS O',ER he,kF O',Oa];rw[<-Ga (t%4294967296)]at s1;have:=Adz (e:=0) p5 s1
    rw[Ha,Ga]at this;exact this
  ·obtain rfl:i=x.length:=O'
   clear ih;have fb:c=0:=by
    rw[DQ O',DQ ub,DQ (na _)]at p5;have:=F2 p3
    rw[p2]at this;rcases db c with h|h
    ·exact h
    ·have:c=1:=O'
     subst this;omega
   subst fb;have hV:val o=val x-val y:=by
    rw[DQ O',DQ ub,DQ (na _)]at p5;omega
   clear p5 p4;rw[<-p2];repeat' (first|apply AG<;>intro hc<;>try omega|apply AE)<;>conv=>whnf
   refine I7 1000 N.HH rfl rfl ?_;(repeat' (apply AE<;>conv=>whnf))
   refine EA (λn=>n) (λ(n:Nat)=>n<=(o).length/\∀i,n<=i->i<(o).length->(o)[i]?=some 0) (λn=>[(3,.int .i64 n)]) (λ_=>[]) [] [] (o).length (by first|exact E'|(simp only[qb,ob];exact E')) ⟨na _,λi h1 h2=>O'⟩ ?_;intro n ⟨p1,p2⟩ ih;rcases n with _|n
   ·repeat' (first|apply AG<;>intro hc<;>try omega|apply AE)<;>conv=>whnf
    refine I6 0 O' O' ?_;conv=>whnf
    refine⟨rfl,_,rfl,?_⟩;conv=>whnf
    have hm:=p1;have fh:=H5 (l:=o) V' p1 p2 (Or.inl rfl);clear ih p1 p2;(refine H3 (enc:=AJ) (λ_=>rfl) O' ?_;(conv=>whnf);exact AW (by rw[<-hV,<-fh];rfl) (by simp only[AY,true_and];exact C8 _))
   ·have e1:((n+1:Nat):Int)-1=n:=O'
    repeat' (first|apply AG<;>intro hc<;>try omega|apply A4;omega|apply BS;omega|refine VD V' ?_ (λv hv hb=>?_);omega|apply AE)<;>conv=>whnf
    ·rw[e1]
     exact BF [] (ih n O' ⟨O',λi h1 h2=>by
      by_cases h:i=n
      ·subst h
       rw[e1,va]at hv;rw[hv];congr 1;omega
      ·exact p2 i O' h2⟩)
    ·refine I6 (n+1) O' O' ?_
     (conv=>whnf)
     refine⟨rfl,_,rfl,?_⟩;conv=>whnf
     rw[e1,va]at hv;have hm:=p1;have fh:=H5 (l:=o) V' p1 p2 (Or.inr ⟨_,hv,O'⟩);clear ih p1 p2 hv;(refine H3 (enc:=AJ) (λ_=>rfl) O' ?_;(conv=>whnf);exact AW (by rw[<-hV,<-fh];rfl) (by simp only[AY,true_and];exact C8 _))
theorem mU(N:c6 L)(a b:u_)(q1 q2:Bool)(hA:A3 a)(hB:A3 b)(lab:a.length+b.length<=1099511627776):Ev L 70 [.sl q1 (a.map AJ),.sl q2 (b.map AJ)] (.sl false ((dg (val a*val b)).map AJ)):=by
 have l1:=FN hA;have l2:=FN hB;have d1:=EH (val a);have d2:=EH (val b);have v1:=BQ (val a);have v2:=BQ (val b);refine Ev.x N.M4 rfl rfl ?_;have hz:∀p:Prop,((dg (val a)).length:Int)=0\/((dg (val b)).length:Int)=0->AH (.sl false []) (.sl false ((dg (val a*val b)).map AJ)):=λ_ h=>by
  have:val a*val b=0:=by
   rcases h with h|h
   ·have:dg (val a)=[]:=Qc O'
    rw[lX.1 this,Nat.zero_mul]
   ·have:dg (val b)=[]:=Qc O'
    rw[lX.1 this,Ha]
  exact AW (by rw[this,FX];rfl) (by simp only[AY,true_and];exact C8 _)
 repeat' (first|apply AG<;>intro hc<;>try omega|apply AR;omega|apply AP|apply AE|refine MI (NN N a _ hA O') ?_|refine MI (NN N b _ hB O') ?_)<;>conv=>whnf
 ·exact hz True (Or.inl hc)
 ·exact hz True (Or.inr hc)
 ·clear hz
  generalize dg (val a)=x at*;generalize dg (val b)=y at*;rw[<-v1,<-v2];have vf:x.length+y.length<=1099511627776:=O'
  clear v1 v2 hA hB lab l1 l2;refine FJ (enc:=AJ) 0 (x.length+y.length) rfl O' O' ?_;conv=>whnf
  (repeat' (apply AP<;>conv=>whnf))
  refine EE (λi _=>x.length-i) (λ(i:Nat)(o:u_)=>i<=x.length/\o.length=x.length+y.length/\A3 o/\val o=val (x.take i)*val y/\∀k,i+y.length<=k->k<o.length->o[k]?=some 0) (λi o=>[(34,.int .i64 i)]) (λi o=>[(31,31,.rw 1 (o.map AJ))]) 0 (sa (x.length+y.length) 0) ⟨O',Z',K2 _,by simp[val,kH],λk h1 h2=>by simp at h2;simp[h2]⟩ ?_;intro i O ⟨p1,p2,p3,p4,p5⟩ ih;by_cases hi:i<x.length
  ·obtain⟨d,hd⟩:=N' x i hi
   have bn:=d1.at hd;repeat' (first|apply AG<;>intro hc<;>try omega|apply AR;omega|apply AP|refine A5 V' ?_ rfl ?_;omega|apply AE)<;>conv=>whnf
   ·refine BB [] E' (ih (i+1) O O' ⟨O',p2,p3,?_,λk h1 h2=>p5 k O' h2⟩)
    rw[ER hd,p4,show d=0 by omega,Ha,Ga]
   ·refine F5 (λj _ _=>y.length-j) (λ(j:Nat)(o:u_)(c:Nat)=>j<=y.length/\o.length=x.length+y.length/\A3 o/\c<4294967296/\val o+4294967296^(i+j)*c=val O+4294967296^i*(d*val (y.take j))/\∀k,i+j<=k->o[k]?=O[k]?) (λj o c=>[(10,.int .u64 (c:Int)),(43,.int .i64 j)]) (λj o c=>[(31,31,.rw 1 (o.map AJ))]) 0 O 0 ⟨O',p2,p3,O',by simp[val],λ_ _=>rfl⟩ ?_
    intro j o c ⟨r1,r2,r3,r4,r5,r6⟩ jh;have e1:((i:Int)+j).toNat=i+j:=O'
    by_cases hj:j<y.length
    ·obtain⟨w,hw⟩:=N' y j hj
     have uf:=d2.at hw;have hm:=YU bn uf;repeat' (first|apply AG<;>intro hc<;>try omega|apply A4;omega|apply AR;omega|apply HW;omega|apply QM;omega|apply B7;omega|apply G7|refine A5 V' ?_ rfl ?_;omega|refine tX V' ?_ (λv hv hb=>?_);omega|apply AE)<;>conv=>whnf
     refine dR (i+j) O' O' ?_;conv=>whnf
     repeat' (first|apply AR;omega|apply GQ)<;>conv=>whnf
     refine BB [] E' (jh (j+1) _ _ O' ⟨O',by simpa using r2,r3.set _ O',O',?_,?_⟩)
     ·have h1:=kE (v:=(d*w+v+c)%4294967296) hv
      have h2:=QU 0 (4294967296^(i+j)) (d*w+v+c);rw[ER hw,show i+(j+1)=i+j+1 by omega,Oa (4294967296) (i+j)];have h3:4294967296^i*(d*(val (y.take j)+4294967296^j*w))=4294967296^i*(d*val (y.take j))+4294967296^(i+j)*(d*w):=by rw[Fa];grind
      rw[h3];generalize 4294967296^(i+j)=P at*;rw[Pa P,Pa P]at h2;omega
     ·intro k hk
      rw[Jb O'];exact r6 k O'
    ·obtain rfl:j=y.length:=O'
     clear jh;repeat' (first|apply AG<;>intro hc<;>try omega|apply A4;omega|apply AR;omega|apply E3;omega|apply AP|apply AE)<;>conv=>whnf
     have hz:=r6 (i+y.length) O';rw[p5 (i+y.length) O' O']at hz;refine dR (i+y.length) O' O' ?_;conv=>whnf
     repeat' (first|apply AR;omega|fail)<;>conv=>whnf
     refine BB [] E' (ih (i+1) _ O' ⟨O',by simpa using r2,r3.set _ O',?_,?_⟩)
     ·have h1:=kE (v:=c) hz
      rw[Ha,Ga]at h1;rw[h1,r5,p4,DQ (na _),ER hd,Oc,Ia]
     ·intro k h1 h2
      rw[qb]at h2;rw[Jb O',r6 k O'];exact p5 k O' O'
  ·obtain rfl:i=x.length:=O'
   clear ih;rw[DQ (na _)]at p4;rw[<-p4,<-p2];repeat' (first|apply AG<;>intro hc<;>try omega|apply AE)<;>conv=>whnf
   clear p5;refine I7 1000 N.HH rfl rfl ?_;(repeat' (apply AE<;>conv=>whnf))
   refine EA (λn=>n) (λ(n:Nat)=>n<=(O).length/\∀i,n<=i->i<(O).length->(O)[i]?=some 0) (λn=>[(3,.int .i64 n)]) (λ_=>[]) [] [] (O).length (by first|exact E'|(simp only[qb,ob];exact E')) ⟨na _,λi h1 h2=>O'⟩ ?_;intro n ⟨p1,p2⟩ ih;rcases n with _|n
   ·repeat' (first|apply AG<;>intro hc<;>try omega|apply AE)<;>conv=>whnf
    refine I6 0 O' O' ?_;conv=>whnf
    refine⟨rfl,_,rfl,?_⟩;conv=>whnf
    have hm:=p1;have fh:=H5 (l:=O) V' p1 p2 (Or.inl rfl);clear ih p1 p2;(refine H3 (enc:=AJ) (λ_=>rfl) O' ?_;(conv=>whnf);exact AW (by rw[<-fh];rfl) (by simp only[AY,true_and];exact C8 _))
   ·have e1:((n+1:Nat):Int)-1=n:=O'
    repeat' (first|apply AG<;>intro hc<;>try omega|apply A4;omega|apply BS;omega|refine VD V' ?_ (λv hv hb=>?_);omega|apply AE)<;>conv=>whnf
    ·rw[e1]
     exact BF [] (ih n O' ⟨O',λi h1 h2=>by
      by_cases h:i=n
      ·subst h
       rw[e1,va]at hv;rw[hv];congr 1;omega
      ·exact p2 i O' h2⟩)
    ·refine I6 (n+1) O' O' ?_
     (conv=>whnf)
     refine⟨rfl,_,rfl,?_⟩;conv=>whnf
     rw[e1,va]at hv;have hm:=p1;have fh:=H5 (l:=O) V' p1 p2 (Or.inr ⟨_,hv,O'⟩);clear ih p1 p2 hv;(refine H3 (enc:=AJ) (λ_=>rfl) O' ?_;(conv=>whnf);exact AW (by rw[<-fh];rfl) (by simp only[AY,true_and];exact C8 _))
end Go.e9

namespace Go.e9
open F
section
variable {K:AV->Prop} {a b s:Nat} {k':IntKind}
theorem uC(hs:s<=32)(hk:K (.int .u32 ((RK a s:Nat):Int))):AC .shl .u32 (a:Int) k' (s:Int) K:=by
 refine dK (show s<=IntKind.u32.bits from hs) ?_;rw[wrap_u32,<-rR];exact hk
theorem QP(hs:s<=64)(h:a*2^s<=18446744073709551615)(hk:K (.int .u64 ((a*2^s:Nat):Int))):AC .shl .u64 (a:Int) k' (s:Int) K:=by
 refine dK (show s<=IntKind.u64.bits from hs) ?_;rw[IntWalk.u64_in _ O'];exact hk
theorem kP(n:Nat)(hx:a%2^n=0)(hy:b<2^n)(h:a+b<=4294967295)(hk:K (.int .u32 ((a+b:Nat):Int))):AC .or .u32 (a:Int) .u32 (b:Int) K :=
 kO n hx hy (show a+b<4294967296 by omega) (IntWalk.u32_in _ O') hk
theorem Afc(n:Nat)(hx:b%2^n=0)(hy:a<2^n)(h:a+b<=4294967295)(hk:K (.int .u32 ((a+b:Nat):Int))):AC .or .u32 (a:Int) .u32 (b:Int) K:=by
 have e:DM .or .u32 (a:Int) .u32 (b:Int)=DM .or .u32 (b:Int) .u32 (a:Int):=by
  simp only[DM,if_true,je]
 rw[Qd]at hk h;obtain⟨v,h1,h2⟩:=kP (K:=K) n hx hy h hk;exact⟨v,by rw[e];exact h1,h2⟩
theorem Aff(hs:s<=32)(hk:K (.int .u32 ((a/2^s:Nat):Int))):AC .shr .u32 (a:Int) k' (s:Int) K:=QO (show s<=IntKind.u32.bits from hs) hk
end
attribute [local irreducible] AA AF AX AC B4 AU A7 A8 BV BI B0 DS BG A1 BU CB AB A2 AH pw CG B3 CR DK C2 CO CJ BL CY C3 C4 CX C7
variable {L:Lib}
def kN(a:u_)(s:Nat)(o:u_):Prop:=A3 o/\(a.length<=o.length/\o.length<=a.length+1)/\(val a*2^s<4294967296^o.length->val o=val a*2^s)
theorem Alq{a o:u_}{s lo:Nat}(hD:A3 o)(hl:o.length=a.length)(h:val (o.take a.length)+4294967296^a.length*lo=val (a.take a.length)*2^s):kN a s o:=by
 refine⟨hD,O',λk7=>?_⟩;rw[DQ O',DQ (na _)]at h;rw[hl]at k7;have:lo=0:=by
  rcases db lo with h0|h0
  ·exact h0
  ·have:4294967296^a.length*1<=4294967296^a.length*lo:=ja _ h0
   omega
 subst this;omega
theorem Wg{a o:u_}{s lo:Nat}(hD:A3 o)(x6:lo<4294967296)(hl:o.length=a.length+1)(h:val (o.take a.length)+4294967296^a.length*lo=val (a.take a.length)*2^s):kN a s (o.set a.length lo):=by
 refine⟨hD.set _ x6,by simp;omega,λ_=>?_⟩;have h1:=HS (v:=lo) (show a.length<o.length by omega);rw[DQ K',h,DQ (na _)]at h1;exact h1
theorem Ai0(N:c6 L)(a:u_)(q:Bool)(s n:Nat)(hA:A3 a)(hs:s<=31)(hn:a.length<=n/\n<=a.length+1)(la:a.length<=1099511627776):∃r,Ev L 71 [.sl q (a.map AJ),.int .u64 (s:Int),.int .i64 (n:Int)] r/\∃o,kN a s o/\o.length=n/\r = .sl false (o.map AJ):=by
 refine Ev.xE N.M7 rfl rfl ?_;(repeat' (apply AE<;>conv=>whnf))
 refine FJ (enc:=AJ) 0 n rfl rfl O' ?_;conv=>whnf
 (repeat' (apply AP<;>conv=>whnf))
 refine F5 (λi _ _=>a.length-i) (λ(i:Nat)(o:u_)(lo:Nat)=>i<=a.length/\o.length=n/\A3 o/\lo<2^s/\val (o.take i)+4294967296^i*lo=val (a.take i)*2^s) (λi o lo=>[(8,.int .u32 (lo:Int)),(15,.int .i64 i)]) (λi o lo=>[(71012,71012,.rw 1 (o.map AJ))]) 0 (sa n 0) 0 ⟨O',Z',K2 _,sc s,by simp[val]⟩ ?_;intro i o lo ⟨p1,p2,p3,p4,p5⟩ ih;have qg:=bT (s:=s) O';by_cases hi:i<a.length
 ·obtain⟨d,hd⟩:=N' a i hi
  have bn:=hA.at hd;obtain⟨f1,f2,f3,f4⟩:=WY (s:=s) bn O';repeat' (first|apply AG<;>intro hc<;>try omega|refine A5 V' ?_ rfl ?_;omega|apply AE)<;>conv=>whnf
  refine uC O' ?_;conv=>whnf
  skip
  refine kP s f1 p4 O' ?_;conv=>whnf
  repeat' (first|apply A4;omega|fail)<;>conv=>whnf
  refine GI O' ?_;conv=>whnf
  repeat' (first|apply B7;omega|fail)<;>conv=>whnf
  refine QP O' f4 ?_;conv=>whnf
  repeat' (first|apply AR;omega|apply GQ|apply E3;omega)<;>conv=>whnf
  rw[<-WX];refine BB [] E' (ih (i+1) _ _ O' ⟨O',by simpa using p2,p3.set _ O',f2,?_⟩);rw[HS O',ER hd,Oa];exact Wi p5
 ·obtain rfl:i=a.length:=O'
  clear ih;repeat' (first|apply AG<;>intro hc<;>try omega|apply A4;omega|apply AP|apply AE)<;>conv=>whnf
  ·refine GI O' ?_
   (conv=>whnf)
   skip
   refine⟨_,?_,_,Wg p3 O' O' p5,by simpa using p2,rfl⟩;conv=>whnf
   refine C6 (enc:=AJ) (λ_=>rfl) rfl (by simp[p2]) ?_;conv=>whnf
   exact AW rfl (by simp only[AY,true_and];exact C8 _)
  ·refine⟨_,?_,_,Alq p3 O' p5,p2,rfl⟩
   (conv=>whnf)
   refine C6 (enc:=AJ) (λ_=>rfl) rfl (by simp[p2]) ?_;conv=>whnf
   exact AW rfl (by simp only[AY,true_and];exact C8 _)
theorem Ai1(N:c6 L)(a:u_)(q:Bool)(s:Nat)(hA:A3 a)(hs:s<=31)(la:a.length<=1099511627776):∃r,Ev L 72 [.sl q (a.map AJ),.int .u64 (s:Int)] r/\∃o,A3 o/\o.length=a.length/\val o=val a/2^s/\r = .sl false (o.map AJ):=by
 refine Ev.xE N.O3 rfl rfl ?_;repeat' (first|apply AP|apply AE)<;>conv=>whnf
 refine FJ (enc:=AJ) 0 a.length rfl rfl O' ?_;conv=>whnf
 repeat' (first|apply BS;omega|apply AP)<;>conv=>whnf
 refine F5 (λn _ _=>n) (λ(n:Nat)(o:u_)(hi:Nat)=>n<=a.length/\o.length=a.length/\A3 o/\hi=val (a.drop n)%2^s*2^(32-s)/\val (o.drop n)=val (a.drop n)/2^s) (λn o hi=>[(6,.int .u32 (hi:Int)),(7,.int .i64 ((n:Int)-1))]) (λn o hi=>[(10,10,.rw 1 (o.map AJ))]) a.length (sa a.length 0) 0 ⟨O',Z',K2 _,by rw[ua (na _)];simp[val],by rw[ua (na _),ua Z'];simp[val]⟩ ?_;intro n o hi ⟨p1,p2,p3,p4,p5⟩ ih;rcases n with _|n
 ·repeat' (first|apply AG<;>intro hc<;>try omega|apply AE)<;>conv=>whnf
  rw[vb,vb]at p5;refine⟨_,?_,_,p3,p2,p5,rfl⟩;conv=>whnf
  refine C6 (enc:=AJ) (λ_=>rfl) rfl p2.symm ?_;conv=>whnf
  exact AW rfl (by simp only[AY,true_and];exact C8 _)
 ·have e1:((n+1:Nat):Int)-1=n:=O'
  rw[e1];obtain⟨d,hd⟩:=N' a n;have bn:=hA.at hd;obtain⟨f1,f2,f3⟩:=Uj (V:=val (a.drop (n+1))) bn (show s<=32 by omega);obtain⟨g1,g2,g3,g4⟩:=WY bn (show 32-s<=32 by omega);rw[<-p4]at f2 f3;repeat' (first|apply AG<;>intro hc<;>try omega|refine A5 V' ?_ rfl ?_;omega|apply AE)<;>conv=>whnf
  refine Aff O' ?_;conv=>whnf
  skip
  refine Afc (32-s) f2 f1 O' ?_;conv=>whnf
  repeat' (first|apply A4;omega|fail)<;>conv=>whnf
  refine GI O' ?_;conv=>whnf
  repeat' (first|apply dM;omega|apply B7;omega|refine A5 V' ?_ rfl ?_;omega)<;>conv=>whnf
  rw[show FF 32 s=32-s by rw[XB];omega];refine QP O' g4 ?_;conv=>whnf
  repeat' (first|apply BS;omega|apply G7)<;>conv=>whnf
  rw[Aly O'];refine BB [] E' (ih n _ _ O' ⟨O',by simpa using p2,p3.set _ O',?_,?_⟩)
  ·rw[I4 hd,Uk O']
  ·rw[I4 (l:=o.set n (d/2^s+hi)) (d:=d/2^s+hi) (by rw[List.getElem?_set_self O']),ze O',p5,I4 hd,pC O',<-p4]
theorem gV:∀n<256,(sa 1 0++sa 1 1++sa 2 2++sa 4 3++sa 8 4++sa 16 5++sa 32 6++sa 64 7++sa 128 8)[n]?=some (w4 n):=by decide +kernel
theorem AiA(N:c6 L)(x:Nat)(hx:x<4294967296):Ev L 63 [.int .u32 (x:Int)] (.int .i64 (w4 x:Int)):=by
 have lf:∀y<256,w4 y<=8:=λy h=>dV (k:=8) h
 refine Ev.x N.S2 rfl rfl ?_;repeat' (first|apply AG<;>intro hc<;>try omega|apply AR;omega|apply Ae9|apply Afb|apply AeV;omega|apply AE)<;>conv=>whnf
 ·have Ns:=lf (x/65536/256) O'
  refine dS (gV _ O') ?_;conv=>whnf
  repeat' (first|apply AR;omega|apply RS;omega)<;>conv=>whnf
  have h1:w4 (x/65536)+16=w4 x:=Z3 16 (x:=x) O';have h2:w4 (x/65536/256)+8=w4 (x/65536):=Z3 8 (x:=x/65536) O';refine BP ?_;rw[<-h1,<-h2];omega
 ·have Ns:=lf (x/65536) O'
  refine dS (gV _ O') ?_;conv=>whnf
  repeat' (first|apply AR;omega|apply RS;omega)<;>conv=>whnf
  have h1:w4 (x/65536)+16=w4 x:=Z3 16 (x:=x) O';refine BP ?_;rw[<-h1];omega
 ·have Ns:=lf (x/256) O'
  refine dS (gV _ O') ?_;conv=>whnf
  repeat' (first|apply AR;omega|apply RS;omega)<;>conv=>whnf
  have h2:w4 (x/256)+8=w4 x:=Z3 8 (x:=x) O';refine BP ?_;rw[<-h2];omega
 ·have Ns:=lf (x) O'
  refine dS (gV _ O') ?_;conv=>whnf
  repeat' (first|apply AR;omega|apply RS;omega)<;>conv=>whnf
  refine BP ?_;omega
theorem yG(N:c6 L)(x:Nat)(hx:x<4294967296):Ev L 64 [.int .u32 (x:Int)] (.int .i64 ((32-w4 x:Nat):Int)):=by
 have h:=dV (k:=32) hx;refine Ev.x N.S1 rfl rfl ?_;repeat' (first|apply BS;omega|apply AE|refine AD (AiA N x hx) ?_)<;>conv=>whnf
 refine BP ?_;omega
end Go.e9

namespace Go.e9
open F
attribute [local irreducible] AA AF AX AC B4 AU A7 A8 BV BI B0 DS BG A1 BU CB AB A2 AH pw CG B3 CR DK C2 CO CJ BL CY C3 C4 CX C7
variable {L:Lib}
theorem L1(l:u_):AY (.sl false (l.map AJ)):=by
 simp only[AY,true_and];exact C8 l
theorem uS{M:Mem}{v:AV}{ky t z off len s:Nat}{l:u_}(hv:v = .row ky t z off len)(h:e8 M ky=some (s,.rw 1 (l.map AJ))):VM M v=none:=by
 subst hv;unfold VM;split
 ·rename_i e
  simp only[AV.row.injEq]at e;obtain⟨rfl,_⟩:=e;rw[h];cases l with
  |nil=>rfl
  |cons a l=>cases l<;>rfl
 ·rfl
theorem HY(N:b7 L)(l:u_)(q:Bool)(hD:A3 l)(hl:l.length<=1099511627776):Ev L 101 [.sl q (l.map AJ)] (.sl false ((dg (val l)).map AJ)):=by
 refine Ev.x N.JZ rfl rfl ?_;repeat' (first|apply AP|apply AE)<;>conv=>whnf
 refine DG (λn=>n) (λ(n:Nat)=>n<=l.length/\∀i,n<=i->i<l.length->l[i]?=some 0) (λn=>[(3,.int .i64 n)]) (λ_=>[]) l.length ⟨na _,λi h1 h2=>O'⟩ ?_;intro n ⟨p1,p2⟩ ih;rcases n with _|n
 ·have hv:=H5 hD p1 p2 (Or.inl rfl)
  rw[<-hv];clear ih;repeat' (first|apply AG<;>intro hc<;>try omega|apply AE)<;>conv=>whnf
  refine QS (k:=0) (λ_=>rfl) O' ?_;conv=>whnf
  refine RQ (enc:=AJ) (λ_=>rfl) J' J' ?_;conv=>whnf
  (repeat' ((refine C6 (λ_=>rfl) rfl ?_ ?_;(first|rfl|simp))<;>conv=>whnf))
  exact AW rfl (L1 _)
 ·have e1:((n+1:Nat):Int)-1=n:=O'
  repeat' (first|apply AG<;>intro hc<;>try omega|apply BS;omega|refine RW V' ?_ (λe he hb=>?_);omega|apply AE)<;>conv=>whnf
  ·rw[e1]
   exact BF [] (ih n O' ⟨O',λi h1 h2=>by
    by_cases h:i=n
    ·subst h
     rw[e1,va]at he;rw[he];congr 1;omega
    ·exact p2 i O' h2⟩)
  ·rw[e1,va]at he
   have hv:=H5 hD p1 p2 (Or.inr ⟨e,he,O'⟩);rw[<-hv];clear ih;refine QS (k:=n+1) (λ_=>rfl) O' ?_;conv=>whnf
   refine RQ (enc:=AJ) (λ_=>rfl) J' J' ?_;conv=>whnf
   (repeat' ((refine C6 (λ_=>rfl) rfl ?_ ?_;(first|rfl|simp))<;>conv=>whnf))
   exact AW rfl (L1 _)
theorem nA(N:b7 L)(a b:u_)(q1 q2:Bool)(hA:A3 a)(hB:A3 b)(la:a.length<=1099511627776)(lb:b.length<=1099511627776):Ev L 102 [.sl q1 (a.map AJ),.sl q2 (b.map AJ)] (.int .i64 (DL (val a) (val b))):=by
 have t1:=λq=>HY N a q hA la
 have t2:=λq=>HY N b q hB lb
 have l1:=FN hA;have l2:=FN hB;have d1:=EH (val a);have d2:=EH (val b);refine Ev.x N.PO rfl rfl ?_;by_cases hlen:(dg (val a)).length=(dg (val b)).length
 ·have v1:=BQ (val a)
  have v2:=BQ (val b);generalize dg (val a)=X at*;generalize dg (val b)=Y at*;repeat' (first|apply AG<;>intro hc<;>try omega|apply BS;omega|apply AP|apply AE|refine AD (t1 _) ?_|refine AD (t2 _) ?_)<;>conv=>whnf
  refine DG (λn=>n) (λ(n:Nat)=>n<=X.length/\X.drop n=Y.drop n) (λn=>[(5,.int .i64 ((n:Int)-1))]) (λ_=>[]) X.length ⟨na _,by rw[ua (na _),ua O']⟩ ?_;intro n ⟨p1,p2⟩ ih;rcases n with _|n
  ·repeat' (first|apply AG<;>intro hc<;>try omega|apply AE)<;>conv=>whnf
   rw[vb,vb]at p2;exact BP (VT (by rw[<-v1,<-v2,p2]))
  ·have e1:((n+1:Nat):Int)-1=n:=O'
   rw[e1];obtain⟨x,hx⟩:=N' X n;obtain⟨y,hy⟩:=N' Y n;rcases Mb x y with h|h|h
   ·have:=kD d1 d2 hlen hx hy p2 h
    repeat' (first|apply AG<;>intro hc<;>try omega|refine A5 V' ?_ rfl ?_;omega|apply AE)<;>conv=>whnf
    exact BP (KB O')
   ·subst h
    repeat' (first|apply AG<;>intro hc<;>try omega|apply BS;omega|refine A5 V' ?_ rfl ?_;omega|apply AE)<;>conv=>whnf
    refine BB [] E' (ih n O' ⟨O',?_⟩);obtain⟨i1,e1⟩:=zS hx;obtain⟨i2,e2⟩:=zS hy;rw[Ba i1,Ba i2,p2,e1,e2]
   ·have:=kD d2 d1 hlen.symm hy hx p2.symm h
    repeat' (first|apply AG<;>intro hc<;>try omega|refine A5 V' ?_ rfl ?_;omega|apply AE)<;>conv=>whnf
    exact BP (OP O')
 ·rcases Mb (dg (val a)).length (dg (val b)).length with h1|h1|h1
  ·have:=ZK h1
   repeat' (first|apply AG<;>intro hc<;>try omega|apply AP|apply AE|refine AD (t1 _) ?_|refine AD (t2 _) ?_)<;>conv=>whnf
   exact BP (KB O')
  ·exact absurd h1 hlen
  ·have:=ZK h1
   repeat' (first|apply AG<;>intro hc<;>try omega|apply AP|apply AE|refine AD (t1 _) ?_|refine AD (t2 _) ?_)<;>conv=>whnf
   exact BP (OP O')
theorem sY{y:u_}(i:Nat):val (y.take (i+1))=val (y.take i)+4294967296^i*y.getD i 0:=by
 rcases wc i y.length with h|h
 ·rw[ER (zE h),II (zE h)]
 ·rw[<-getD_none h,DQ h,DQ O'];omega
theorem zD(N:b7 L)(a b:u_)(q1 q2:Bool)(hA:A3 a)(hB:A3 b)(la:a.length<=549755813888)(lb:b.length<=549755813888):Ev L 103 [.sl q1 (a.map AJ),.sl q2 (b.map AJ)] (.sl false ((dg (val a+val b)).map AJ)):=by
 refine Ev.x N.PM rfl rfl ?_;(repeat' (apply AE<;>conv=>whnf))
 refine F5 (λi _ _=>a.length+b.length-i) (λ(i:Nat)(o:u_)(c:Nat)=>(i<=a.length\/i<=b.length)/\o.length=i/\A3 o/\c<=1/\val o+4294967296^i*c=val (a.take i)+val (b.take i)) (λi o c=>[(7,.int .i64 i),(6,.int .u64 (c:Int)),(5,.row 5 0 1 0 o.length)]) (λi o c=>[(5,5,.rw 1 (o.map AJ))]) 0 [] 0 ⟨O',rfl,X7,O',by simp[val]⟩ ?_;intro i o c ⟨p1,p2,p3,p4,p5⟩ ih;by_cases hi:i<a.length\/i<b.length
 ·have g1:=sY (y:=a) i
  have g2:=sY (y:=b) i;have k1:=SM hA i;have k2:=SM hB i;have o7:∀t,t=c+a.getD i 0+b.getD i 0->val (o++[t%4294967296])+4294967296^(i+1)*(t/4294967296)=val (a.take (i+1))+val (b.take (i+1)):=λt ht=>by
   have h3:=QU (val o) (4294967296^i) t;rw[OE,p2,g1,g2,Oa];rw[h3,ht,Pa,Pa];omega
  by_cases h1:i<a.length
  ·obtain⟨x,hx⟩:=N' a i h1
   have Ez:=hA.at hx;rw[II hx]at o7;by_cases h2:i<b.length
   ·obtain⟨y,hy⟩:=N' b i h2
    have Fb:=hB.at hy;rw[II hy]at o7;repeat' (first|apply AG<;>intro hc<;>try omega|apply HW;omega|apply B7;omega|apply G7|apply AP|refine A5 V' ?_ rfl ?_;omega|apply CT|apply AE)<;>conv=>whnf
    refine DH (enc:=AJ) (((c+x+y)%4294967296:Nat)) rfl rfl rfl O' O' ?_;conv=>whnf
    repeat' (first|apply AR;omega|apply GQ)<;>conv=>whnf
    refine BB [(5,46)] E' (ih (i+1) (o++[(c+x+y)%4294967296]) ((c+x+y)/4294967296) O' ⟨O',by simp;omega,p3.append (IV O'),O',?_⟩);exact o7 (c+x+y) O'
   ·rw[<-getD_none (show b.length<=i by omega)]at o7
    repeat' (first|apply AG<;>intro hc<;>try omega|apply HW;omega|apply B7;omega|apply G7|apply AP|refine A5 V' ?_ rfl ?_;omega|apply CT|apply AE)<;>conv=>whnf
    refine DH (enc:=AJ) (((c+x)%4294967296:Nat)) rfl rfl rfl O' O' ?_;conv=>whnf
    repeat' (first|apply AR;omega|apply GQ)<;>conv=>whnf
    refine BB [(5,46)] E' (ih (i+1) (o++[(c+x)%4294967296]) ((c+x)/4294967296) O' ⟨O',by simp;omega,p3.append (IV O'),O',?_⟩);exact o7 (c+x) O'
  ·obtain⟨y,hy⟩:=N' b i
   have Fb:=hB.at hy;rw[II hy,<-getD_none (show a.length<=i by omega)]at o7;repeat' (first|apply AG<;>intro hc<;>try omega|apply HW;omega|apply B7;omega|apply G7|apply AP|refine A5 V' ?_ rfl ?_;omega|apply CT|apply AE)<;>conv=>whnf
   refine DH (enc:=AJ) (((c+y)%4294967296:Nat)) rfl rfl rfl O' O' ?_;conv=>whnf
   repeat' (first|apply AR;omega|apply GQ)<;>conv=>whnf
   refine BB [(5,46)] E' (ih (i+1) (o++[(c+y)%4294967296]) ((c+y)/4294967296) O' ⟨O',by simp;omega,p3.append (IV O'),O',?_⟩);exact o7 (c+y) O'
 ·clear ih
  have hv:val (o++[c])=val a+val b:=by
   rw[DQ O',DQ O']at p5;rw[OE,p2,p5]
  have hT:=λq=>HY N (o++[c]) q (p3.append (IV O')) K'
  rw[hv]at hT;repeat' (first|apply AG<;>intro hc<;>try omega|apply E3;omega|apply AP|apply CT|apply AE)<;>conv=>whnf
  refine DH (enc:=AJ) c rfl rfl rfl O' O' ?_;conv=>whnf
  repeat' (first|(refine C6 (λ_=>rfl) rfl ?_ ?_;(first|rfl|simp))|refine AD (hT _) ?_)<;>conv=>whnf
  exact AW rfl (L1 _)
theorem eI{a b:Nat}(h:b<=a):0<=DL a b:=by unfold DL;split<;>(try split)<;>omega
theorem AmS{V Y X p d e bw have' take w dm:Nat}(h:V+Y=X+p*bw)(h1:take=bw+e)(h2:(have'=d/\dm=0/\take<=d)\/(have'=d+4294967296/\dm=1/\d<take))(h3:w+take=have'):V+p*w+(Y+p*e)=X+p*d+p*4294967296*dm:=by
 have h4:w+bw+e=d+4294967296*dm:=O'
 have h5:p*(w+bw+e)=p*(d+4294967296*dm):=by rw[h4]
 rw[Pa,Pa,Pa,<-Ia]at h5;omega
theorem Yp(N:b7 L)(x y:u_)(hX:A3 x)(hY:A3 y)(lx:x.length<=549755813888)(ly:y.length<=549755813888)(hle:val y<=val x) :
  AA L [It.lp LH.l1,It.c9 0,It.code (((BH.ops LH.Bk false).dr [1,5,6,7,21,53,54] []).seq BH.ret)]
  [(7,AV.int IntKind.i64 0),(6,AV.int IntKind.u64 0),(5,AV.row 101021 0 1 0 x.length),(1,AV.sl false (Ie AJ y))]
  [(101021,101021,BC.rw 1 (Ie AJ x))]
  (QQ LH (AV.sl false (Ie AJ (dg (val x-val y))))):=by
 refine F5 (λi _ _=>x.length-i) (λ(i:Nat)(o:u_)(bw:Nat)=>i<=x.length/\o.length=x.length/\A3 o/\bw<=1/\o.drop i=x.drop i/\val (o.take i)+val (y.take i)=val (x.take i)+4294967296^i*bw) (λi o bw=>[(7,.int .i64 i),(6,.int .u64 (bw:Int))]) (λi o bw=>[(101021,101021,.rw 1 (o.map AJ))]) 0 x 0 ⟨O',rfl,hX,O',rfl,by simp[val]⟩ ?_;intro i o bw ⟨p1,p2,p3,p4,p5,p6⟩ ih;by_cases hi:i<x.length
 ·obtain⟨d,hd⟩:=N' o i
  have bn:=p3.at hd;have hxi:x[i]?=some d:=by
   have e1:(o.drop i)[0]?=(x.drop i)[0]? := by rw[p5]
   simpa [hd]using e1.symm
  have g1:=ER hxi;have g2:=sY (y:=y) i;have ge:=SM hY i;have o7:∀have' take w dm,take=bw+y.getD i 0->((have'=d/\dm=0/\take<=d)\/(have'=d+4294967296/\dm=1/\d<take))->w+take=have'->val ((o.set i w).take (i+1))+val (y.take (i+1))=val (x.take (i+1))+4294967296^(i+1)*dm:=λhave' take w dm a1 a2 a3=>by
   rw[HS O',g1,g2,Oa];exact AmS p6 a1 a2 a3
  have ef:∀w,(o.set i w).drop (i+1)=x.drop (i+1):=λw=>by
   rw[ze O'];have e1:(o.drop i).drop 1=(x.drop i).drop 1:=by rw[p5]
   simpa using e1
  by_cases hy:i<y.length
  ·obtain⟨e,he⟩:=N' y i hy
   have Og:=hY.at he;rw[II he]at o7;by_cases k7:d<bw+e
   ·have h3:=o7 (d+4294967296) (bw+e) (d+4294967296-(bw+e)) 1 O' (Or.inr ⟨rfl,rfl,k7⟩) O'
    repeat' (first|apply AG<;>intro hc<;>try omega|apply A4;omega|apply HW;omega|(apply KU;omega;omega)|apply dH;omega|apply B7;omega|apply E3;omega|apply AP|refine A5 V' ?_ rfl ?_;omega|refine LW V' ?_|apply AE)<;>conv=>whnf
    refine GI O' ?_;conv=>whnf
    repeat' (first|apply AR;omega|fail)<;>conv=>whnf
    exact BB [] E' (ih (i+1) (o.set i (d+4294967296-(bw+e))) 1 O' ⟨O',by simpa using p2,p3.set _ O',O',ef _,h3⟩)
   ·have h3:=o7 d (bw+e) (d-(bw+e)) 0 O' (Or.inl ⟨rfl,rfl,O'⟩) O'
    repeat' (first|apply AG<;>intro hc<;>try omega|apply A4;omega|apply HW;omega|(apply KU;omega;omega)|apply B7;omega|apply E3;omega|apply AP|refine A5 V' ?_ rfl ?_;omega|refine LW V' ?_|apply AE)<;>conv=>whnf
    refine GI O' ?_;conv=>whnf
    repeat' (first|apply AR;omega|fail)<;>conv=>whnf
    exact BB [] E' (ih (i+1) (o.set i (d-(bw+e))) 0 O' ⟨O',by simpa using p2,p3.set _ O',O',ef _,h3⟩)
  ·rw[<-getD_none (show y.length<=i by omega)]at o7
   by_cases k7:d<bw
   ·have h3:=o7 (d+4294967296) (bw) (d+4294967296-(bw)) 1 O' (Or.inr ⟨rfl,rfl,k7⟩) O'
    repeat' (first|apply AG<;>intro hc<;>try omega|apply A4;omega|(apply KU;omega;omega)|apply dH;omega|apply B7;omega|apply E3;omega|apply AP|refine LW V' ?_|apply AE)<;>conv=>whnf
    refine GI O' ?_;conv=>whnf
    repeat' (first|apply AR;omega|fail)<;>conv=>whnf
    exact BB [] E' (ih (i+1) (o.set i (d+4294967296-(bw))) 1 O' ⟨O',by simpa using p2,p3.set _ O',O',ef _,h3⟩)
   ·have h3:=o7 d (bw) (d-(bw)) 0 O' (Or.inl ⟨rfl,rfl,O'⟩) O'
    repeat' (first|apply AG<;>intro hc<;>try omega|apply A4;omega|(apply KU;omega;omega)|apply B7;omega|apply E3;omega|apply AP|refine LW V' ?_|apply AE)<;>conv=>whnf
    refine GI O' ?_;conv=>whnf
    repeat' (first|apply AR;omega|fail)<;>conv=>whnf
    exact BB [] E' (ih (i+1) (o.set i (d-(bw))) 0 O' ⟨O',by simpa using p2,p3.set _ O',O',ef _,h3⟩)
 ·obtain rfl:i=x.length:=O'
  clear ih;rw[DQ O',DQ (na _)]at p6;have h1:=F2 p3;rw[p2]at h1;have h2:val (y.take x.length)<=val y:=by have:=XA y x.length;omega
  have jn:bw=0:=by
   rcases db bw with h|h
   ·exact h
   ·have:bw=1:=O'
    subst this;omega
  subst jn;have hve:val (y.take x.length)=val y:=by
   have h3:=XA y x.length;rcases db (val (y.drop x.length))with h|h
   ·rw[h]at h3;omega
   ·have h4:4294967296^x.length*1<=4294967296^x.length*val (y.drop x.length):=ja _ h
    have h5:=F2 hX;omega
  have hv:val o=val x-val y:=O'
  have hT:=λq=>HY N o q p3 O'
  rw[<-hv,<-p2];repeat' (first|apply AG<;>intro hc<;>try omega|(refine C6 (λ_=>rfl) rfl ?_ ?_;(first|rfl|simp))|apply AE|refine AD (hT _) ?_)<;>conv=>whnf
  exact AW rfl (L1 _)
theorem nB(N:b7 L)(a b:u_)(q1 q2:Bool)(hA:A3 a)(hB:A3 b)(la:a.length<=549755813888)(lb:b.length<=549755813888):Ev L 104 [.sl q1 (a.map AJ),.sl q2 (b.map AJ)] (.sl false ((dg (val a-val b)).map AJ)):=by
 have s8:=λq q'=>nA N a b q q' hA hB O' O'
 have t2:=λq=>HY N b q hB O'
 refine Ev.x N.LH rfl rfl ?_;by_cases k7:val a<val b
 ·rw[<-KB O']at s8
  rw[show val a-val b=0 by omega,FX];repeat' (first|apply AG<;>intro hc<;>try omega|apply AE|refine AD (s8 _ _) ?_)<;>conv=>whnf
  exact AW rfl (L1 [])
 ·have iw:=eI (show val b<=val a by omega)
  generalize DL (val a) (val b)=cm at*;have d2:=EH (val b);have v2:=BQ (val b);have l2:=FN hB;rw[<-v2];rw[<-v2]at k7;generalize dg (val b)=y at*;have hdg:∀n,a.take n=dg (val a)->val (a.take n)=val a:=λn h=>by rw[h,BQ]
  repeat' (first|apply AG<;>intro hc<;>try omega|apply AE|refine AD (s8 _ _) ?_|refine AD (t2 _) ?_)<;>conv=>whnf
  refine I7 1000 N.JZ rfl rfl ?_;repeat' (first|apply AP|apply AE)<;>conv=>whnf
  refine DG (λn=>n) (λ(n:Nat)=>n<=a.length/\∀i,n<=i->i<a.length->a[i]?=some 0) (λn=>[(3,.int .i64 n)]) (λ_=>[]) a.length ⟨na _,λi h1 h2=>O'⟩ ?_;intro n ⟨p1,p2⟩ ih;rcases n with _|n
  ·have hv:=hdg _ (H5 hA p1 p2 (Or.inl rfl))
   clear ih;repeat' (first|apply AG<;>intro hc<;>try omega|apply AE)<;>conv=>whnf
   refine QS (k:=0) (λ_=>rfl) O' ?_;conv=>whnf
   refine RQ (enc:=AJ) (λ_=>rfl) J' J' ?_;conv=>whnf
   refine⟨rfl,_,rfl,?_⟩;conv=>whnf
   skip
   rw[<-hv];exact BB [] E' (Yp N (a.take 0) y (hA.take _) d2 Z' O' O')
  ·have e1:((n+1:Nat):Int)-1=n:=O'
   repeat' (first|apply AG<;>intro hc<;>try omega|apply BS;omega|refine RW V' ?_ (λe he hb=>?_);omega|apply AE)<;>conv=>whnf
   ·rw[e1]
    exact BF [] (ih n O' ⟨O',λi h1 h2=>by
     by_cases h:i=n
     ·subst h
      rw[e1,va]at he;rw[he];congr 1;omega
     ·exact p2 i O' h2⟩)
   ·rw[e1,va]at he
    have hv:=hdg _ (H5 hA p1 p2 (Or.inr ⟨_,he,O'⟩));clear ih;refine QS (k:=n+1) (λ_=>rfl) O' ?_;conv=>whnf
    refine RQ (enc:=AJ) (λ_=>rfl) J' J' ?_;conv=>whnf
    refine⟨rfl,_,rfl,?_⟩;conv=>whnf
    skip
    rw[<-hv];exact BB [] E' (Yp N (a.take (n+1)) y (hA.take _) d2 J' O' O')
theorem Ajg(N:b7 L)(x y:u_)(q1 q2:Bool)(hA:A3 x)(hB:A3 y)(lab:x.length+y.length<=549755813888):Ev L 105 [.sl q1 (x.map AJ),.sl q2 (y.map AJ)] (.sl false ((dg (val x*val y)).map AJ)):=by
 refine Ev.x N.NJ rfl rfl ?_;repeat' (first|apply AR;omega|apply AP|apply AE)<;>conv=>whnf
 refine FJ (enc:=AJ) 0 (x.length+y.length+1) rfl O' O' ?_;conv=>whnf
 skip
 refine EE (λi _=>x.length-i) (λ(i:Nat)(o:u_)=>i<=x.length/\o.length=x.length+y.length+1/\A3 o/\val o=val (x.take i)*val y/\∀k,i+y.length<=k->k<o.length->o[k]?=some 0) (λi o=>[(6,.int .i64 i)]) (λi o=>[(15,15,.rw 1 (o.map AJ))]) 0 (sa (x.length+y.length+1) 0) ⟨O',Z',K2 _,by simp[val,kH],λk h1 h2=>by simp at h2;simp[h2]⟩ ?_;intro i O ⟨p1,p2,p3,p4,p5⟩ ih;by_cases hi:i<x.length
 ·obtain⟨d,hd⟩:=N' x i hi
  have bn:=hA.at hd;repeat' (first|apply AG<;>intro hc<;>try omega|apply AP|apply AE)<;>conv=>whnf
  refine F5 (λj _ _=>y.length-j) (λ(j:Nat)(o:u_)(c:Nat)=>j<=y.length/\o.length=x.length+y.length+1/\A3 o/\c<4294967296/\val o+4294967296^(i+j)*c=val O+4294967296^i*(d*val (y.take j))/\∀k,i+j<=k->o[k]?=O[k]?) (λj o c=>[(7,.int .u64 (c:Int)),(8,.int .i64 j)]) (λj o c=>[(15,15,.rw 1 (o.map AJ))]) 0 O 0 ⟨O',p2,p3,O',by simp[val],λ_ _=>rfl⟩ ?_;intro j o c ⟨r1,r2,r3,r4,r5,r6⟩ jh;have e1:((i:Int)+j).toNat=i+j:=O'
  by_cases hj:j<y.length
  ·obtain⟨w,hw⟩:=N' y j hj
   have uf:=hB.at hw;have hm:=YU bn uf;repeat' (first|apply AG<;>intro hc<;>try omega|apply A4;omega|apply AR;omega|apply HW;omega|apply QM;omega|apply B7;omega|apply G7|apply AP|refine A5 V' ?_ rfl ?_;omega|refine tX V' ?_ (λv hv hb=>?_);omega|apply AE)<;>conv=>whnf
   refine dR (i+j) O' O' ?_;conv=>whnf
   repeat' (first|apply AR;omega|apply GQ)<;>conv=>whnf
   refine BB [] E' (jh (j+1) _ _ O' ⟨O',by simpa using r2,r3.set _ O',O',?_,?_⟩)
   ·have h1:=kE (v:=(c+(d*w+v))%4294967296) hv
    have h2:=QU 0 (4294967296^(i+j)) (c+(d*w+v));rw[ER hw,show i+(j+1)=i+j+1 by omega,Oa (4294967296) (i+j)];have h3:4294967296^i*(d*(val (y.take j)+4294967296^j*w))=4294967296^i*(d*val (y.take j))+4294967296^(i+j)*(d*w):=by rw[Fa];grind
    rw[h3];generalize 4294967296^(i+j)=P at*;rw[Pa P c,Pa P]at h2;omega
   ·intro k hk
    rw[Jb O'];exact r6 k O'
  ·obtain rfl:j=y.length:=O'
   clear jh;have hz:=r6 (i+y.length) O';rw[p5 (i+y.length) O' O']at hz;repeat' (first|apply AG<;>intro hc<;>try omega|apply A4;omega|apply AR;omega|apply E3;omega|apply AP|apply AE)<;>conv=>whnf
   refine dR (i+y.length) O' O' ?_;conv=>whnf
   repeat' (first|apply AR;omega|fail)<;>conv=>whnf
   refine BB [] E' (ih (i+1) _ O' ⟨O',by simpa using r2,r3.set _ O',?_,?_⟩)
   ·have h1:=kE (v:=c) hz
    rw[Ha,Ga]at h1;rw[h1,r5,p4,DQ (na _),ER hd,Oc,Ia]
   ·intro k h1 h2
    rw[qb]at h2;rw[Jb O',r6 k O'];exact p5 k O' O'
 ·obtain rfl:i=x.length:=O'
  clear ih;rw[DQ (na _)]at p4;have hT:=λq=>HY N O q p3 O'
  rw[p4]at hT;rw[<-p2];repeat' (first|apply AG<;>intro hc<;>try omega|apply AP|(refine C6 (λ_=>rfl) rfl ?_ ?_;(first|rfl|simp))|apply AE|refine AD (hT _) ?_)<;>conv=>whnf
  exact AW rfl (L1 _)
end Go.e9
