/-
  The pauses of the walk, and how each goes on.
-/
import Derived.Test.YtmhfodhmngfoiaaGreatDoorB3
import Derived.Test.YtmhfodhmngfoiaaGreatDoorB1
set_option linter.unusedSimpArgs false
set_option linter.unusedVariables false
set_option linter.unnecessarySimpa false
set_option maxHeartbeats 4000000
open BitVec renaming ofInt->Bb,or_comm->Be
open Bool renaming and_eq_true->za,false_and->da,true_and->La
open Decidable renaming not_not->Cf
open Function renaming comp_def->Af
open Int renaming toNat_natCast->ua,emod_lt_of_pos->Lb,natAbs_mul->Fb,emod_nonneg->Ab,mul_le_mul_of_nonneg_left->vd,natCast_mul->pd,mul_nonneg->Ld,mul_le_mul->Jd,mul_assoc->Ad,mul_add->Je,natAbs_natCast->Fe,natAbs_add_le->Ce,natCast_emod->vf,natCast_add->gf,mul_comm->Gf
open List renaming all_cons->ya,getD_eq_getElem?_getD->va,drop_of_length_le->sa,replicate->na,take_add_one->ja,all_eq_true->ea,map_cons->Pa,length_take->Ma,mem_map->Ja,length_cons->Aa,drop_eq_getElem_cons->yb,getElem?_map->ub,append_assoc->rb,drop_zero->qb,length_set->nb,length_replicate->mb,cons_append->eb,range->Nb,mapM_cons->Jb,getElem?_set_ne->Eb,nil_append->Db,mem_cons->tc,not_mem_nil->sc,length_map->kc,mem_cons_of_mem->Pc,any_cons->Nc,mem_cons_self->Lc,all_nil->Fc,eq_nil_of_length_eq_zero->Cc,drop_append_of_le_length->Bc,cons.injEq->xd,getElem?_append_right->kd,getElem?_append_left->Md,map_take->Gd,map_drop->Dd,take_append_drop->qe,set_append_right->pe,getElem?_eq_none->oe,mem_of_mem_take->ke,take_succ_cons->Oe,map_congr_left->Me,drop_set_of_lt->Le,mem_singleton->Ge,range_succ->yf,mem_append->xf,map->jf,map_set->Nf,map_nil->Mf
open Nat renaming le_refl->ka,mul_le_mul_left->ga,mul_add->Oa,pow_succ->Na,zero_add->Ha,mul_assoc->Ga,mul_zero->Fa,add_zero->Da,pow_add->Ba,lt_of_mul_lt_mul_left->vb,one_le_two_pow->ob,pow_le_pow_right->fb,min_eq_left->Ob,eq_zero_or_pos->Mb,mul_le_mul->Hb,lt_trichotomy->Gb,blt->zc,lt_of_le_of_lt->xc,mul_comm->pc,lt_or_ge->oc,le_trans->nc,two_pow_pos->jc,mod_add_div->fc,le_of_ble_eq_true->ec,lt_of_lt_of_le->Jc,mod_eq_of_lt->Dc,add_mul->yd,gcd->od,mod_lt->gd,lt_of_mul_lt_mul_right->Od,add_sub_cancel_left->ze,succ_mul->ye,div_div_eq_div_mul->ve,beq->te,add_comm->re,eq_of_beq_eq_true->me,pow_pos->ie,add_mul_div_left->ae,ble->Ee,div_le_self->mf,div_add_mod->lf,sub->Lf,mul_succ->Jf,gcd_comm->Hf,zero_le->Ef,mul_pos->Df
open Option renaming some.injEq->qa,map_some->zb,toList_some->Pb,getD_some->uc,map_eq_some_iff->Hd
open Prod renaming mk.injEq->Pf
open Rat renaming intCast_natCast->Oc,intCast_mul->ud,mul_assoc->Bd,div_def->je,mkRat_mul_right->He,divInt_ofNat->Ae,num_intCast->rf,intCast_inj->qf,den_intCast->pf,mkRat_self->ef,mul_one->Ff
namespace Go.Eng
section
variable {α:Type} {enc:α->w_} {l:List α} {L:Lib}
theorem AG{p q A B:Prop}(h1:p->A)(h2:q->B):AF p q A B:=⟨h1,h2⟩
theorem A2{p A:Prop}(h1:p)(h2:A):AW p A:=⟨h1,h2⟩
section
variable {K:AV->Prop} {a b:Int} {k k':IntKind} {op:BinOp}
theorem dE{v:AV}(h:C5 op k a k' b=some v)(hk:K v):AC op k a k' b K:=⟨v,h,hk⟩
theorem AR(hr:-9223372036854775808<=a+b/\a+b<=9223372036854775807)(hk:K (.int .i64 (a+b))):AC .add .i64 a .i64 b K:=⟨_,by simp only[C5,if_true];rw[IntWalk.i64_in _ hr],hk⟩
theorem BP(hr:-9223372036854775808<=a-b/\a-b<=9223372036854775807)(hk:K (.int .i64 (a-b))):AC .sub .i64 a .i64 b K:=⟨_,by simp only[C5,if_true];rw[IntWalk.i64_in _ hr],hk⟩
theorem F3(hr:-9223372036854775808<=a*b/\a*b<=9223372036854775807)(hk:K (.int .i64 (a*b))):AC .mul .i64 a .i64 b K:=⟨_,by simp only[C5,if_true];rw[IntWalk.i64_in _ hr],hk⟩
theorem H3(h:0<=b/\b<=62)(hk:1<=pw b->pw b<=4611686018427387904->K (.int .i64 (pw b))):AC .shl .i64 1 k' b K:=⟨_,And h,hk (GQ b) (iV h.2)⟩
theorem tY(h:0<=b/\b<=62)(hk:0<=a%pw b->a%pw b<pw b->K (.int .i64 (a%pw b))):AC .and .i64 a .i64 (pw b-1) K:=⟨_,uR rfl h,hk (Ab _ (by have:=GQ b;omega)) (Lb _ (by have:=GQ b;omega))⟩
theorem IZ(hb:0<b)(h1:(0<=a\/a%b=0)->0<=a%b->a%b<b->K (.int .i64 (a%b)))(h2:a<0->a%b≠0->0<=a%b->a%b<b->K (.int .i64 (a%b-b))):AC .rem .i64 a .i64 b K:=by
 have h5:0<=a%b:=Ab _ O';have h6:a%b<b:=Lb _ hb;have e:C5 .rem .i64 a .i64 b=some (.int .i64 (a.tmod b)):=by simp only[C5];rw[if_pos ⟨trivial,O'⟩]
 by_cases hc:0<=a\/a%b=0
 ·rw[Ya hb,if_pos hc]at e
  exact⟨_,e,h1 hc h5 h6⟩
 ·rw[Ya hb,if_neg hc]at e
  exact⟨_,e,h2 O' O' h5 h6⟩
theorem KM(hb:0<b)(ha:-9223372036854775808<=a/\a<=9223372036854775807)(h1:(0<=a\/a%b=0)->K (.int .i64 (a/b)))(h2:a<0->a%b≠0->K (.int .i64 (a/b+1))):AC .quo .i64 a .i64 b K:=by
 have hr:=Aig (m:=b) O' ha;have e:C5 .quo .i64 a .i64 b=some (.int .i64 (IntKind.i64.wrap (a.tdiv b))):=by simp only[C5];rw[if_pos ⟨trivial,O'⟩]
 by_cases hc:0<=a\/a%b=0
 ·rw[Xx hb,if_pos hc,IntWalk.i64_in _ hr]at e
  exact⟨_,e,h1 hc⟩
 ·have ABt:a/b<0:=Int.ediv_neg_of_neg_of_pos O' hb
  rw[Xx hb,if_neg hc,IntWalk.i64_in _ O']at e;exact⟨_,e,h2 O' O'⟩
theorem uD(h:0<=b/\b<=63)(hk:K (.int .i64 (a/pw b))):AC .shr .i64 a k' b K:=⟨_,Ane h,hk⟩
theorem Ae6(hk:K (.int .i64 (a%2))):AC .and .i64 a .i64 1 K:=⟨_,Af2,hk⟩
theorem kO(hk:K (.int k (k.wrap (a+b)))):AC .add k a k b K:=⟨_,by simp only[C5,if_true],hk⟩
theorem ZS(hk:K (.int k (k.wrap (a-b)))):AC .sub k a k b K:=⟨_,by simp only[C5,if_true],hk⟩
theorem uF(hk:K (.int k (k.wrap (a*b)))):AC .mul k a k b K:=⟨_,by simp only[C5,if_true],hk⟩
theorem EC.neg(hr:-9223372036854775808 <= -a/\-a<=9223372036854775807)(hk:K (.int .i64 (-a))):EC .neg .i64 a K:=⟨_,by simp only[UU];rw[show(0:Int)-a = -a by omega,IntWalk.i64_in _ hr],hk⟩
theorem EC.go{op:UnOp}{v:AV}(h:UU op (.int k a)=some v)(hk:K v):EC op k a K:=⟨v,h,hk⟩
end
theorem ZM{k:IntKind}{n:Int}{K:Int->Prop}(e:k.wrap n=n)(h:K n):A0 k n K:=⟨by rw[e];exact h⟩
theorem B1{n:Int}{K:Int->Prop}(hr:0<=n/\n<=18446744073709551615)(h:K n):A0 .u64 n K:=ZM (IntWalk.u64_in _ hr) h
theorem RM{n:Int}{K:Int->Prop}(hr:-9223372036854775808<=n/\n<=9223372036854775807)(h:K n):A0 .i64 n K:=ZM (IntWalk.i64_in _ hr) h
theorem A3{a:Int}{z:Nat}{K:w_->Prop}{e:α}(he:l[a.toNat]?=some e)(h0:0<=a)(hz:(enc e).length=z)(h:K (enc e)):AX (l.map enc) a z K:=⟨h0,enc e,by simp[he],hz,h⟩
theorem RR{a:Int}{z:Nat}{K:w_->Prop}(h0:0<=a/\a<l.length)(hz:∀e,(enc e).length=z)(h:∀e,l[a.toNat]?=some e->K (enc e)):AX (l.map enc) a z K:=by
 have he:l[a.toNat]?=some (l[a.toNat]' O'):=zE _;exact A3 he h0.1 (hz _) (h _ he)
theorem IG{n z:Nat}{K:w_->Prop}(hn:n<l.length)(hz:∀e,(enc e).length=z)(h:∀e,l[n]?=some e->K (enc e)):AX (l.map enc) (n:Int) z K :=
 RR ⟨O',O'⟩ hz h
theorem U7{i j n:Nat}{K:w_->Prop}{f:α->w_}(hi:i<l.length)(hp:∀e,part (enc e) j n=some (f e))(h:∀e,l[i]?=some e->K (f e)):BD (l.map enc) (0+((i:Int)).toNat) j n K:=by
 have he:l[i]?=some l[i]:=zE _;rw[Ha,ua];exact⟨enc l[i],f l[i],by simp[he],hp _,h _ he⟩
theorem kJ{i:Int}{j n:Nat}{K:w_->Prop}{f:α->w_}(hi:0<=i/\i<l.length)(hp:∀e,part (enc e) j n=some (f e))(h:∀e,l[i.toNat]?=some e->K (f e)):BD (l.map enc) (0+i.toNat) j n K:=by
 have hl:i.toNat<l.length:=O'
 have he:l[i.toNat]?=some l[i.toNat]:=zE _;rw[Ha];exact⟨enc l[i.toNat],f l[i.toNat],by rw[ub,he];rfl,hp _,h _ he⟩
theorem HS{i:Nat}{vs:w_}{K:v_->Prop}(e:α)(he:vs=enc e)(hz:∀x,(enc x).length=vs.length)(hi:i<l.length)(h:K ((l.set i e).map enc)):BG (l.map enc) (0+((i:Int)).toNat) 0 vs K:=by
 rw[Ha,ua];refine⟨enc l[i],by simp[zE hi],by rw[hz];omega,?_⟩;rw[show splice (enc l[i]) 0 vs=vs by simp[splice,<-hz l[i]],he,<-Nf];exact h
theorem FQ{i j n:Nat}{K:w_->Prop}{e:α}{ds:w_}(he:l[i]?=some e)(hp:part (enc e) j n=some ds)(h:K ds):BD (l.map enc) i j n K:=⟨enc e,ds,by simp[he],hp,h⟩
theorem Anq{cs vs:w_}(h:cs.length=vs.length):splice cs 0 vs=vs:=by
 simp[splice,<-h]
theorem Afo{i:Nat}{vs:w_}{K:v_->Prop}(e:α)(he:vs=enc e)(hz:∀x,(enc x).length=vs.length)(hi:i<l.length)(h:K ((l.set i e).map enc)):BG (l.map enc) i 0 vs K:=by
 refine⟨enc l[i],by simp[zE hi],by rw[hz];omega,?_⟩;rw[Anq (hz _),he,<-Nf];exact h
theorem E6{a b:Int}{bytes:Nat}{zero:w_}{K:v_->Nat->Prop}(x:α)(n:Nat)(hx:zero=enc x)(hn:a=n)(hr:a<=b/\b*bytes<=140737488355328/\b<=9223372036854775807)(h:K ((na n x).map enc) n):CM a b bytes zero K:=by
 subst hn hx;refine⟨⟨O',hr.1,by simpa [ET]using hr.2.1,hr.2.2⟩,?_⟩;simpa using h
theorem Ae5{a b:Int}{bytes:Nat}{zero:w_}{K:v_->Nat->Prop}(x:α)(hx:zero=enc x)(h0:0<=a)(hr:a<=b/\b*bytes<=140737488355328/\b<=9223372036854775807)(h:K ((na a.toNat x).map enc) a.toNat):CM a b bytes zero K:=by
 subst hx;refine⟨⟨h0,hr.1,by simpa [ET]using hr.2.1,hr.2.2⟩,?_⟩;simpa using h
theorem AP{K:Nat->Prop}(h:K l.length):AM (l.map enc) K:=⟨by simpa using h⟩
theorem C1{len z bytes:Nat}{vs:w_}{K:v_->Nat->Prop}(e:α)(he:vs=enc e)(hl:len=l.length)(hz:vs.length=z)(hr:(l.length+1)*bytes<=140737488355328)(dd:l.length+1<=9223372036854775807)(h:K ((l++[e]).map enc) (l++[e]).length):BS (l.map enc) len [vs] z bytes K:=by
 subst hl;refine⟨Z',by simpa using hz,by simpa [ET]using hr,by simpa using dd,?_⟩;rw[zT Z'];simpa [he]using h
theorem XF{len z bytes:Nat}{l':List α}{K:v_->Nat->Prop}(hl:len=l.length)(hz:∀x,(enc x).length=z)(hr:(l.length+l'.length)*bytes<=140737488355328)(dd:l.length+l'.length<=9223372036854775807)(h:K ((l++l').map enc) (l++l').length):BS (l.map enc) len (l'.map enc) z bytes K:=by
 subst hl;refine⟨Z',by simp[hz],by simpa [ET]using hr,by simpa using dd,?_⟩;rw[zT Z'];simpa using h
theorem L8{z bytes:Nat}{vs:w_}{K:v_->Nat->Prop}(e:α)(he:vs=enc e)(hz:vs.length=z)(hb:bytes<=140737488355328)(h:K ([e].map enc) 1):D7 [vs] z bytes K :=
 ⟨by simpa using hz,by simpa [ET]using hb,Z',by simpa [he]using h⟩
theorem RK{z bytes:Nat}{K:v_->Nat->Prop}(hz:∀x,(enc x).length=z)(hr:l.length*bytes<=140737488355328)(dd:l.length<=9223372036854775807)(h:K (l.map enc) l.length):D7 (l.map enc) z bytes K :=
 ⟨by simp[hz],by simpa [ET]using hr,by simpa using dd,by simpa using h⟩
theorem Afk{off len:Nat}{K:v_->Prop}(ho:off=0)(hl:len=l.length)(h:K (l.map enc)):BR (l.map enc) off len K:=by
 subst hl ho;exact⟨Z',by rw[qb,zT Z'];exact h⟩
theorem dM{off len:Nat}{K:v_->Prop}(hl:off+len<=l.length)(h:K (((l.drop off).take len).map enc)):BR (l.map enc) off len K :=
 ⟨by simpa using hl,by rw[<-Dd,<-Gd];exact h⟩
theorem qD:∀{e:w_},G5 e=true->NZ e=true/\e.map nl=e
 |[],_=>⟨rfl,rfl⟩
 |v::r,h=>by
  have hv:G5 r=true:=by cases v<;>simp only[G5]at h<;>first|cases h|exact h
  obtain⟨h1,h2⟩:=qD hv;cases v<;>simp only[G5]at h<;>first|cases h|exact⟨h1,by rw[Pa,h2];rfl⟩
theorem Wi:∀{es:v_},(∀e∈es,G5 e=true)->es.map (λe=>e.map nl)=es
 |[],_=>rfl
 |e::r,h=>by rw[Pa,(qD (h e Lc)).2,Wi λx hx=>h x (Pc _ hx)]
theorem dN{es:v_}{off len:Nat}{K:v_->Prop}(hl:off+len<=es.length)(hz:∀e∈es,G5 e=true)(h:K ((es.drop off).take len)):A5 es off len K :=
 ⟨hl,λe he=>(qD (hz e he)).1,by rw[Wi λe he=>hz e (List.mem_of_mem_drop (ke he))];exact h⟩
theorem CR{off len:Nat}{K:v_->Prop}(hz:∀x,G5 (enc x)=true)(ho:off=0)(hl:len=l.length)(h:K (l.map enc)):A5 (l.map enc) off len K:=by
 subst hl ho;refine dN Z' (λe he=>?_) (by rw[qb,zT Z'];exact h);obtain⟨x,_,rfl⟩:=Ja.1 he;exact hz x
theorem HQ{off len:Nat}{K:v_->Prop}(hz:∀x,G5 (enc x)=true)(hl:off+len<=l.length)(h:K (((l.drop off).take len).map enc)):A5 (l.map enc) off len K:=by
 refine dN (by simpa using hl) (λe he=>?_) (by rw[<-Dd,<-Gd];exact h);obtain⟨x,_,rfl⟩:=Ja.1 he;exact hz x
theorem CI{e:w_}{K:v_->Prop}(h:K [e]):BR [e] 0 1 K:=⟨Z',h⟩
theorem JF{e:w_}{K:v_->Prop}(h0:G5 e=true)(h:K [e]):A5 [e] 0 1 K:=dN Z' (by simpa using h0) h
theorem ZW{e e':w_}{K:v_->Prop}(h0:G5 e=true)(h1:G5 e'=true)(h:K [e,e']):A5 [e,e'] 0 2 K:=dN Z' (by simpa using⟨h0,h1⟩) h
section
variable {β:Type} {z:Nat} {ll:List (List β)} {en:β->w_}
abbrev EN(z:Nat)(en:β->w_)(ll:List (List β)):List (p_):=ll.map λr=>some (z,r.map en)
theorem Ae3{i:Nat}{K:p_->Prop}(hi:i<ll.length)(h:∀r,ll[i]?=some r->K (some (z,r.map en))):HF (EN z en ll) (0+((i:Int)).toNat) K:=by
 have he:ll[i]?=some ll[i]:=zE _;exact⟨_,by rw[Ha,ua,ub,he];rfl,h _ he⟩
theorem Ae2{i:Int}{K:p_->Prop}(hi:0<=i/\i<ll.length)(h:∀r,ll[i.toNat]?=some r->K (some (z,r.map en))):HF (EN z en ll) (0+i.toNat) K:=by
 have hl:i.toNat<ll.length:=O'
 have he:ll[i.toNat]?=some ll[i.toNat]:=zE _;exact⟨_,by rw[Ha,ub,he];rfl,h _ he⟩
theorem tT{i:Nat}{K:Nat->v_->Prop}{r:List β}(hr:ll[i]?=some r)(h:K z (r.map en)):E5 (EN z en ll) i K :=
 ⟨z,r.map en,by rw[ub,hr];rfl,h⟩
theorem AeZ{i:Nat}{K:Nat->v_->Prop}{r:List β}(hr:ll[i]?=some r)(h:K z (r.map en)):E5 (EN z en ll) (0+((i:Int)).toNat) K:=by
 rw[Ha,ua];exact tT hr h
theorem Ae0{i:Int}{K:Nat->v_->Prop}{r:List β}(hr:ll[i.toNat]?=some r)(h:K z (r.map en)):E5 (EN z en ll) (0+i.toNat) K:=by
 rw[Ha];exact tT hr h
theorem ZJ{len bytes:Nat}{r:List β}{K:List (p_)->Nat->Prop}(hl:len=ll.length)(hr:(ll.length+1)*bytes<=140737488355328)(dd:ll.length+1<=9223372036854775807)(h:K (EN z en (ll++[r])) (ll++[r]).length):JY (EN z en ll) len (some (z,r.map en)) bytes K:=by
 subst hl;exact⟨Z',by simpa [ET]using hr,dd,by simpa [EN]using h⟩
theorem AeO{rows:List (p_)}{len bytes:Nat}{r:p_}{K:List (p_)->Nat->Prop}(hl:len=rows.length)(hr:(rows.length+1)*bytes<=140737488355328)(dd:rows.length+1<=9223372036854775807)(h:K (rows++[r]) (rows++[r]).length):JY rows len r bytes K:=by
 subst hl;exact⟨rfl,by simpa [ET]using hr,dd,by simpa using h⟩
theorem Vl(q:Bool):∀ll:List (List β),L1 q (EN z en ll)=ll.map λr=>[AV.sl q (r.map en)]
 |[]=>rfl
 |r::l=>by simp only[EN,Pa,L1];rw[show L1 q (l.map λr=>some (z,r.map en))=_ from Vl q l]
theorem VE{q:Bool}{off len:Nat}{K:v_->Prop}(hz:∀x,G5 (en x)=true)(ho:off=0)(hl:len=ll.length)(h:K (ll.map λr=>[AV.sl q (r.map en)])):HO q (EN z en ll) off len K:=by
 refine⟨ho,by simpa using hl,λz' es hm e he=>?_,by rw[Vl];exact h⟩;obtain⟨r,_,hr⟩:=Ja.1 hm;simp only[qa,Pf]at hr;obtain⟨rfl,rfl⟩:=hr;obtain⟨x,_,rfl⟩:=Ja.1 he;exact hz x
end
theorem ZK{len:Nat}{a:Int}{K:Nat->Nat->Prop}(h0:0<=a/\a<=len)(h:K a.toNat len):C9 (some a) none len K:=⟨a.toNat,len,⟨h0.1,rfl⟩,rfl,O',h⟩
theorem AeP{len:Nat}{b:Int}{K:Nat->Nat->Prop}(h0:0<=b/\b<=len)(h:K 0 b.toNat):C9 none (some b) len K:=⟨0,b.toNat,rfl,⟨h0.1,h0.2,rfl⟩,O',h⟩
theorem AeQ{len:Nat}{a b:Int}{K:Nat->Nat->Prop}(h0:0<=a/\a<=b/\b<=len)(h:K a.toNat b.toNat):C9 (some a) (some b) len K:=⟨a.toNat,b.toNat,⟨h0.1,rfl⟩,⟨O',O',rfl⟩,O',h⟩
theorem uI{z:Nat}{lo hi:Option Int}{K:v_->Prop}(hz:∀x,(enc x).length=z)(h:C9 lo hi l.length λa h=>K (((l.take h).drop a).map enc)):GE z (l.map enc) lo hi K:=by
 refine⟨by simp[hz],?_⟩;rw[kc];obtain⟨a,b,h1,h2,h3,h4⟩:=h;refine⟨a,b,h1,h2,h3,?_⟩;show K _;rw[<-Gd,<-Dd];exact h4
theorem QM{z k:Nat}{K:v_->Prop}(hz:∀x,(enc x).length=z)(hk:k<=l.length)(h:K ((l.take k).map enc)):GE z (l.map enc) none (some (k:Int)) K :=
 uI hz (AeP O' (by simpa using h))
theorem Afm{z k:Nat}{K:v_->Prop}(hz:∀x,(enc x).length=z)(hk:k<=l.length)(h:K ((l.drop k).map enc)):GE z (l.map enc) (some (k:Int)) none K :=
 uI hz (ZK O' (by simpa using h))
theorem AD{f:Nat}{vs:w_}{K:AV->Prop}{r:AV}(h:Ev L f vs r)(hk:K r):AB L f vs K:=⟨r,h,hk⟩
theorem D8{f:Nat}{vs:w_}{K:AV->Prop}{p:Prop}[Decidable p](h:Ev L f vs (.bool (decide p)))(h1:p->K (.bool true))(h2:¬p->K (.bool false)):AB L f vs K:=by
 refine⟨_,h,?_⟩;by_cases e:p
 ·rw[decide_eq_true e];exact h1 e
 ·rw[decide_eq_false e];exact h2 e
theorem ZL{f:Nat}{vs:w_}{K:AV->Prop}{b:Bool}(h:Ev L f vs (.bool b))(h1:b=true->K (.bool true))(h2:b=false->K (.bool false)):AB L f vs K:=by
 refine⟨_,h,?_⟩;cases b
 ·exact h2 rfl
 ·exact h1 rfl
theorem AU{a r:AV}(h:a=r)(hc:AY r):AH a r:=⟨h,hc⟩
theorem EV{a r:Bool}(h:a=r):AH (.bool a) (.bool r):=⟨by rw[h],by simp[AY]⟩
theorem QE{p:Prop}[Decidable p](h:p):AH (.bool true) (.bool (decide p)):=⟨by simp[h],by simp[AY]⟩
theorem MA{p:Prop}[Decidable p](h:¬p):AH (.bool false) (.bool (decide p)):=⟨by simp[h],by simp[AY]⟩
theorem BM{k:IntKind}{a b:Int}(h:a=b):AH (.int k a) (.int k b):=⟨by rw[h],by simp[AY]⟩
theorem LS(h:∀x,BI (enc x)):∀l:List α,DB (l.map enc)
 |[]=>by simp[DB]
 |x::r=>by rw[Pa,DB];exact⟨h x,LS h r⟩
end
theorem KO(l:List Int):DB (l.map AZ):=LS (λ_=>by simp[BI,AY]) l
theorem DP{α:Type}{L:Lib}{k:List It}{cd:BF}{tm:Tm}{M:Mem}{Q:Tm->Mem->Prop}(m:α->Nat)(P:α->Prop)(vs:α->Tm)(Ms:α->Mem)(ts:u_)(τ:List (Nat×Nat))(a:α)
  (he:LL τ tm M (vs a++z7 ts tm) (Ms a++M)) (hp:P a)
  (step:∀a,P a->(∀a',m a'<m a->P a'->AA L (.lp cd::k) (vs a'++z7 ts tm) (Ms a'++M) Q)->AA L (.code cd :: .lp cd::k) (vs a++z7 ts tm) (Ms a++M) Q):AA L (.lp cd::k) tm M Q :=
 XD (α:=α) (λx=>m x) (λx=>P x) (λx=>vs x) (λx=>Ms x) ts τ a he hp λa h ih=>step a h λa' h1 h2=>ih a' h1 h2
theorem ZI{α β:Type}{L:Lib}{k:List It}{cd:BF}{tm:Tm}{M:Mem}{Q:Tm->Mem->Prop}(m:α->β->Nat)(P:α->β->Prop)(vs:α->β->Tm)(Ms:α->β->Mem)(ts:u_)(τ:List (Nat×Nat))(a:α)(b:β)
  (he:LL τ tm M (vs a b++z7 ts tm) (Ms a b++M)) (hp:P a b)
  (step:∀a b,P a b->(∀a' b',m a' b'<m a b->P a' b'->AA L (.lp cd::k) (vs a' b'++z7 ts tm) (Ms a' b'++M) Q)->AA L (.code cd :: .lp cd::k) (vs a b++z7 ts tm) (Ms a b++M) Q):AA L (.lp cd::k) tm M Q :=
 XD (α:=α×β) (λx=>m x.1 x.2) (λx=>P x.1 x.2) (λx=>vs x.1 x.2) (λx=>Ms x.1 x.2) ts τ (a,b) he hp λ⟨a,b⟩ h ih=>step a b h λa' b' h1 h2=>ih (a',b') h1 h2
theorem Aeh{α β γ:Type}{L:Lib}{k:List It}{cd:BF}{tm:Tm}{M:Mem}{Q:Tm->Mem->Prop}(m:α->β->γ->Nat)(P:α->β->γ->Prop)(vs:α->β->γ->Tm)(Ms:α->β->γ->Mem)(ts:u_)(τ:List (Nat×Nat))(a:α)(b:β)(c:γ)
  (he:LL τ tm M (vs a b c++z7 ts tm) (Ms a b c++M)) (hp:P a b c)
  (step:∀a b c,P a b c->(∀a' b' c',m a' b' c'<m a b c->P a' b' c'->AA L (.lp cd::k) (vs a' b' c'++z7 ts tm) (Ms a' b' c'++M) Q)->AA L (.code cd :: .lp cd::k) (vs a b c++z7 ts tm) (Ms a b c++M) Q):AA L (.lp cd::k) tm M Q :=
 XD (α:=α×β×γ) (λx=>m x.1 x.2.1 x.2.2) (λx=>P x.1 x.2.1 x.2.2) (λx=>vs x.1 x.2.1 x.2.2) (λx=>Ms x.1 x.2.1 x.2.2) ts τ (a,b,c) he hp λ⟨a,b,c⟩ h ih=>step a b c h λa' b' c' h1 h2=>ih (a',b',c') h1 h2
theorem tF{α β γ δ:Type}{L:Lib}{k:List It}{cd:BF}{tm:Tm}{M:Mem}{Q:Tm->Mem->Prop}(m:α->β->γ->δ->Nat)(P:α->β->γ->δ->Prop)(vs:α->β->γ->δ->Tm)(Ms:α->β->γ->δ->Mem)(ts:u_)(τ:List (Nat×Nat))(a:α)(b:β)(c:γ)(d:δ)
  (he:LL τ tm M (vs a b c d++z7 ts tm) (Ms a b c d++M)) (hp:P a b c d)
  (step:∀a b c d,P a b c d->(∀a' b' c' d',m a' b' c' d'<m a b c d->P a' b' c' d'->AA L (.lp cd::k) (vs a' b' c' d'++z7 ts tm) (Ms a' b' c' d'++M) Q)->AA L (.code cd :: .lp cd::k) (vs a b c d++z7 ts tm) (Ms a b c d++M) Q):AA L (.lp cd::k) tm M Q :=
 XD (α:=α×β×γ×δ) (λx=>m x.1 x.2.1 x.2.2.1 x.2.2.2) (λx=>P x.1 x.2.1 x.2.2.1 x.2.2.2) (λx=>vs x.1 x.2.1 x.2.2.1 x.2.2.2) (λx=>Ms x.1 x.2.1 x.2.2.1 x.2.2.2) ts τ (a,b,c,d) he hp λ⟨a,b,c,d⟩ h ih=>step a b c d h λa' b' c' d' h1 h2=>ih (a',b',c',d') h1 h2
theorem Aei{α β γ δ ε:Type}{L:Lib}{k:List It}{cd:BF}{tm:Tm}{M:Mem}{Q:Tm->Mem->Prop}(m:α->β->γ->δ->ε->Nat)(P:α->β->γ->δ->ε->Prop)(vs:α->β->γ->δ->ε->Tm)(Ms:α->β->γ->δ->ε->Mem)(ts:u_)(τ:List (Nat×Nat))(a:α)(b:β)(c:γ)(d:δ)(e:ε)
  (he:LL τ tm M (vs a b c d e++z7 ts tm) (Ms a b c d e++M)) (hp:P a b c d e)
  (step:∀a b c d e,P a b c d e->(∀a' b' c' d' e',m a' b' c' d' e'<m a b c d e->P a' b' c' d' e'->AA L (.lp cd::k) (vs a' b' c' d' e'++z7 ts tm) (Ms a' b' c' d' e'++M) Q)->AA L (.code cd :: .lp cd::k) (vs a b c d e++z7 ts tm) (Ms a b c d e++M) Q):AA L (.lp cd::k) tm M Q :=
 XD (α:=α×β×γ×δ×ε) (λx=>m x.1 x.2.1 x.2.2.1 x.2.2.2.1 x.2.2.2.2) (λx=>P x.1 x.2.1 x.2.2.1 x.2.2.2.1 x.2.2.2.2) (λx=>vs x.1 x.2.1 x.2.2.1 x.2.2.2.1 x.2.2.2.2) (λx=>Ms x.1 x.2.1 x.2.2.1 x.2.2.2.1 x.2.2.2.2) ts τ (a,b,c,d,e) he hp λ⟨a,b,c,d,e⟩ h ih=>step a b c d e h λa' b' c' d' e' h1 h2=>ih (a',b',c',d',e') h1 h2
theorem Aej{α β γ δ ε ζ:Type}{L:Lib}{k:List It}{cd:BF}{tm:Tm}{M:Mem}{Q:Tm->Mem->Prop}(m:α->β->γ->δ->ε->ζ->Nat)(P:α->β->γ->δ->ε->ζ->Prop)(vs:α->β->γ->δ->ε->ζ->Tm)(Ms:α->β->γ->δ->ε->ζ->Mem)(ts:u_)(τ:List (Nat×Nat))(a:α)(b:β)(c:γ)(d:δ)(e:ε)(f:ζ)
  (he:LL τ tm M (vs a b c d e f++z7 ts tm) (Ms a b c d e f++M)) (hp:P a b c d e f)
  (step:∀a b c d e f,P a b c d e f->(∀a' b' c' d' e' f',m a' b' c' d' e' f'<m a b c d e f->P a' b' c' d' e' f'->AA L (.lp cd::k) (vs a' b' c' d' e' f'++z7 ts tm) (Ms a' b' c' d' e' f'++M) Q)->AA L (.code cd :: .lp cd::k) (vs a b c d e f++z7 ts tm) (Ms a b c d e f++M) Q):AA L (.lp cd::k) tm M Q :=
 XD (α:=α×β×γ×δ×ε×ζ) (λx=>m x.1 x.2.1 x.2.2.1 x.2.2.2.1 x.2.2.2.2.1 x.2.2.2.2.2) (λx=>P x.1 x.2.1 x.2.2.1 x.2.2.2.1 x.2.2.2.2.1 x.2.2.2.2.2) (λx=>vs x.1 x.2.1 x.2.2.1 x.2.2.2.1 x.2.2.2.2.1 x.2.2.2.2.2) (λx=>Ms x.1 x.2.1 x.2.2.1 x.2.2.2.1 x.2.2.2.2.1 x.2.2.2.2.2) ts τ (a,b,c,d,e,f) he hp λ⟨a,b,c,d,e,f⟩ h ih=>step a b c d e f h λa' b' c' d' e' f' h1 h2=>ih (a',b',c',d',e',f') h1 h2
theorem C0{α:Type}{L:Lib}{k:List It}{cd:BF}{tm:Tm}{M:Mem}{Q:Tm->Mem->Prop}(m:α->Nat)(P:α->Prop)(vs:α->Tm)(Ms:α->Mem)(a:α)
  (hp:P a)
  (step:∀a,P a->(∀a',m a'<m a->P a'->AA L (.lp cd::k) (vs a'++z7 [] tm) (Ms a'++M) Q)->AA L (.code cd :: .lp cd::k) (vs a++z7 [] tm) (Ms a++M) Q)
  (he:LL [] tm M (vs a++z7 [] tm) (Ms a++M):=by(conv=>whnf);exact⟨rfl,rfl,rfl⟩):AA L (.lp cd::k) tm M Q :=
 DP m P vs Ms [] [] a he hp step
theorem DT{α β:Type}{L:Lib}{k:List It}{cd:BF}{tm:Tm}{M:Mem}{Q:Tm->Mem->Prop}(m:α->β->Nat)(P:α->β->Prop)(vs:α->β->Tm)(Ms:α->β->Mem)(a:α)(b:β)
  (hp:P a b)
  (step:∀a b,P a b->(∀a' b',m a' b'<m a b->P a' b'->AA L (.lp cd::k) (vs a' b'++z7 [] tm) (Ms a' b'++M) Q)->AA L (.code cd :: .lp cd::k) (vs a b++z7 [] tm) (Ms a b++M) Q)
  (he:LL [] tm M (vs a b++z7 [] tm) (Ms a b++M):=by(conv=>whnf);exact⟨rfl,rfl,rfl⟩):AA L (.lp cd::k) tm M Q :=
 ZI m P vs Ms [] [] a b he hp step
theorem FP{α β γ:Type}{L:Lib}{k:List It}{cd:BF}{tm:Tm}{M:Mem}{Q:Tm->Mem->Prop}(m:α->β->γ->Nat)(P:α->β->γ->Prop)(vs:α->β->γ->Tm)(Ms:α->β->γ->Mem)(a:α)(b:β)(c:γ)
  (hp:P a b c)
  (step:∀a b c,P a b c->(∀a' b' c',m a' b' c'<m a b c->P a' b' c'->AA L (.lp cd::k) (vs a' b' c'++z7 [] tm) (Ms a' b' c'++M) Q)->AA L (.code cd :: .lp cd::k) (vs a b c++z7 [] tm) (Ms a b c++M) Q)
  (he:LL [] tm M (vs a b c++z7 [] tm) (Ms a b c++M):=by(conv=>whnf);exact⟨rfl,rfl,rfl⟩):AA L (.lp cd::k) tm M Q :=
 Aeh m P vs Ms [] [] a b c he hp step
theorem AE{L:Lib}{Q:Tm->Mem->Prop}{c:BF}{k:List It}{tm:Tm}{M:Mem}(h:fT (wh 0 tm) λtm=>YN M λM=>XK L Q 500 (.code c::k) tm M):AA L (.code c::k) tm M Q:=by
 rw[YB,gW]at h;exact tE (kS h)
end Go.Eng
namespace Go.Eng
open F
attribute [local irreducible] AA AF AW AC EC AB AH pw
variable {L:Lib}
def C3(n:Int):Prop := -9223372036854775808<=n/\n<=9223372036854775807
structure Wd where
 b:Int
 f:Int
 r:Int
 o:Int
abbrev HV(w:Wd):w_:=[.int .i64 w.b,.int .i64 w.f,.int .i64 w.r,.int .i64 w.o]
theorem fO(I:a8 L)(r:Int):Ev L 1 [.int .i64 r] (.bool (decide (1<=r/\r<=3))):=by
 refine Ev.x I.SF rfl rfl ?_;repeat' (first|apply AG<;>intro hc<;>try omega|apply AE)<;>conv=>whnf
 all_goals (first|exact QE O'|exact MA O')
theorem MJ(I:a8 L)(v a b:Int):Ev L 10 [.int .i64 v,.int .i64 a,.int .i64 b] (.bool (decide (a<=v/\v<=b))):=by
 refine Ev.x I.UE rfl rfl ?_;repeat' (first|apply AG<;>intro hc<;>try omega|apply AE)<;>conv=>whnf
 all_goals (first|exact QE O'|exact MA O')
def WV(w:Wd):Prop:=4<=w.b/\w.b<=24/\0<=w.f/\w.f<w.b/\1<=w.r/\w.r<=3/\1<=w.o/\w.o<=2
instance (w:Wd):Decidable (WV w) := by unfold WV; infer_instance
variable (w:Wd)
theorem aI(I:a8 L):Ev L 2 [.agg (HV w)] (.bool (decide (WV w))):=by
 refine Ev.x I.SD rfl rfl ?_;repeat' (first|apply AG<;>intro hc<;>try omega|apply AE|refine D8 (fO I _) (λhf=>?_) (λhf=>?_))<;>conv=>whnf
 all_goals (unfold WV;first|exact QE O'|exact MA O')
theorem aJ(I:a8 L):Ev L 11 [.agg (HV w)] (.bool (decide (WV w))):=by
 refine Ev.x I.UJ rfl rfl ?_;repeat' (first|apply BP;omega|apply AE|refine D8 (MJ I _ _ _) (λhf=>?_) (λhf=>?_))<;>conv=>whnf
 all_goals (unfold WV;first|exact QE O'|exact MA O')
def JA:Int:=if WV w then -pw (w.b-1)else 0
def HK:Int:=if WV w then pw (w.b-1)-1 else 0
theorem yL(I:a8 L):Ev L 3 [.agg (HV w)] (.int .i64 (JA w)):=by
 refine Ev.x I.R9 rfl rfl ?_;by_cases hv:WV w;all_goals (
  have ij:=hv;unfold WV at ij;repeat' (first|apply BP;omega|refine H3 ?_ (λ_ _=>?_);omega|apply ZS|apply EC.neg;omega|apply AE|refine D8 (aI _ I) (λhf=>?_) (λhf=>?_))<;>conv=>whnf
  all_goals (first|contradiction|exact BM (by rw[JA,if_pos hv])|exact BM (by rw[JA,if_neg hv])))
theorem mR(I:a8 L):Ev L 4 [.agg (HV w)] (.int .i64 (HK w)):=by
 refine Ev.x I.R8 rfl rfl ?_;by_cases hv:WV w;all_goals (
  have ij:=hv;unfold WV at ij;repeat' (first|apply BP;omega|refine H3 ?_ (λ_ _=>?_);omega|apply ZS|apply AE|refine D8 (aI _ I) (λhf=>?_) (λhf=>?_))<;>conv=>whnf
  all_goals (first|contradiction|exact BM (by rw[HK,if_pos hv])|exact BM (by rw[HK,if_neg hv])))
theorem nH(I:a8 L):Ev L 12 [.agg (HV w)] (.int .i64 (JA w)):=by
 refine Ev.x I.UF rfl rfl ?_;by_cases hv:WV w;all_goals (
  have ij:=hv;unfold WV at ij;repeat' (first|apply BP;omega|refine H3 ?_ (λ_ _=>?_);omega|apply ZS|apply EC.neg;omega|apply B1;omega|apply AE|refine D8 (aJ _ I) (λhf=>?_) (λhf=>?_))<;>conv=>whnf
  all_goals (first|contradiction|exact BM (by rw[JA,if_pos hv])|exact BM (by rw[JA,if_neg hv])))
theorem nG(I:a8 L):Ev L 13 [.agg (HV w)] (.int .i64 (HK w)):=by
 refine Ev.x I.UD rfl rfl ?_;by_cases hv:WV w;all_goals (
  have ij:=hv;unfold WV at ij;repeat' (first|apply BP;omega|refine H3 ?_ (λ_ _=>?_);omega|apply ZS|apply B1;omega|apply AE|refine D8 (aJ _ I) (λhf=>?_) (λhf=>?_))<;>conv=>whnf
  all_goals (first|contradiction|exact BM (by rw[HK,if_pos hv])|exact BM (by rw[HK,if_neg hv])))
def FT(v:Int):Prop:=WV w/\JA w<=v/\v<=HK w
instance (v:Int):Decidable (FT w v) := by unfold FT; infer_instance
theorem VZ(I:a8 L)(v:Int):Ev L 5 [.agg (HV w),.int .i64 v] (.bool (decide (FT w v))):=by
 refine Ev.x I.R7 rfl rfl ?_;repeat' (first|apply AG<;>intro hc<;>try omega|apply AE|refine D8 (aI _ I) (λhf=>?_) (λhf=>?_)|refine AD (yL _ I) ?_|refine AD (mR _ I) ?_)<;>conv=>whnf
 all_goals (unfold FT;first|exact QE ⟨V',V',V'⟩|exact MA (by rintro⟨h1,h2,h3⟩;first|contradiction|omega))
theorem V5(I:a8 L)(v:Int):Ev L 14 [.agg (HV w),.int .i64 v] (.bool (decide (FT w v))):=by
 refine Ev.x I.UC rfl rfl ?_;repeat' (first|apply AE|refine D8 (aJ _ I) (λhf=>?_) (λhf=>?_)|refine D8 (MJ I _ _ _) (λhf=>?_) (λhf=>?_)|refine AD (nH _ I) ?_|refine AD (nG _ I) ?_)<;>conv=>whnf
 all_goals (unfold FT;first|exact QE ⟨V',V'⟩|exact MA (by rintro⟨h1,h2⟩;contradiction))
def XA(n v:Int):Int:=if 1<=n/\n<=62 then(if pw (n-1)<=v%pw n then v%pw n-pw n else v%pw n)else 0
theorem AiJ(I:a8 L)(n v:Int):Ev L 7 [.int .i64 n,.int .i64 v] (.int .i64 (XA n v)):=by
 refine Ev.x I.SE rfl rfl ?_;repeat' (first|apply AG<;>intro hc<;>try omega|apply BP;omega|refine H3 ?_ (λ_ _=>?_);omega|refine tY ?_ (λ_ _=>?_);omega|apply AE)<;>conv=>whnf
 all_goals (refine BM ?_;unfold XA;first|rw[if_neg O']|rw[if_pos O',if_pos O']|rw[if_pos O',if_neg O'])
theorem AjG(I:a8 L)(n v:Int):Ev L 15 [.int .i64 n,.int .i64 v] (.int .i64 (XA n v)):=by
 refine Ev.x I.UK rfl rfl ?_;by_cases hn:1<=n/\n<=62
 ·have h2:=iW hn.1
  have h3:=GQ (n-1);repeat' (first|apply AG<;>intro hc<;>try omega|apply AR;omega|apply BP;omega|refine H3 ?_ (λ_ _=>?_);omega|(refine IZ ?_ (λ_ _ _=>?_) (λ_ _ _ _=>?_);omega;all_goals try omega)|(refine KM ?_ ?_ (λ_=>?_) (λ_ _=>?_);omega;omega;all_goals try omega)|apply B1;omega|apply AE|refine D8 (MJ I _ _ _) (λhf=>?_) (λhf=>?_))<;>conv=>whnf
  all_goals (first|contradiction|(exfalso;omega)|skip)
  all_goals (refine BM ?_;unfold XA;rw[if_pos hn];first|(rw[if_pos O'];omega)|(rw[if_neg O'];omega)|(rw[if_pos O'])|(rw[if_neg O']))
 ·repeat' (first|refine H3 ?_ (λ_ _=>?_);omega|(refine IZ ?_ (λ_ _ _=>?_) (λ_ _ _ _=>?_);omega;all_goals try omega)|apply B1;omega|apply AE|refine D8 (MJ I _ _ _) (λhf=>?_) (λhf=>?_))<;>conv=>whnf
  all_goals (first|contradiction|(exfalso;omega)|skip)
  all_goals (refine BM ?_;unfold XA;rw[if_neg hn])
def Y3(v:Int):Int:=min (max v (JA w)) (HK w)
theorem AiH(I:a8 L)(v:Int):Ev L 8 [.agg (HV w),.int .i64 v] (.int .i64 (Y3 w v)):=by
 refine Ev.x I.SB rfl rfl ?_;repeat' (first|apply AG<;>intro hc<;>try omega|apply AE|refine AD (yL _ I) ?_|refine AD (mR _ I) ?_)<;>conv=>whnf
 all_goals (refine BM ?_;unfold Y3;omega)
theorem AjE(I:a8 L)(v:Int):Ev L 16 [.agg (HV w),.int .i64 v] (.int .i64 (Y3 w v)):=by
 refine Ev.x I.UH rfl rfl ?_;repeat' (first|apply AG<;>intro hc<;>try omega|apply AE|refine AD (nH _ I) ?_|refine AD (nG _ I) ?_)<;>conv=>whnf
 all_goals (refine BM ?_;unfold Y3;omega)
def WO(v:Int):Int:=if WV w then(if w.o=2 then XA w.b v else Y3 w v)else 0
theorem AiG(I:a8 L)(v:Int):Ev L 9 [.agg (HV w),.int .i64 v] (.int .i64 (WO w v)):=by
 refine Ev.x I.SA rfl rfl ?_;repeat' (first|apply AG<;>intro hc<;>try omega|apply AE|refine D8 (aI _ I) (λhf=>?_) (λhf=>?_)|refine AD (AiJ I _ _) ?_|refine AD (AiH _ I _) ?_)<;>conv=>whnf
 all_goals (refine BM ?_;unfold WO;first|rw[if_neg V']|rw[if_pos V',if_pos V']|rw[if_pos V',if_neg V'])
theorem AjD(I:a8 L)(v:Int):Ev L 17 [.agg (HV w),.int .i64 v] (.int .i64 (WO w v)):=by
 refine Ev.x I.UG rfl rfl ?_;repeat' (first|apply AG<;>intro hc<;>try omega|apply AE|refine D8 (aJ _ I) (λhf=>?_) (λhf=>?_)|refine AD (AjG I _ _) ?_|refine AD (AjE _ I _) ?_)<;>conv=>whnf
 all_goals (refine BM ?_;unfold WO;first|rw[if_neg V']|rw[if_pos V',if_pos V']|rw[if_pos V',if_neg V'])
def P8(v n r:Int):Int :=
 if 0<=n/\n<=62/\1<=r/\r<=3 then
  (if n=0 then v
   else if(r=2/\pw (n-1)<=v%pw n)\/(r=3/\v<0/\v%pw n≠0)then v/pw n+1 else v/pw n)
 else 0
theorem AiI(I:a8 L)(v n r:Int)(hv:C3 v):Ev L 6 [.int .i64 v,.int .i64 n,.int .i64 r] (.int .i64 (P8 v n r)):=by
 refine Ev.x I.SC rfl rfl ?_;unfold C3 at hv;by_cases hn:1<=n/\n<=62
 ·have h2:=iW hn.1
  have h3:=GQ (n-1);have h4:=xQ (m:=pw n) O' hv;have h5:=Akp (v:=v) h3;rw[<-h2]at h5;by_cases hr:1<=r/\r<=3
  ·rcases(O':r=1\/r=2\/r=3)with rfl|rfl|rfl
   all_goals (
    repeat' (first|apply AG<;>intro hc<;>try omega|apply A2;omega|apply AR;omega|apply BP;omega|apply uD;omega|refine H3 ?_ (λ_ _=>?_);omega|refine tY ?_ (λ_ _=>?_);omega|apply Ae6|apply AE|refine D8 (fO I _) (λhf=>?_) (λhf=>?_))<;>conv=>whnf
    all_goals (first|contradiction|(exfalso;omega)|skip))
   all_goals (
    refine BM ?_;unfold P8;rw[if_pos O',if_neg O'];first
     |(rw[if_pos O'];done)
     |(rw[if_neg O'];done)
     |(by_cases hc:pw (n-1)<=v%pw n
       ·rw[if_pos hc]at h5;rw[if_pos O',h5]
       ·rw[if_neg hc]at h5;rw[if_neg O',h5];omega))
  ·repeat' (first|apply AG<;>intro hc<;>try omega|apply AE|refine D8 (fO I _) (λhf=>?_) (λhf=>?_))<;>conv=>whnf
   all_goals (first|contradiction|(exfalso;omega)|skip)
   all_goals (refine BM ?_;unfold P8;rw[if_neg O'])
 ·by_cases hz:n=0
  ·subst hz
   repeat' (first|apply AG<;>intro hc<;>try omega|apply AE|refine D8 (fO I _) (λhf=>?_) (λhf=>?_))<;>conv=>whnf
   all_goals (first|contradiction|(exfalso;omega)|skip)
   all_goals (refine BM ?_;unfold P8;first|rw[if_pos O',if_pos rfl]|rw[if_neg O'])
  ·repeat' (first|apply AG<;>intro hc<;>try omega|apply AE)<;>conv=>whnf
   all_goals (first|contradiction|(exfalso;omega)|skip)
   all_goals (refine BM ?_;unfold P8;rw[if_neg O'])
theorem AjF(I:a8 L)(v n r:Int)(hv:C3 v):Ev L 18 [.int .i64 v,.int .i64 n,.int .i64 r] (.int .i64 (P8 v n r)):=by
 refine Ev.x I.UI rfl rfl ?_;unfold C3 at hv;by_cases hn:1<=n/\n<=62
 ·have h2:=iW hn.1
  have h3:=GQ (n-1);have h4:=xQ (m:=pw n) O' hv;repeat' (first|apply AG<;>intro hc<;>try omega|apply AR;omega|apply BP;omega|refine H3 ?_ (λ_ _=>?_);omega|(refine IZ ?_ (λ_ _ _=>?_) (λ_ _ _ _=>?_);omega;all_goals try omega)|(refine KM ?_ ?_ (λ_=>?_) (λ_ _=>?_);omega;omega;all_goals try omega)|apply B1;omega|apply AE|refine D8 (MJ I _ _ _) (λhf=>?_) (λhf=>?_))<;>conv=>whnf
  all_goals (first|(exfalso;omega)|skip)
  all_goals (refine BM ?_;unfold P8;first|rw[if_neg O']|(rw[if_pos O',if_neg O'];first|(rw[if_pos O'];omega)|(rw[if_neg O'];omega)|rw[if_pos O']|rw[if_neg O']))
 ·by_cases hz:n=0
  ·subst hz
   have h1:pw 0=1:=by unfold pw;rfl
   have h2:v/pw 0=v:=by rw[h1];omega
   have h3:v%pw 0=0:=by rw[h1];omega
   repeat' (first|apply AG<;>intro hc<;>try omega|apply BP;omega|refine H3 ?_ (λ_ _=>?_);omega|(refine IZ ?_ (λ_ _ _=>?_) (λ_ _ _ _=>?_);omega;all_goals try omega)|(refine KM ?_ ?_ (λ_=>?_) (λ_ _=>?_);omega;omega;all_goals try omega)|apply B1;omega|apply AE|refine D8 (MJ I _ _ _) (λhf=>?_) (λhf=>?_))<;>conv=>whnf
   all_goals (first|(exfalso;omega)|skip)
   all_goals (refine BM ?_;unfold P8;first|rw[if_neg O']|(rw[if_pos O',if_pos rfl];omega))
  ·repeat' (first|refine H3 ?_ (λ_ _=>?_);omega|(refine KM ?_ ?_ (λ_=>?_) (λ_ _=>?_);omega;omega;all_goals try omega)|apply B1;omega|apply AE|refine D8 (MJ I _ _ _) (λhf=>?_) (λhf=>?_))<;>conv=>whnf
   all_goals (first|(exfalso;omega)|skip)
   all_goals (refine BM ?_;unfold P8;rw[if_neg O'])
end Go.Eng

namespace Go.Eng
open F
attribute [local irreducible] AA AF AW AC AX AB AH pw
variable {L:Lib}
theorem CW{α:Type}{l:List α}{i:Nat}{e:α}(h:l[i]?=some e):l.drop i=e::l.drop (i+1):=by
 obtain⟨h1,h2⟩:=zS h;rw[yb h1,h2]
theorem ES{α:Type}{l:List α}{i:Nat}(h:l.length<=i):l.drop i=[]:=List.drop_eq_nil_of_le h
theorem fW(I:a8 L)(xs ys:List Int)(q1 q2:Bool)(hx:xs.length<9223372036854775808)(hy:ys.length<9223372036854775808):Ev L 20 [.sl q1 (xs.map AZ),.sl q2 (ys.map AZ)] (.bool (decide (xs=ys))):=by
 refine Ev.x I.PL rfl rfl ?_;repeat' (first|apply AG<;>intro hc<;>try omega|apply AP|apply AE)<;>conv=>whnf
 ·exact MA (by intro e;subst e;omega)
 ·have h:=hc
  refine C0 (λi=>xs.length-i) (λ(i:Nat)=>i<=xs.length/\(xs=ys↔xs.drop i=ys.drop i)) (λi=>[(5,.int .i64 i)]) (λ_=>[]) 0 ⟨O',Z'⟩ ?_;intro i ⟨p1,p2⟩ ih;repeat' (first|apply AG<;>intro hc<;>try omega|apply AR;omega|apply AP|refine IG ?_ (λ_=>rfl) (λe he=>?_);omega|apply AE)<;>conv=>whnf
  ·rename_i e1 h1
   refine MA ?_;rw[p2,CW h1,CW he];intro e;exact hc (List.cons.inj e).1
  ·rename_i e1 h1
   refine A9 [] E' (ih (i+1) O' ⟨O',?_⟩);rw[p2,CW h1,CW he,hc];simp
  ·refine QE ?_
   rw[p2,ES O',ES O']
theorem nI(I:a8 L)(w:Wd)(xs:List Int)(q:Bool)(hb:xs.length<9223372036854775808):Ev L 19 [.agg (HV w),.sl q (xs.map AZ)] (.bool (xs.all λv=>decide (FT w v))):=by
 refine Ev.x I.PM rfl rfl ?_;(repeat' (apply AE<;>conv=>whnf))
 refine C0 (λi=>xs.length-i) (λ(i:Nat)=>i<=xs.length/\(xs.drop i).all (λv=>decide (FT w v))=xs.all λv=>decide (FT w v)) (λi=>[(5,.int .i64 i)]) (λ_=>[]) 0 ⟨O',rfl⟩ ?_;intro i ⟨p1,p2⟩ ih;repeat' (first|apply AG<;>intro hc<;>try omega|apply AR;omega|apply AP|refine IG ?_ (λ_=>rfl) (λe he=>?_);omega|apply AE|refine D8 (V5 _ I _) (λhf=>?_) (λhf=>?_))<;>conv=>whnf
 ·rw[CW he,ya,decide_eq_true hf,La]at p2
  exact BC [] (ih (i+1) O' ⟨O',p2⟩)
 ·rw[CW he,ya,decide_eq_false hf,da]at p2
  exact EV p2
 ·rw[ES O']at p2
  exact EV p2
structure Nd where
 q:Bool
 ts:List (Int×Int)
abbrev NN(t:Int×Int):w_:=[.int .i64 t.1,.int .i64 t.2]
abbrev QT(n:Nd):w_:=[.sl n.q (n.ts.map NN)]
structure Nt where
 d:Wd
 c:Wd
 s:Int
 qn:Bool
 nodes:List Nd
 qx:Bool
 next:List Int
 out:Int
abbrev BX(n:Nt):w_:=[.int .i64 n.d.b,.int .i64 n.d.f,.int .i64 n.d.r,.int .i64 n.d.o,.int .i64 n.c.b,.int .i64 n.c.f,.int .i64 n.c.r,.int .i64 n.c.o,.int .i64 n.s,.sl n.qn (n.nodes.map QT),.sl n.qx (n.next.map AZ),.int .i64 n.out]
def H0(c:Wd)(s:Int)(k:Nat)(t:Int×Int):Bool:=decide (0<=t.1/\t.1<=s+k/\(t.2=pw c.f\/FT c t.2))
def GP(c:Wd)(s:Int):Nat->List Nd->Bool
 |_,[]=>true
 |k,n::l=>(decide (n.ts.length<=64)&&n.ts.all (H0 c s k))&&GP c s (k+1) l
def MZ(m:Int)(l:List Int):Bool:=l.all λk=>decide (0<=k/\k<=m)
def C6(n:Nt):Bool:=decide (WV n.d)&&decide (WV n.c)&&decide (0<=n.s/\n.s<=64/\n.nodes.length<=64/\(n.next.length:Int)=n.s)&&GP n.c n.s 0 n.nodes&&MZ (n.s+n.nodes.length) n.next&&decide (0<=n.out/\n.out<=n.s+n.nodes.length)
variable (n:Nt)
theorem CP:C6 n=true↔WV n.d/\WV n.c/\(0<=n.s/\n.s<=64/\n.nodes.length<=64/\(n.next.length:Int)=n.s)/\GP n.c n.s 0 n.nodes=true/\MZ (n.s+n.nodes.length) n.next=true/\0<=n.out/\n.out<=n.s+n.nodes.length:=by
 simp only[C6,za,decide_eq_true_eq,and_assoc]
theorem OJ{x:Bool}(h:¬x=true):false=x:=by simp at h;rw[h]
theorem xX{x:Bool}(h:x=true):true=x:=by rw[h]
theorem fR(I:a8 L)(J:k7 L):Ev L 21 [.agg (BX n)] (.bool (C6 n)):=by
 refine Ev.x J.K3 rfl rfl ?_;repeat' (first|apply AG<;>intro hc<;>try omega|apply AP|apply AE|refine D8 (aI ⟨_,_,_,_⟩ I) (λhf=>?_) (λhf=>?_))<;>conv=>whnf
 all_goals try (
  refine EV (OJ ?_);rw[CP];rintro⟨x1,x2,x3,_⟩
  first|contradiction|omega)
 rename_i h1 h3 h4 h5;have h2:=hf;have h6:=hc;have h1:WV n.d:=h1;have h2:WV n.c:=h2;have hw:=h2;unfold WV at hw;refine C0 (λi=>n.nodes.length-i) (λ(i:Nat)=>i<=n.nodes.length/\GP n.c n.s i (n.nodes.drop i)=GP n.c n.s 0 n.nodes) (λi=>[(45,.int .i64 i)]) (λ_=>[]) 0 ⟨O',rfl⟩ ?_;intro i ⟨p1,p2⟩ ih;repeat' (first|apply AG<;>intro hc<;>try omega|apply AR;omega|apply AP|refine IG ?_ (λ_=>rfl) (λe he=>?_);omega|apply AE)<;>conv=>whnf
 ·rename Nd=>nd
  have hnd:=he;rw[CW hnd,GP,decide_eq_false O']at p2;refine EV (OJ ?_);rw[CP,<-p2];simp
 ·rename Nd=>nd
  have hnd:=he;rw[CW hnd,GP,decide_eq_true O',La]at p2;refine C0 (λj=>nd.ts.length-j) (λ(j:Nat)=>j<=nd.ts.length/\(nd.ts.drop j).all (H0 n.c n.s i)=nd.ts.all (H0 n.c n.s i)) (λj=>[(57,.int .i64 j)]) (λ_=>[]) 0 ⟨O',rfl⟩ ?_;intro j ⟨r1,r2⟩ gi;repeat' (first|apply AG<;>intro hc<;>try omega|apply AR;omega|refine H3 ?_ (λ_ _=>?_);omega|refine IG ?_ (λ_=>rfl) (λe he=>?_);omega|apply AE|refine D8 (VZ ⟨_,_,_,_⟩ I _) (λhf=>?_) (λhf=>?_))<;>conv=>whnf
  all_goals try (
   have hb:H0 n.c n.s i e=false:=by
    simp only[H0,decide_eq_false_iff_not];intro hh;first|omega|exact absurd hh.2.2 (λhx=>hx.elim (λhx=>O') (λhx=>by contradiction))
   rw[CW he,ya,hb,da]at r2;rw[<-r2,da]at p2;refine EV (OJ ?_);rw[CP,<-p2];simp;done)
  all_goals try (
   have hb:H0 n.c n.s i e=true:=by
    simp only[H0,decide_eq_true_eq];exact⟨O',O',by first|exact Or.inr V'|exact Or.inl V'⟩
   rw[CW he,ya,hb,La]at r2;exact A9 [] E' (gi (j+1) O' ⟨O',r2⟩))
  rw[ES O']at r2;rw[<-r2,Fc,La]at p2;exact BC [] (ih (i+1) O' ⟨O',p2⟩)
 ·rw[ES O',GP]at p2
  refine C0 (λi=>n.next.length-i) (λ(i:Nat)=>i<=n.next.length/\MZ (n.s+n.nodes.length) (n.next.drop i)=MZ (n.s+n.nodes.length) n.next) (λi=>[(99,.int .i64 i)]) (λ_=>[]) 0 ⟨O',rfl⟩ ?_;intro k ⟨r1,r2⟩ Cs;repeat' (first|apply AG<;>intro hc<;>try omega|apply AR;omega|refine IG ?_ (λ_=>rfl) (λe he=>?_);omega|apply AE)<;>conv=>whnf
  all_goals try (
   have hb:decide (0<=e/\e<=n.s+n.nodes.length)=false:=by(rw[decide_eq_false_iff_not];omega)
   rw[CW he,MZ,ya,hb,da]at r2;refine EV (OJ ?_);rw[CP,<-r2];simp;done)
  all_goals try (
   have hb:decide (0<=e/\e<=n.s+n.nodes.length)=true:=by(rw[decide_eq_true_eq];omega)
   rw[CW he,MZ,ya,hb,La]at r2;exact A9 [] E' (Cs (k+1) O' ⟨O',r2⟩))
  all_goals (
   rw[ES O']at r2;first
    |(refine EV (xX ?_);rw[CP];exact⟨h1,h2,O',p2.symm,r2.symm,O',O'⟩)
    |refine EV (OJ ?_);rw[CP];omega)
end Go.Eng

namespace Go.Eng
open F
attribute [local irreducible] AA AF AW AC AX BS BR A5 AB AH pw
variable {L:Lib}
theorem Xo(n:Int):C3 (IntKind.i64.wrap n):=by
 unfold C3;rw[IntKind.wrap_i64];omega
def B6(v m:Int):Int:=if m<1 then 0 else v%m
theorem QX(W:w9 L)(v m:Int)(hv:C3 v)(hm:m<=9223372036854775807):Ev L 34 [.int .i64 v,.int .i64 m] (.int .i64 (B6 v m)):=by
 unfold C3 at hv;refine Ev.x W.U1 rfl rfl ?_;repeat' (first|apply AG<;>intro hc<;>try omega|apply AR;omega|(refine IZ ?_ (λ_ _ _=>?_) (λ_ _ _ _=>?_);omega;all_goals try omega)|apply AE)<;>conv=>whnf
 all_goals (refine BM ?_;unfold B6;first|rw[if_pos O']|rw[if_neg O'])
 all_goals omega
def GF(l:List Int)(i:Int):Int:=if 0<=i/\i<l.length then l.getD i.toNat 0 else 0
theorem fX(W:w9 L)(l:List Int)(q:Bool)(i:Int):Ev L 35 [.sl q (l.map AZ),.int .i64 i] (.int .i64 (GF l i)):=by
 refine Ev.x W.UY rfl rfl ?_;repeat' (first|apply AG<;>intro hc<;>try omega|apply AP|refine RR ?_ (λ_=>rfl) (λe he=>?_);omega|apply AE)<;>conv=>whnf
 all_goals (refine BM ?_;unfold GF;first|rw[if_neg O']|(rw[if_pos O',va,he];rfl))
theorem NI{v m:Int}(h:1<=m):0<=B6 v m/\B6 v m<m:=by
 unfold B6;rw[if_neg O'];exact⟨Ab _ O',Lb _ O'⟩
def UW(k least most above:Int):Wd :=
 let K:=B6 k 1099511627776
 let b:=least+K%(most-least+1)
 let K1:=K/(most-least+1)
 ⟨b,max (b-1-above-K1%2) 0,1+K1/2%3,1+K1/2/3%2⟩
theorem zZ(W:w9 L)(k least most above:Int)(hk:C3 k)(h1:1<=least/\least<=most/\most<=1000/\0<=above/\above<=1000):Ev L 36 [.int .i64 k,.int .i64 least,.int .i64 most,.int .i64 above] (.agg (HV (UW k least most above))):=by
 refine Ev.x W.U2 rfl rfl ?_;have hr:=NI (v:=k) (m:=1099511627776) O';have h3:0<=B6 k 1099511627776/(most-least+1):=Int.ediv_nonneg hr.1 O';have h4:B6 k 1099511627776/(most-least+1)<=B6 k 1099511627776:=Int.ediv_le_self _ hr.1;repeat' (first|apply AG<;>intro hc<;>try omega|apply AR;omega|apply BP;omega|(refine IZ ?_ (λ_ _ _=>?_) (λ_ _ _ _=>?_);omega;all_goals try omega)|(refine KM ?_ ?_ (λ_=>?_) (λ_ _=>?_);omega;omega;all_goals try omega)|apply AE|refine AD (QX W _ _ hk O') ?_)<;>conv=>whnf
 all_goals (
  refine AU ?_ (by simp[AY,BI]);simp only[UW,AV.agg.injEq,xd,AV.int.injEq,true_and,and_true];omega)
def I5(k:Int):Wd:=UW k 6 12 2
def EW(k:Int):Wd:=UW k 6 9 1
theorem Xj{k least most above:Int}(h:4<=least/\least<=most/\most<=24/\0<=above):WV (UW k least most above)/\least<=(UW k least most above).b/\(UW k least most above).b<=most:=by
 have hr:=NI (v:=k) (m:=1099511627776) O';have h1:0<=B6 k 1099511627776%(most-least+1):=Ab _ O';have h2:B6 k 1099511627776%(most-least+1)<most-least+1:=Lb _ O';simp only[WV,UW];generalize B6 k 1099511627776/(most-least+1)=d;omega
theorem wJ(k:Int):WV (I5 k)/\6<=(I5 k).b/\(I5 k).b<=12:=Xj O'
theorem vV(k:Int):WV (EW k)/\6<=(EW k).b/\(EW k).b<=9:=Xj O'
theorem AjQ(W:w9 L)(k:Int)(hk:C3 k):Ev L 37 [.int .i64 k] (.agg (HV (I5 k))):=by
 refine Ev.x W.U0 rfl rfl ?_;repeat' (first|apply AE|refine AD (zZ W _ _ _ _ hk O') ?_)<;>conv=>whnf
 exact AU rfl (by simp[AY,BI])
theorem AjP(W:w9 L)(k:Int)(hk:C3 k):Ev L 38 [.int .i64 k] (.agg (HV (EW k))):=by
 refine Ev.x W.UZ rfl rfl ?_;repeat' (first|apply AE|refine AD (zZ W _ _ _ _ hk O') ?_)<;>conv=>whnf
 exact AU rfl (by simp[AY,BI])
def ZD(w:Wd)(v:Int):Int:=JA w+B6 (IntKind.i64.wrap (v-JA w)) (HK w-JA w+1)
def UX(w:Wd)(l:List Int)(n:Nat):List Int:=(Nb n).map λi:Nat=>ZD w (GF l (i:Int))
theorem Q5{w:Wd}(h:WV w):JA w = -pw (w.b-1)/\HK w=pw (w.b-1)-1/\1<=pw (w.b-1)/\pw (w.b-1)<=8388608:=by
 have h':=h;unfold WV at h';refine⟨by rw[JA,if_pos h],by rw[HK,if_pos h],GQ _,?_⟩;have:=RC (n:=w.b-1) (m:=23) O'
 have e:pw 23=8388608:=by unfold pw;rfl
 omega
theorem AnZ{w:Wd}(h:WV w)(v:Int):FT w (ZD w v):=by
 obtain⟨h1,h2,h3,h4⟩:=Q5 h;have:=NI (v:=IntKind.i64.wrap (v-JA w)) (m:=HK w-JA w+1) O'
 exact⟨h,by unfold ZD;omega,by unfold ZD;omega⟩
theorem bV{α:Type}(f:Nat->α)(n:Nat):(Nb (n+1)).map f=(Nb n).map f++[f n]:=by rw[yf,List.map_append];rfl
theorem AjS(I:a8 L)(W:w9 L)(w:Wd)(hw:WV w)(l:List Int)(q:Bool)(n:Nat)(hn:n<=1000000):Ev L 39 [.agg (HV w),.sl q (l.map AZ),.int .i64 n] (.sl false ((UX w l n).map AZ)):=by
 obtain⟨h1,h2,h3,h4⟩:=Q5 hw;refine Ev.x W.QC rfl rfl ?_;(repeat' (apply AE<;>conv=>whnf))
 refine DT (λi _=>n-i) (λ(i:Nat)(o:List Int)=>i<=n/\o.length=i/\o=UX w l i) (λi o=>[(7,.row 7 0 1 0 o.length),(8,.int .i64 i)]) (λi o=>[(7,7,.rw 1 (o.map AZ))]) 0 [] ⟨O',rfl,rfl⟩ ?_;intro i o ⟨p1,p2,p3⟩ ih;have hr:=NI (v:=IntKind.i64.wrap (GF l i-JA w)) (m:=HK w-JA w+1) O';repeat' (first|apply AG<;>intro hc<;>try omega|apply AR;omega|apply BP;omega|apply ZS|(refine CR (λ_=>rfl) rfl ?_ ?_;(first|rfl|simp))|apply CI|apply AE|refine AD (nH w I) ?_|refine AD (nG w I) ?_|refine AD (fX W l _ _) ?_|refine AD (QX W _ _ (Xo _) O') ?_)<;>conv=>whnf
 ·refine C1 (enc:=AZ) _ rfl rfl rfl O' O' ?_
  (conv=>whnf)
  repeat' (first|apply AR;omega|fail)<;>conv=>whnf
  refine A9 [(7,32)] E' (ih (i+1) _ O' ⟨O',by simp[p2],?_⟩);rw[UX,bV,p3];rfl
 ·have:i=n:=O'
  subst this;exact AU (by rw[p3]) (by simp[AY,KO])
end Go.Eng

namespace Go.Eng
open F
attribute [local irreducible] AA AF AW AC AX BD BG CM BS BR A5 AB AH pw
variable {L:Lib} (n:Nt)
theorem V6(I:a8 L)(J:k7 L):Ev L 27 [.agg (BX n)] (.bool (C6 n)):=by
 refine Ev.x J.K9 rfl rfl ?_;repeat' (first|apply AG<;>intro hc<;>try omega|apply AP|apply AE|refine D8 (aJ ⟨_,_,_,_⟩ I) (λhf=>?_) (λhf=>?_)|refine D8 (MJ I _ _ _) (λhf=>?_) (λhf=>?_))<;>conv=>whnf
 all_goals try (
  refine EV (OJ ?_);rw[CP];rintro⟨x1,x2,x3,_⟩
  first|contradiction|omega)
 rename_i h1 h2 h5;have h3:=hf;have h6:=hc;have h1:WV n.d:=h1;have h2:WV n.c:=h2;have hw:=h2;unfold WV at hw;refine C0 (λi=>n.nodes.length-i) (λ(i:Nat)=>i<=n.nodes.length/\GP n.c n.s i (n.nodes.drop i)=GP n.c n.s 0 n.nodes) (λi=>[(3,.int .i64 i)]) (λ_=>[]) 0 ⟨O',rfl⟩ ?_;intro i ⟨p1,p2⟩ ih;repeat' (first|apply AG<;>intro hc<;>try omega|apply AR;omega|apply AP|refine IG ?_ (λ_=>rfl) (λe he=>?_);omega|apply AE)<;>conv=>whnf
 ·rename Nd=>nd
  have hnd:=he;rw[CW hnd,GP,decide_eq_false O']at p2;refine EV (OJ ?_);rw[CP,<-p2];simp
 ·rename Nd=>nd
  have hnd:=he;rw[CW hnd,GP,decide_eq_true O',La]at p2;refine C0 (λj=>nd.ts.length-j) (λ(j:Nat)=>j<=nd.ts.length/\(nd.ts.drop j).all (H0 n.c n.s i)=nd.ts.all (H0 n.c n.s i)) (λj=>[(4,.int .i64 j)]) (λ_=>[]) 0 ⟨O',rfl⟩ ?_;intro j ⟨r1,r2⟩ gi;repeat' (first|apply AG<;>intro hc<;>try omega|apply AR;omega|refine H3 ?_ (λ_ _=>?_);omega|apply B1;omega|apply AP|refine A3 V' ?_ rfl ?_;omega|refine IG ?_ (λ_=>rfl) (λe he=>?_);omega|apply AE|refine D8 (V5 ⟨_,_,_,_⟩ I _) (λhf=>?_) (λhf=>?_)|refine D8 (MJ I _ _ _) (λhf=>?_) (λhf=>?_))<;>conv=>whnf
  all_goals try (
   have hb:H0 n.c n.s i e=false:=by
    simp only[H0,decide_eq_false_iff_not];intro hh;first|omega|exact absurd hh.2.2 (λhx=>hx.elim (λhx=>O') (λhx=>by contradiction))
   rw[CW he,ya,hb,da]at r2;rw[<-r2,da]at p2;refine EV (OJ ?_);rw[CP,<-p2];simp;done)
  all_goals try (
   have hb:H0 n.c n.s i e=true:=by
    simp only[H0,decide_eq_true_eq];exact⟨O',O',by first|exact Or.inr V'|exact Or.inl V'⟩
   rw[CW he,ya,hb,La]at r2;exact A9 [] E' (gi (j+1) O' ⟨O',r2⟩))
  rw[ES O']at r2;rw[<-r2,Fc,La]at p2;exact BC [] (ih (i+1) O' ⟨O',p2⟩)
 ·rw[ES O',GP]at p2
  refine C0 (λi=>n.next.length-i) (λ(i:Nat)=>i<=n.next.length/\MZ (n.s+n.nodes.length) (n.next.drop i)=MZ (n.s+n.nodes.length) n.next) (λi=>[(7,.int .i64 i)]) (λ_=>[]) 0 ⟨O',rfl⟩ ?_;intro k ⟨r1,r2⟩ Cs;repeat' (first|apply AG<;>intro hc<;>try omega|apply AR;omega|refine IG ?_ (λ_=>rfl) (λe he=>?_);omega|apply AE|refine D8 (MJ I _ _ _) (λhf=>?_) (λhf=>?_))<;>conv=>whnf
  all_goals try (
   have hb:decide (0<=e/\e<=n.s+n.nodes.length)=false:=by(rw[decide_eq_false_iff_not];omega)
   rw[CW he,MZ,ya,hb,da]at r2;refine EV (OJ ?_);rw[CP,<-r2];simp;done)
  all_goals try (
   have hb:decide (0<=e/\e<=n.s+n.nodes.length)=true:=by(rw[decide_eq_true_eq];omega)
   rw[CW he,MZ,ya,hb,La]at r2;exact A9 [] E' (Cs (k+1) O' ⟨O',r2⟩))
  all_goals (
   rw[ES O']at r2;first
    |(refine EV (xX ?_);rw[CP];exact⟨h1,h2,O',p2.symm,r2.symm,O',O'⟩)
    |refine EV (OJ ?_);rw[CP];omega)
def DF(w:Wd)(l:List Int):Bool:=l.all λv=>decide (FT w v)
def FN(st ins:List Int):Int:=if(st.length:Int)≠n.s then 1 else if DF n.d st&&DF n.d ins then 0 else 17
theorem Ai5(I:a8 L)(J:k7 L)(st ins:List Int)(q1 q2:Bool)(hn:st.length<9223372036854775808)(hm:ins.length<9223372036854775808):Ev L 22 [.agg (BX n),.sl q1 (st.map AZ),.sl q2 (ins.map AZ)] (.int .i64 (FN n st ins)):=by
 refine Ev.x J.MY rfl rfl ?_;repeat' (first|apply AG<;>intro hc<;>try omega|apply AP|apply AE)<;>conv=>whnf
 ·exact BM (by rw[FN,if_pos hc])
 have h0:=hc;refine C0 (λi=>st.length-i) (λ(i:Nat)=>i<=st.length/\DF n.d (st.drop i)=DF n.d st) (λi=>[(18,.int .i64 i)]) (λ_=>[]) 0 ⟨O',rfl⟩ ?_;intro i ⟨p1,p2⟩ ih;repeat' (first|apply AG<;>intro hc<;>try omega|apply AR;omega|apply AP|refine IG ?_ (λ_=>rfl) (λe he=>?_);omega|apply AE|refine D8 (VZ ⟨_,_,_,_⟩ I _) (λhf=>?_) (λhf=>?_))<;>conv=>whnf
 ·rw[CW he,DF,ya,decide_eq_true hf,La]at p2
  exact BC [] (ih (i+1) O' ⟨O',p2⟩)
 ·rw[CW he,DF,ya,decide_eq_false hf,da]at p2
  exact BM (by rw[FN,if_neg O',<-p2];simp)
 ·rw[ES O']at p2
  refine C0 (λi=>ins.length-i) (λ(i:Nat)=>i<=ins.length/\DF n.d (ins.drop i)=DF n.d ins) (λi=>[(30,.int .i64 i)]) (λ_=>[]) 0 ⟨O',rfl⟩ ?_;intro j ⟨r1,r2⟩ gi;repeat' (first|apply AG<;>intro hc<;>try omega|apply AR;omega|refine IG ?_ (λ_=>rfl) (λe he=>?_);omega|apply AE|refine D8 (VZ ⟨_,_,_,_⟩ I _) (λhf=>?_) (λhf=>?_))<;>conv=>whnf
  ·rw[CW he,DF,ya,decide_eq_true hf,La]at r2
   exact A9 [] E' (gi (j+1) O' ⟨O',r2⟩)
  ·rw[CW he,DF,ya,decide_eq_false hf,da]at r2
   exact BM (by rw[FN,if_neg O',<-r2];simp)
  ·rw[ES O']at r2
   exact BM (by rw[FN,if_neg O',<-r2,<-p2];rfl)
def LG(vals:List Int):Int->List (Int×Int)->Int
 |acc,[]=>acc
 |acc,t::ts=>LG vals (IntKind.i64.wrap (acc+IntKind.i64.wrap (t.2*vals.getD t.1.toNat 0))) ts
theorem sN(vals:List Int):∀(ts:List (Int×Int))(acc:Int),C3 acc->C3 (LG vals acc ts)
 |[],acc,h=>h
 |t::ts,acc,_=>sN vals ts _ (Xo _)
def YT(vals:List Int)(nd:Nd):Int:=P8 (LG vals 0 nd.ts) n.c.f n.d.r
def FS:List Int->Bool->List Nd->List Int×Bool
 |vals,ov,[]=>(vals,ov)
 |vals,ov,nd::l=>FS (vals++[WO n.d (YT n vals nd)]) (ov || !decide (FT n.d (YT n vals nd))) l
theorem Sg{vals:List Int}{i:Nat}{nd:Nd}(h:nd.ts.all (H0 n.c n.s i)=true)(hl:(vals.length:Int)=1+n.s+i):∀t∈nd.ts,0<=t.1/\t.1<vals.length:=λt ht=>by
 have:=ea.1 h t ht
 simp only[H0,decide_eq_true_eq]at this;omega
theorem Ai3(I:a8 L)(J:k7 L)(st:List Int)(q1:Bool)(input:Int)(hv:C6 n=true)(o4:(st.length:Int)=n.s):Ev L 23 [.agg (BX n),.sl q1 (st.map AZ),.int .i64 input] (.j4 [.sl false ((FS n (input::st) false n.nodes).1.map AZ),.bool (FS n (input::st) false n.nodes).2]):=by
 rw[CP]at hv;obtain⟨h1,h2,h3,h4,h5,h6⟩:=hv;refine Ev.x J.MX rfl rfl ?_;repeat' (first|apply AR;omega|apply AP|apply AE)<;>conv=>whnf
 refine E6 (enc:=AZ) 0 0 rfl rfl O' ?_;conv=>whnf
 (repeat' (apply CI<;>conv=>whnf))
 refine C1 (enc:=AZ) (l:=[]) input rfl rfl rfl Z' Z' ?_;conv=>whnf
 refine XF (enc:=AZ) rfl (λ_=>rfl) K' K' ?_;conv=>whnf
 (repeat' (apply AP<;>conv=>whnf))
 refine FP (λi _ _=>n.nodes.length-i) (λ(i:Nat)(vals:List Int)(ov:Bool)=>i<=n.nodes.length/\(vals.length:Int)=1+n.s+i/\GP n.c n.s i (n.nodes.drop i)=true/\FS n vals ov (n.nodes.drop i)=FS n (input::st) false n.nodes) (λi vals ov=>[(8,.row 30 0 1 0 vals.length),(9,.bool ov),(34,.int .i64 i)]) (λi vals ov=>[(30,23,.rw 1 (vals.map AZ))]) 0 (input::st) false ⟨Z',by simp;omega,h4,rfl⟩ ?_;intro i vals ov ⟨p1,p2,p3,p4⟩ ih;repeat' (first|apply AG<;>intro hc<;>try omega|apply AP|refine IG ?_ (λ_=>rfl) (λe he=>?_);omega|(refine CR (λ_=>rfl) rfl ?_ ?_;(first|rfl|simp))|apply AE)<;>conv=>whnf
 ·rename Nd=>nd
  have hnd:=he;rw[CW hnd]at p3 p4;simp only[GP,za,decide_eq_true_eq]at p3;obtain⟨⟨hnt,lu⟩,Js⟩:=p3;have hf:=Sg n lu p2;have hI:C3 (LG vals 0 nd.ts):=sN vals _ _ (by unfold C3;omega);refine DT (λj _=>nd.ts.length-j) (λ(j:Nat)(acc:Int)=>j<=nd.ts.length/\LG vals acc (nd.ts.drop j)=LG vals 0 nd.ts) (λj acc=>[(12,.int .i64 acc),(41,.int .i64 j)]) (λ_ _=>[]) 0 0 ⟨Z',rfl⟩ ?_;intro j acc ⟨r1,r2⟩ gi;repeat' (first|apply AG<;>intro hc<;>try omega|refine IG ?_ (λ_=>rfl) (λe he=>?_);omega|apply AE)<;>conv=>whnf
  ·have:=hf e (zM he)
   repeat' (first|apply A2;omega|apply AR;omega|apply kO|apply uF|refine kJ ?_ (λ_=>rfl) (λv hv=>?_);omega)<;>conv=>whnf
   rw[CW he,LG]at r2;refine A9 [] E' (gi (j+1) _ O' ⟨O',?_⟩);rw[<-r2,va,hv];rfl
  ·rw[ES O',LG]at r2
   subst r2;cases ov;all_goals repeat' (first|apply CI|refine D8 (VZ ⟨_,_,_,_⟩ I _) (λhf=>?_) (λhf=>?_)|refine AD (AiI I _ _ _ hI) ?_|refine AD (AiG ⟨_,_,_,_⟩ I _) ?_)<;>conv=>whnf
   all_goals (
    refine C1 (enc:=AZ) _ rfl rfl rfl O' O' ?_;conv=>whnf
    repeat' (first|apply AR;omega|fail)<;>conv=>whnf
    refine A9 [(30,78)] E' (ih (i+1) _ _ O' ⟨O',by simp;omega,Js,?_⟩);rw[<-p4,FS];first|rfl|(have hf:FT n.d (YT n vals nd):=hf;rw[decide_eq_true hf];rfl)|(have hf:¬FT n.d (YT n vals nd):=hf;rw[decide_eq_false hf];rfl))
 ·rw[ES O',FS]at p4
  rw[<-p4];exact AU rfl (by simp[AY,BI,KO])
theorem AjI(J:k7 L)(nd:Nd)(vals:List Int)(q:Bool)(hnt:nd.ts.length<=64)(hf:∀t∈nd.ts,0<=t.1/\t.1<vals.length):Ev L 28 [.agg (QT nd),.sl q (vals.map AZ)] (.int .i64 (LG vals 0 nd.ts)):=by
 refine Ev.x J.PT rfl rfl ?_;(repeat' (apply AE<;>conv=>whnf))
 refine DT (λj _=>nd.ts.length-j) (λ(j:Nat)(acc:Int)=>j<=nd.ts.length/\LG vals acc (nd.ts.drop j)=LG vals 0 nd.ts) (λj acc=>[(5,.int .i64 acc),(6,.int .i64 j)]) (λ_ _=>[]) 0 0 ⟨Z',rfl⟩ ?_;intro j acc ⟨r1,r2⟩ gi;repeat' (first|apply AG<;>intro hc<;>try omega|apply AP|refine A3 V' ?_ rfl ?_;omega|refine IG ?_ (λ_=>rfl) (λe he=>?_);omega|apply AE)<;>conv=>whnf
 ·have:=hf e (zM he)
  repeat' (first|apply AR;omega|apply kO|apply uF|refine RR ?_ (λ_=>rfl) (λe he=>?_);omega)<;>conv=>whnf
  rename_i t ht;rw[CW ht,LG]at r2;refine A9 [] E' (gi (j+1) _ O' ⟨O',?_⟩);rw[<-r2,va,he];rfl
 ·rw[ES O',LG]at r2
  exact BM r2
def E9(st:List Int)(x:Int):List Int×Bool×Int :=
 if C6 n then(if FN n st [x]=0 then((FS n (x::st) false n.nodes).1,(FS n (x::st) false n.nodes).2,0)else([],false,FN n st [x]))else([],false,2)
theorem sX{st:List Int}{x:Int}(h:C6 n=false):E9 n st x=([],false,2):=by rw[E9,h];rfl
theorem ZF{st:List Int}{x:Int}(h:C6 n=true)(h':FN n st [x]≠0):E9 n st x=([],false,FN n st [x]):=by rw[E9,if_pos h,if_neg h']
theorem cR{st:List Int}{x:Int}(h:C6 n=true)(h':FN n st [x]=0):E9 n st x=((FS n (x::st) false n.nodes).1,(FS n (x::st) false n.nodes).2,0):=by rw[E9,if_pos h,if_pos h']
theorem tA{st ins:List Int}(h:FN n st ins=0):(st.length:Int)=n.s:=by
 unfold FN at h;split at h
 ·cases h
 ·omega
theorem Ai2(I:a8 L)(J:k7 L)(st:List Int)(q1:Bool)(x:Int)(hn:st.length<9223372036854775808):Ev L 24 [.agg (BX n),.sl q1 (st.map AZ),.int .i64 x] (.j4 [.sl false ((E9 n st x).1.map AZ),.bool (E9 n st x).2.1,.int .i64 (E9 n st x).2.2]):=by
 refine Ev.x J.S5 rfl rfl ?_;repeat' (first|apply AG<;>intro hc<;>try omega|refine JF rfl ?_|apply AE|refine ZL (fR n I J) (λhf=>?_) (λhf=>?_)|refine AD (Ai5 n I J st [x] _ _ hn Z') ?_)<;>conv=>whnf
 ·rw[ZF n hf hc]
  exact AU rfl (by simp[AY,BI,DB])
 ·rw[cR n hf hc]
  (repeat' (refine AD (Ai3 n I J st _ _ hf (tA n hc)) ?_<;>conv=>whnf))
  exact AU rfl (by simp[AY,BI,KO])
 ·rw[sX n hf]
  exact AU rfl (by simp[AY,BI,DB])
theorem AjH(I:a8 L)(J:k7 L)(st:List Int)(q1:Bool)(x:Int)(hn:st.length<9223372036854775808):Ev L 29 [.agg (BX n),.sl q1 (st.map AZ),.int .i64 x] (.j4 [.sl false ((E9 n st x).1.map AZ),.bool (E9 n st x).2.1,.int .i64 (E9 n st x).2.2]):=by
 refine Ev.x J.PR rfl rfl ?_;repeat' (first|apply AG<;>intro hc<;>try omega|apply AP|apply AE|refine ZL (V6 n I J) (λhf=>?_) (λhf=>?_)|refine ZL (nI I n.d _ _ hn) (λhf=>?_) (λhf=>?_)|refine D8 (V5 n.d I _) (λhf=>?_) (λhf=>?_))<;>conv=>whnf
 ·have:FN n st [x]=1:=by rw[FN,if_pos hc]
  rw[ZF n hf O',this];exact AU rfl (by simp[AY,BI,DB])
 ·rename_i h1 h2
  have hw:FN n st [x]=0:=by
   rw[FN,if_neg O',if_pos];simp only[DF,h2,ya,decide_eq_true hf,Fc,Bool.and_self]
  rw[cR n h1 hw];rw[CP]at h1;obtain⟨g1,g2,g3,g4,g5,g6⟩:=h1;refine XF (enc:=AZ) (l:=[x]) rfl (λ_=>rfl) K' K' ?_;conv=>whnf
  skip
  refine FP (λi _ _=>n.nodes.length-i) (λ(i:Nat)(vals:List Int)(ov:Bool)=>i<=n.nodes.length/\(vals.length:Int)=1+n.s+i/\GP n.c n.s i (n.nodes.drop i)=true/\FS n vals ov (n.nodes.drop i)=FS n (x::st) false n.nodes) (λi vals ov=>[(9,.row 39 0 1 0 vals.length),(10,.bool ov),(11,.int .i64 i)]) (λi vals ov=>[(39,37,.rw 1 (vals.map AZ))]) 0 (x::st) false ⟨Z',by simp;omega,g4,rfl⟩ ?_;intro i vals ov ⟨p1,p2,p3,p4⟩ ih;have key:∀nd,n.nodes[i]?=some nd->nd.ts.length<=64/\(∀t∈nd.ts,0<=t.1/\t.1<vals.length)/\GP n.c n.s (i+1) (n.nodes.drop (i+1))=true/\C3 (LG vals 0 nd.ts):=by
   intro nd hnd;rw[CW hnd]at p3;simp only[GP,za,decide_eq_true_eq]at p3;exact⟨p3.1.1,Sg n p3.1.2 p2,p3.2,sN vals _ _ (by unfold C3;omega)⟩
  cases ov;all_goals repeat' (first|apply AG<;>intro hc<;>try omega|apply AP|refine IG ?_ (λ_=>rfl) (λe he=>?_);omega|(refine CR (λ_=>rfl) rfl ?_ ?_;(first|rfl|simp))|apply CI|apply AE|refine D8 (V5 n.d I _) (λhf=>?_) (λhf=>?_)|refine AD (AjI J _ vals _ (key _ he).1 (key _ he).2.1) ?_|refine AD (AjF I _ _ _ (key _ he).2.2.2) ?_|refine AD (AjD n.d I _) ?_)<;>conv=>whnf
  all_goals try (
   refine C1 (enc:=AZ) _ rfl rfl rfl O' O' ?_;conv=>whnf
   repeat' (first|apply AR;omega|fail)<;>conv=>whnf
   refine A9 [(39,75)] E' (ih (i+1) _ _ O' ⟨O',by simp;omega,(key _ he).2.2.1,?_⟩);rw[CW he]at p4;rw[<-p4,FS];first|rfl|(have hf:FT n.d (YT n vals e):=hf;rw[decide_eq_true hf];rfl)|(have hf:¬FT n.d (YT n vals e):=hf;rw[decide_eq_false hf];rfl))
  all_goals (
   rw[ES O',FS]at p4;rw[<-p4];exact AU rfl (by simp[AY,BI,KO]))
 ·rename_i h1 h2
  have hw:FN n st [x]=17:=by
   rw[FN,if_neg O',if_neg];simp only[DF,h2,ya,decide_eq_false hf,da,Bool.and_false];simp
  rw[ZF n h1 O',hw];exact AU rfl (by simp[AY,BI,DB])
 ·rename_i h1
  have hw:FN n st [x]=17:=by
   rw[FN,if_neg O',if_neg];simp only[DF,hf,da];simp
  rw[ZF n h1 O',hw];exact AU rfl (by simp[AY,BI,DB])
 ·rw[sX n hf]
  exact AU rfl (by simp[AY,BI,DB])
theorem gB{α:Type}{o F:List α}{i:Nat}{v:α}(hl:o.length=F.length)(h:o.take i=F.take i)(hv:F[i]?=some v):(o.set i v).length=F.length/\(o.set i v).take (i+1)=F.take (i+1):=by
 obtain⟨hi,rfl⟩:=zS hv;refine⟨by simp[hl],?_⟩;rw[ja,ja,<-h];congr 1
 ·rw[List.take_set_of_le (ka i)]
 ·rw[hv];simp[hl,hi]
theorem gA{α:Type}{o F:List α}{i:Nat}(hl:o.length=F.length)(h:o.take i=F.take i)(hi:F.length<=i):o=F:=by
 rwa [zT O',zT hi]at h
def H6(vals:List Int):List Int:=n.next.map λk=>vals.getD k.toNat 0
theorem Ai4(J:k7 L)(vals:List Int)(q:Bool)(hv:C6 n=true)(hl:(vals.length:Int)=1+n.s+n.nodes.length):Ev L 25 [.agg (BX n),.sl q (vals.map AZ)] (.sl false ((H6 n vals).map AZ)):=by
 rw[CP]at hv;obtain⟨h1,h2,h3,h4,h5,h6⟩:=hv;refine Ev.x J.OY rfl rfl ?_;(repeat' (apply AE<;>conv=>whnf))
 refine Ae5 (enc:=AZ) 0 rfl O' O' ?_;conv=>whnf
 (repeat' (apply AP<;>conv=>whnf))
 have hF:(H6 n vals).length=n.next.length:=by simp[H6]
 refine ZI (λi _=>n.next.length-i) (λ(i:Nat)(o:List Int)=>i<=n.next.length/\o.length=(H6 n vals).length/\o.take i=(H6 n vals).take i) (λi o=>[(5,.row 10 0 1 0 o.length),(14,.int .i64 i)]) (λi o=>[(10,10,.rw 1 (o.map AZ))]) [] [] 0 (na n.s.toNat 0) (by rw[mb];exact E') ⟨Z',by simp[hF];omega,Z'⟩ ?_;intro i o ⟨p1,p2,p3⟩ ih;repeat' (first|apply AG<;>intro hc<;>try omega|refine IG ?_ (λ_=>rfl) (λe he=>?_);omega|(refine CR (λ_=>rfl) rfl ?_ ?_;(first|rfl|simp))|apply AE)<;>conv=>whnf
 ·have hb:=ea.1 h5 _ (zM he)
  simp only[decide_eq_true_eq]at hb;repeat' (first|apply A2;omega|refine RR ?_ (λ_=>rfl) (λe he=>?_);omega)<;>conv=>whnf
  rename_i kk hk;have Ky:(H6 n vals)[i]?=some e:=by
   simp only[H6,ub,hk,zb,va,he,uc]
  obtain⟨f1,f2⟩:=gB p2 p3 Ky;refine HS (enc:=AZ) e rfl (λ_=>rfl) O' ?_;conv=>whnf
  repeat' (first|apply AR;omega|fail)<;>conv=>whnf
  exact A9 [] (by rw[nb];exact E') (ih (i+1) (o.set i e) O' ⟨O',f1,f2⟩)
 ·exact AU (by rw[gA p2 p3 O']) (by simp[AY,KO])
theorem lO:∀(l:List Nd)(vals:List Int)(ov:Bool),(FS n vals ov l).1.length=vals.length+l.length
 |[],vals,ov=>rfl
 |nd::l,vals,ov=>by rw[FS,lO l];simp;omega
def ID(st:List Int)(x:Int):List Int×Int×Bool×Int :=
 if(E9 n st x).2.2=0 then(H6 n (E9 n st x).1,(E9 n st x).1.getD n.out.toNat 0,(E9 n st x).2.1,0)else([],0,false,(E9 n st x).2.2)
theorem sW{st:List Int}{x:Int}(h:(E9 n st x).2.2=0):C6 n=true/\((E9 n st x).1.length:Int)=1+n.s+n.nodes.length:=by
 cases hn:C6 n
 ·rw[sX n hn]at h;cases h
 ·refine⟨rfl,?_⟩
  by_cases hw:FN n st [x]=0
  ·rw[cR n hn hw,lO]
   have:=tA n hw
   simp;omega
  ·rw[ZF n hn hw]at h;exact absurd h hw
theorem sI{st:List Int}{x:Int}(h:(E9 n st x).2.2≠0):ID n st x=([],0,false,(E9 n st x).2.2):=by rw[ID,if_neg h]
theorem sJ{st:List Int}{x:Int}(h:(E9 n st x).2.2=0):ID n st x=(H6 n (E9 n st x).1,(E9 n st x).1.getD n.out.toNat 0,(E9 n st x).2.1,0):=by rw[ID,if_pos h]
theorem gE{l:List Int}{i:Nat}{e:Int}(h:l[i]?=some e):l.getD i 0=e:=by rw[va,h];rfl
theorem yW(I:a8 L)(J:k7 L)(st:List Int)(q1:Bool)(x:Int)(hn:st.length<9223372036854775808):Ev L 26 [.agg (BX n),.sl q1 (st.map AZ),.int .i64 x] (.j4 [.sl false ((ID n st x).1.map AZ),.int .i64 (ID n st x).2.1,.bool (ID n st x).2.2.1,.int .i64 (ID n st x).2.2.2]):=by
 refine Ev.x J.S4 rfl rfl ?_;repeat' (first|apply AG<;>intro hc<;>try omega|apply AE|refine AD (Ai2 n I J st q1 x hn) ?_)<;>conv=>whnf
 ·rw[sI n hc]
  exact AU rfl (by simp[AY,BI,DB])
 ·rw[sJ n hc]
  obtain⟨g1,g2⟩:=sW n hc;have Ko:=(CP n).1 g1;obtain⟨_,_,g3,_,_,g4⟩:=Ko;repeat' (first|refine RR ?_ (λ_=>rfl) (λe he=>?_);omega|refine AD (Ai4 n J _ _ g1 g2) ?_)<;>conv=>whnf
  rw[gE he];exact AU rfl (by simp[AY,BI,KO])
theorem zW(I:a8 L)(J:k7 L)(st:List Int)(q1:Bool)(x:Int)(hn:st.length<9223372036854775808):Ev L 30 [.agg (BX n),.sl q1 (st.map AZ),.int .i64 x] (.j4 [.sl false ((ID n st x).1.map AZ),.int .i64 (ID n st x).2.1,.bool (ID n st x).2.2.1,.int .i64 (ID n st x).2.2.2]):=by
 refine Ev.x J.PP rfl rfl ?_;repeat' (first|apply AG<;>intro hc<;>try omega|apply AE|refine AD (AjH n I J st q1 x hn) ?_)<;>conv=>whnf
 ·rw[sI n hc]
  exact AU rfl (by simp[AY,BI,DB])
 ·rw[sJ n hc]
  obtain⟨g1,g2⟩:=sW n hc;have Ko:=(CP n).1 g1;obtain⟨_,_,g3,_,g5,g4⟩:=Ko;generalize (E9 n st x).1=vals at*;generalize (E9 n st x).2.1=ov at*;refine DT (λi _=>n.next.length-i) (λ(i:Nat)(o:List Int)=>i<=n.next.length/\o.length=i/\o=(H6 n vals).take i) (λi o=>[(13,.row 13 0 1 0 o.length),(14,.int .i64 i)]) (λi o=>[(13,13,.rw 1 (o.map AZ))]) 0 [] ⟨Z',Z',Z'⟩ ?_;intro i o ⟨p1,p2,p3⟩ ih;repeat' (first|apply AG<;>intro hc<;>try omega|refine IG ?_ (λ_=>rfl) (λe he=>?_);omega|refine RR ?_ (λ_=>rfl) (λe he=>?_);omega|(refine CR (λ_=>rfl) rfl ?_ ?_;(first|rfl|simp))|apply AE)<;>conv=>whnf
  ·have hb:=ea.1 g5 _ (zM he)
   simp only[decide_eq_true_eq]at hb;repeat' (first|refine RR ?_ (λ_=>rfl) (λe he=>?_);omega|apply CI)<;>conv=>whnf
   rename_i kk hk;have Ky:(H6 n vals)[i]?=some e:=by
    simp only[H6,ub,hk,zb,va,he,uc]
   refine C1 (enc:=AZ) e rfl rfl rfl O' O' ?_;conv=>whnf
   repeat' (first|apply AR;omega|fail)<;>conv=>whnf
   refine A9 [(13,42)] E' (ih (i+1) (o++[e]) O' ⟨O',by simp[p2],?_⟩);rw[ja,Ky,<-p3];rfl
  ·have e1:o=H6 n vals:=by
    rw[p3,zT (by simp[H6];omega)]
   rw[gE he,<-e1];exact AU rfl (by simp[AY,BI,KO])
theorem AmH{w:Wd}(h:WV w)(v:Int):FT w (WO w v):=by
 obtain⟨h1,h2,h3,h4⟩:=Q5 h;have hw:=h;unfold WV at hw;refine⟨h,?_⟩;unfold WO;rw[if_pos h];split
 ·have e:=iW (n:=w.b) O'
  have a1:0<=v%pw w.b:=Ab _ O';have a2:v%pw w.b<pw w.b:=Lb _ O';unfold XA;rw[if_pos O'];split<;>omega
 ·unfold Y3;omega
theorem Aog{w:Wd}{l l':List Int}(h:DF w l=true)(h':DF w l'=true):DF w (l++l')=true:=by
 simp only[DF]at*;rw[List.all_append,h,h'];rfl
theorem wA(hd:WV n.d):∀(l:List Nd)(vals:List Int)(ov:Bool),DF n.d vals=true->DF n.d (FS n vals ov l).1=true
 |[],vals,ov,h=>h
 |nd::l,vals,ov,h=>by
  rw[FS];exact wA hd l _ _ (Aog h (by simp[DF,AmH hd]))
theorem Aoh{w:Wd}{l:List Int}(h:DF w l=true){i:Nat}{e:Int}(he:l[i]?=some e):FT w e:=by
 have:=ea.1 h e (zM he)
 simpa using this
theorem Aj2{vals:List Int}(h:DF n.d vals=true)(hx:MZ (n.s+n.nodes.length) n.next=true)(hl:(vals.length:Int)=1+n.s+n.nodes.length):DF n.d (H6 n vals)=true:=by
 unfold DF H6;rw[ea];intro v hv;obtain⟨k,hk,rfl⟩:=Ja.1 hv;have hb:=ea.1 hx k hk;simp only[decide_eq_true_eq]at hb;have hlt:k.toNat<vals.length:=O'
 have he:vals[k.toNat]?=some vals[k.toNat]:=zE hlt;rw[gE he];simpa using Aoh h he
theorem Aol{st ins:List Int}:FN n st ins=0↔(st.length:Int)=n.s/\DF n.d st=true/\DF n.d ins=true:=by
 unfold FN;by_cases h:(st.length:Int)≠n.s
 ·rw[if_pos h];constructor
  ·intro h;cases h
  ·intro h';exact absurd h'.1 h
 ·rw[if_neg h]
  simp only[ne_eq,Cf]at h;split
  ·rename_i hh
   simp only[za]at hh;exact⟨λ_=>⟨h,hh⟩,λ_=>rfl⟩
  ·rename_i hh
   simp only[za]at hh;exact⟨λh=>(by cases h),λh=>absurd h.2 hh⟩
theorem Zj{st:List Int}{x:Int}(hn:C6 n=true)(h1:(st.length:Int)=n.s)(h2:DF n.d st=true)(h3:FT n.d x):ID n st x=(H6 n (FS n (x::st) false n.nodes).1,(FS n (x::st) false n.nodes).1.getD n.out.toNat 0,(FS n (x::st) false n.nodes).2,0):=by
 have hw:FN n st [x]=0:=(Aol n).2 ⟨h1,h2,by simp[DF,h3]⟩;rw[sJ n (by rw[cR n hn hw]),cR n hn hw]
end Go.Eng

namespace Go.Eng
open F
attribute [local irreducible] AA AF AW AB AH pw AC AX BS D7 BR A5 JY HO
variable {L:Lib}
structure Rw where
 data:Int
 x8:Int
 k8:Int
 qn:Bool
 nodes:List ((Bool×List Int)×(Bool×List Int))
 qx:Bool
 next:List Int
 out:Int
 whole:Bool
abbrev fI(w:(Bool×List Int)×(Bool×List Int)):w_:=[.sl w.1.1 (w.1.2.map AZ),.sl w.2.1 (w.2.2.map AZ)]
abbrev fH(r:Rw):w_:=[.int .i64 r.data,.int .i64 r.x8,.int .i64 r.k8,.sl r.qn (r.nodes.map fI),.sl r.qx (r.next.map AZ),.int .i64 r.out,.bool r.whole]
def LQ(l:List Int):Prop := ∀v∈l,C3 v
theorem lA{l:List Int}(h:LQ l)(i:Int):C3 (GF l i):=by
 unfold GF;split
 ·rename_i hi
  have hlt:i.toNat<l.length:=O'
  rw[gE (zE hlt)];exact h _ (List.getElem_mem hlt)
 ·unfold C3;omega
def W4(r:Rw)(k:Nat)(w:(Bool×List Int)×(Bool×List Int))(i:Nat):Int×Int :=
 (B6 (w.1.2.getD i 0) (1+B6 r.k8 4+k),if r.whole then pw (EW r.x8).f*(B6 (GF w.2.2 (i:Int)) 3-1)else ZD (EW r.x8) (GF w.2.2 (i:Int)))
def RH(r:Rw)(k:Nat)(w:(Bool×List Int)×(Bool×List Int))(n:Nat):List (Int×Int):=(Nb n).map (W4 r k w)
def bH(r:Rw)(k:Nat):List (Int×Int):=match r.nodes[k]? with
 |some w=>RH r k w (min w.1.2.length 4)
 |none=>[]
def M3(r:Rw)(n:Nat):List (List (Int×Int)):=(Nb n).map (bH r)
def D5(r:Rw):Nt :=
 ⟨I5 r.data,EW r.x8,B6 r.k8 4,false,(M3 r (min r.nodes.length 4)).map (λts=>⟨false,ts⟩),false,(Nb (B6 r.k8 4).toNat).map (λi:Nat=>B6 (GF r.next (i:Int)) (1+B6 r.k8 4+(min r.nodes.length 4:Nat))),B6 r.out (1+B6 r.k8 4+(min r.nodes.length 4:Nat))⟩
def LZ(ts:List (Int×Int)):p_:=match ts with
 |[]=>none
 |t::ts=>some (2,(t::ts).map NN)
theorem rE:∀ns:List (List (Int×Int)),L1 false (ns.map LZ)=ns.map λts=>[AV.sl false (ts.map NN)]
 |[]=>rfl
 |[]::l=>by simp only[Pa,LZ,L1];rw[rE l];rfl
 |(t::ts)::l=>by simp only[Pa,LZ,L1];rw[rE l]
theorem uJ{ns:List (List (Int×Int))}{off len:Nat}{K:v_->Prop}(ho:off=0)(hl:len=ns.length)(h:K (ns.map λts=>[AV.sl false (ts.map NN)])):HO false (ns.map LZ) off len K:=by
 unfold HO;refine⟨ho,by simpa using hl,λz es hm e he=>?_,by rw[rE];exact h⟩;obtain⟨ts,_,hr⟩:=Ja.1 hm;cases ts with
 |nil=>simp[LZ]at hr
 |cons t ts=>
  simp only[LZ,qa,Pf]at hr;obtain⟨rfl,rfl⟩:=hr;obtain⟨x,_,rfl⟩:=Ja.1 he;rfl
def S6(r:Rw)(n:Nat):List Int:=(Nb n).map λi:Nat=>B6 (GF r.next (i:Int)) (1+B6 r.k8 4+(min r.nodes.length 4:Nat))
theorem AgC(ns:List (List (Int×Int))):DB (ns.map λts=>[AV.sl false (ts.map NN)]):=LS (λts=>by simp only[BI,AY,true_and,and_true];exact LS (λ_=>by simp[BI,AY]) ts) ns
theorem pS(r:Rw):(D5 r).nodes.map QT=(M3 r (min r.nodes.length 4)).map λts=>[AV.sl false (ts.map NN)]:=by
 simp only[D5,List.map_map];rfl
theorem Tq(r:Rw):AY (.agg (BX (D5 r))):=by
 have h1:AY (.sl (D5 r).qn ((D5 r).nodes.map QT)):=by rw[pS];simp only[AY];exact⟨rfl,AgC _⟩
 have h2:AY (.sl (D5 r).qx ((D5 r).next.map AZ)):=by simp only[AY];exact⟨rfl,KO _⟩
 simp only[AY,BI,true_and,and_true]at*;exact⟨h1,h2⟩
theorem AjR(I:a8 L)(W:w9 L)(R:gj L)(r:Rw)(h1:C3 r.data)(h2:C3 r.x8)(h3:C3 r.k8)(h4:C3 r.out)(h5:LQ r.next)(h6:∀w∈r.nodes,LQ w.1.2/\LQ w.2.2)(hl:r.nodes.length<9223372036854775808):Ev L 42 [.agg (fH r)] (.agg (BX (D5 r))):=by
 have hE:∀b,r.whole=b->fH r=[.int .i64 r.data,.int .i64 r.x8,.int .i64 r.k8,.sl r.qn (r.nodes.map fI),.sl r.qx (r.next.map AZ),.int .i64 r.out,.bool b]:=λb h=>by rw[<-h]
 cases Ot:r.whole;all_goals (
 rw[hE _ Ot];refine Ev.x R.LI rfl rfl ?_;have hs:=NI (v:=r.k8) (m:=4) O';obtain⟨hcw,De,ru⟩:=vV r.x8;have Mk:=hcw;unfold WV at Mk;repeat' (first|refine H3 ?_ (λ_ _=>?_);omega|apply B1;omega|apply AE|refine AD (AjQ W _ h1) ?_|refine AD (AjP W _ h2) ?_|refine AD (QX W _ _ h3 O') ?_)<;>conv=>whnf
 refine FP (λk _ _=>4-k) (λ(k:Nat)(ns:List (List (Int×Int)))(fl:Bool)=>k<=4/\k<=r.nodes.length/\ns=M3 r k/\fl=decide (k=0)) (λk ns fl=>[(5,.int .i64 k)]) (λk ns fl=>bif fl then[]else[(3,3,.bx [.int .i64 (I5 r.data).b,.int .i64 (I5 r.data).f,.int .i64 (I5 r.data).r,.int .i64 (I5 r.data).o,.int .i64 (EW r.x8).b,.int .i64 (EW r.x8).f,.int .i64 (EW r.x8).r,.int .i64 (EW r.x8).o,.int .i64 (B6 r.k8 4),.row 1000 0 1 0 ns.length,.nil,.int .i64 0]),(1000,107,.mx (ns.map LZ))]) 0 [] true ⟨O',O',rfl,rfl⟩ ?_;intro k ns fl ⟨p1,p2,p3,p4⟩ ih;have hns:fl=true->ns=[]:=λh=>by
  rw[h]at p4;have:k=0:=by simpa using p4.symm
  subst this;rw[p3];rfl
 by_cases hk:k<r.nodes.length/\k<4
 ·obtain⟨w,hw⟩:=N' r.nodes k hk.1
  obtain⟨q1,q2⟩:=h6 w (zM hw);cases fl;all_goals (
   repeat' (first|apply AG<;>intro hc<;>try omega|apply AP|apply AE)<;>conv=>whnf
   refine FP (λi _ _=>4-i) (λ(i:Nat)(ts:List (Int×Int))(fl:Bool)=>i<=4/\i<=w.1.2.length/\ts=RH r k w i/\fl=decide (i=0)) (λi ts fl=>[(7,.int .i64 i)]) (λi ts fl=>bif fl then[(6,6,.bx [.nil])]else[(6,6,.bx [.row 2000 0 2 0 ts.length]),(2000,101,.rw 2 (ts.map NN))]) 0 [] true ⟨O',O',rfl,rfl⟩ ?_;intro i ts Ie ⟨s1,s2,s3,s4⟩ gi;have lu:Ie=true->ts=[]:=λh=>by
    rw[h]at s4;have:i=0:=by simpa using s4.symm
    subst this;rw[s3];rfl
   have Om:Ie=false->∃t0 Ed,ts=t0::Ed:=λh=>by
    rw[h]at s4;have lj:¬i=0:=by simpa using s4.symm
    have hl:ts.length=i:=by rw[s3];simp[RH]
    cases ts with
    |nil=>exact absurd hl.symm lj
    |cons t0 Ed=>exact⟨t0,Ed,rfl⟩
   by_cases hi:i<w.1.2.length/\i<4
   ·obtain⟨e0,Fx⟩:=N' w.1.2 i hi.1
    have hwl:(UX (EW r.x8) w.2.2 (i+1)).length=i+1:=by simp[UX]
    have ew:∀q,Ev L 39 [.agg (HV (EW r.x8)),.sl q (w.2.2.map AZ),.int .i64 ((i:Int)+1)] (.sl false ((UX (EW r.x8) w.2.2 (i+1)).map AZ)):=λq=>by
     have h:=AjS I W (EW r.x8) hcw w.2.2 q (i+1) O';rwa [Int.natCast_succ]at h
    have hx:=NI (v:=GF w.2.2 (i:Int)) (m:=3) O';have hmul:-4611686018427387904<=pw (EW r.x8).f*(B6 (GF w.2.2 (i:Int)) 3-1)/\pw (EW r.x8).f*(B6 (GF w.2.2 (i:Int)) 3-1)<=4611686018427387904:=by
     rcases(O':B6 (GF w.2.2 (i:Int)) 3=0\/B6 (GF w.2.2 (i:Int)) 3=1\/B6 (GF w.2.2 (i:Int)) 3=2)with h|h|h<;>rw[h]<;>omega
    have hval:∀v,(UX (EW r.x8) w.2.2 (i+1))[i]?=some v->v=ZD (EW r.x8) (GF w.2.2 (i:Int)):=by
     intro v hv;simp only[UX,ub,List.getElem?_range (Nat.lt_succ_self i),zb,qa]at hv;exact hv.symm
    cases Ie;all_goals (
     repeat' (first|apply AG<;>intro hc<;>try omega|apply AR;omega|apply AP|refine A3 V' ?_ rfl ?_;omega|refine IG ?_ (λ_=>rfl) (λe he=>?_);omega|apply CI|apply AE|refine AD (QX W e0 _ (q1 _ (zM Fx)) O') ?_|refine AD (ew _) ?_)<;>conv=>whnf
     repeat' (first|apply BP;omega|apply F3;omega|apply CI|refine AD (fX W w.2.2 _ _) ?_|refine AD (QX W _ _ (lA q2 _) O') ?_)<;>conv=>whnf
     have hv:=hval _ he;subst hv;first
      |(refine C1 (enc:=NN) (W4 r k w i) (by simp only[W4,Ot,va,Fx,uc];rfl) rfl rfl (by simp[s3,RH];omega) (by simp[s3,RH];omega) ?_)
      |(refine L8 (enc:=NN) (W4 r k w i) (by simp only[W4,Ot,va,Fx,uc];rfl) rfl O' ?_)
     (conv=>whnf)
     repeat' (first|apply AR;omega|fail)<;>conv=>whnf
     have dn:ts++[W4 r k w i]=RH r k w (i+1):=by rw[RH,bV,s3];rfl
     try (obtain rfl:=lu rfl)
     exact A9 [(2000,101)] E' (gi (i+1) _ false O' ⟨O',O',dn,Z'⟩))
   ·have Gc:i=min w.1.2.length 4:=O'
    have Gq:ns++[ts]=M3 r (k+1):=by rw[M3,bV,p3,bH,hw,s3,Gc];rfl
    have ep:ns.length=k:=by rw[p3];simp[M3]
    cases Ie;all_goals (
     try (obtain rfl:=lu rfl)
     try (obtain⟨t0,Ed,rfl⟩:=Om rfl)
     try (obtain rfl:=hns rfl)
     repeat' (first|apply AG<;>intro hc<;>try omega|apply A2;omega|apply AR;omega|apply AP|refine A3 V' ?_ rfl ?_;omega|apply AE)<;>conv=>whnf
     all_goals (
      try (refine A2 Z' ?_;(conv=>whnf))
      repeat' (first|apply AR;omega|fail)<;>conv=>whnf
      try (refine AeO Z' K' K' ?_)
      try (rw[show ns.map LZ++[some (2,(t0::Ed).map NN)]=(ns++[t0::Ed]).map LZ by simp[LZ]])
      try (rw[show ns.map LZ++[none]=(ns++[[]]).map LZ by simp[LZ]])
      try (rw[kc])
      (conv=>whnf)
      repeat' (first|apply AR;omega|fail)<;>conv=>whnf
      exact A9 [(1000,107)] E' (ih (k+1) _ false O' ⟨O',O',Gq,Z'⟩))))
 ·have Jj:k=min r.nodes.length 4:=O'
  have ep:ns.length=k:=by rw[p3];simp[M3]
  rw[Jj]at p3;cases fl
  ·have Gg:((min r.nodes.length 4:Nat):Int)=(ns.length:Int):=O'
   repeat' (first|apply AG<;>intro hc<;>try omega|apply AP|apply AE)<;>conv=>whnf
   all_goals (
    refine FP (λi _ _=>4-i) (λ(i:Nat)(nx:List Int)(f3:Bool)=>(i:Int)<=B6 r.k8 4/\nx=S6 r i/\f3=decide (i=0)) (λi nx f3=>[(9,.int .i64 i)]) (λi nx f3=>bif f3 then[]else[(3,3,.bx [.int .i64 (I5 r.data).b,.int .i64 (I5 r.data).f,.int .i64 (I5 r.data).r,.int .i64 (I5 r.data).o,.int .i64 (EW r.x8).b,.int .i64 (EW r.x8).f,.int .i64 (EW r.x8).r,.int .i64 (EW r.x8).o,.int .i64 (B6 r.k8 4),.row 1000 0 1 0 ns.length,.row 3000 0 1 0 nx.length,.int .i64 0]),(3000,130,.rw 1 (nx.map AZ))]) 0 [] true ⟨O',rfl,rfl⟩ ?_;intro i nx f3 ⟨s1,s2,s3⟩ Cs;have hnx:nx.length=i:=by rw[s2];simp[S6]
    have dn:nx++[B6 (GF r.next (i:Int)) (1+B6 r.k8 4+(ns.length:Int))]=S6 r (i+1):=by rw[<-Gg,S6,bV,s2];rfl
    have oa:f3=true->nx=[]:=λh=>by
     rw[h]at s3;have:i=0:=by simpa using s3.symm
     subst this;rw[s2];rfl
    have Cd:(D5 r).out=B6 r.out (1+B6 r.k8 4+(ns.length:Int)):=by
     show B6 r.out (1+B6 r.k8 4+(min r.nodes.length 4:Nat))=_;rw[Gg]
    have Cb:B6 r.k8 4<=i->(D5 r).next=nx:=λh=>by
     have hi:i=(B6 r.k8 4).toNat:=O'
     rw[s2,hi];rfl
    have Bz:(D5 r).nodes.map QT=ns.map λts=>[AV.sl false (ts.map NN)]:=by rw[pS,p3]
    cases f3;all_goals (
     try (obtain rfl:=oa rfl)
     repeat' (first|apply AG<;>intro hc<;>try omega|apply AR;omega|apply CI|apply AE|refine AD (fX W r.next _ _) ?_|refine AD (QX W _ _ (lA h5 _) O') ?_|refine AD (QX W r.out _ h4 O') ?_)<;>conv=>whnf
     ·first
       |refine C1 (enc:=AZ) _ rfl rfl rfl O' O' ?_
       |refine L8 (enc:=AZ) _ rfl rfl O' ?_
      (conv=>whnf)
      repeat' (first|apply AR;omega|fail)<;>conv=>whnf
      exact A9 [(3000,130)] E' (Cs (i+1) _ false O' ⟨O',dn,Z'⟩)
     ·try (refine uJ rfl rfl ?_;(conv=>whnf))
      (repeat' ((refine CR (λ_=>rfl) rfl ?_ ?_;(first|rfl|simp))<;>conv=>whnf))
      refine AU ?_ (Tq r);have Ca:=Cb hc;show _=AV.agg [_,_,_,_,_,_,_,_,_,.sl _ ((D5 r).nodes.map QT),.sl _ ((D5 r).next.map AZ),.int .i64 (D5 r).out];rw[Bz,Ca,Cd];rfl))
  ·obtain rfl:=hns rfl
   have Gg:((min r.nodes.length 4:Nat):Int)=(0:Int):=by simp at ep;omega
   repeat' (first|apply AG<;>intro hc<;>try omega|apply AP|apply AE)<;>conv=>whnf
   all_goals (
    refine FP (λi _ _=>4-i) (λ(i:Nat)(nx:List Int)(f3:Bool)=>(i:Int)<=B6 r.k8 4/\nx=S6 r i/\f3=decide (i=0)) (λi nx f3=>[(9,.int .i64 i)]) (λi nx f3=>bif f3 then[]else[(3,3,.bx [.int .i64 (I5 r.data).b,.int .i64 (I5 r.data).f,.int .i64 (I5 r.data).r,.int .i64 (I5 r.data).o,.int .i64 (EW r.x8).b,.int .i64 (EW r.x8).f,.int .i64 (EW r.x8).r,.int .i64 (EW r.x8).o,.int .i64 (B6 r.k8 4),.nil,.row 3000 0 1 0 nx.length,.int .i64 0]),(3000,130,.rw 1 (nx.map AZ))]) 0 [] true ⟨O',rfl,rfl⟩ ?_;intro i nx f3 ⟨s1,s2,s3⟩ Cs;have hnx:nx.length=i:=by rw[s2];simp[S6]
    have dn:nx++[B6 (GF r.next (i:Int)) (1+B6 r.k8 4+(0:Int))]=S6 r (i+1):=by rw[<-Gg,S6,bV,s2];rfl
    have oa:f3=true->nx=[]:=λh=>by
     rw[h]at s3;have:i=0:=by simpa using s3.symm
     subst this;rw[s2];rfl
    have Cd:(D5 r).out=B6 r.out (1+B6 r.k8 4+(0:Int)):=by
     show B6 r.out (1+B6 r.k8 4+(min r.nodes.length 4:Nat))=_;rw[Gg]
    have Cb:B6 r.k8 4<=i->(D5 r).next=nx:=λh=>by
     have hi:i=(B6 r.k8 4).toNat:=O'
     rw[s2,hi];rfl
    have Bz:(D5 r).nodes.map QT=[]:=by rw[pS,<-p3];rfl
    cases f3;all_goals (
     try (obtain rfl:=oa rfl)
     repeat' (first|apply AG<;>intro hc<;>try omega|apply AR;omega|(refine CR (λ_=>rfl) rfl ?_ ?_;(first|rfl|simp))|apply CI|apply AE|refine AD (fX W r.next _ _) ?_|refine AD (QX W _ _ (lA h5 _) O') ?_|refine AD (QX W r.out _ h4 O') ?_)<;>conv=>whnf
     ·first
       |refine C1 (enc:=AZ) _ rfl rfl rfl O' O' ?_
       |refine L8 (enc:=AZ) _ rfl rfl O' ?_
      (conv=>whnf)
      repeat' (first|apply AR;omega|fail)<;>conv=>whnf
      exact A9 [(3000,130)] E' (Cs (i+1) _ false O' ⟨O',dn,Z'⟩)
     ·try (refine uJ rfl rfl ?_;(conv=>whnf))
      skip
      refine AU ?_ (Tq r);have Ca:=Cb hc;show _=AV.agg [_,_,_,_,_,_,_,_,_,.sl _ ((D5 r).nodes.map QT),.sl _ ((D5 r).next.map AZ),.int .i64 (D5 r).out];rw[Bz,Ca,Cd];rfl))
  )
end Go.Eng

namespace Go.Eng
open F
attribute [local irreducible] AA AF AW AB AH pw
variable {L:Lib}
theorem Tr(r:Rw):C6 (D5 r)=true:=by
 obtain⟨d1,d2,d3⟩:=wJ r.data;obtain⟨c1,c2,c3⟩:=vV r.x8;have hs:=NI (v:=r.k8) (m:=4) O';rw[CP];refine⟨d1,c1,⟨hs.1,by show B6 r.k8 4<=64;omega,by simp[D5,M3];omega,by simp[D5];omega⟩,?_,?_,?_⟩
 ·have key:∀(m j:Nat),m+j=min r.nodes.length 4->GP (EW r.x8) (B6 r.k8 4) j (((List.range' j m).map (bH r)).map λts=>(⟨false,ts⟩:Nd))=true:=by
   intro m;induction m with
   |zero=>intro j _;rfl
   |succ m ih=>
    intro j hj;rw[List.range'_succ,Pa,Pa,GP,ih (j+1) O',Bool.and_true];simp only[za,decide_eq_true_eq];unfold bH;have eh:j<r.nodes.length:=O'
    rw[zE eh];simp only;refine⟨by simp[RH];omega,?_⟩;rw[ea];intro t ht;obtain⟨i,_,rfl⟩:=Ja.1 ht;rw[H0];apply decide_eq_true;simp only[W4];have h1:=NI (v:=r.nodes[j].1.2.getD i 0) (m:=1+B6 r.k8 4+j) O';refine⟨O',O',?_⟩;split
    ·have h2:=NI (v:=GF r.nodes[j].2.2 (i:Int)) (m:=3) O'
     obtain⟨e1,e2,e3,e4⟩:=Q5 c1;have c1':=c1;unfold WV at c1';have h3:=GQ (EW r.x8).f;have h4:=RC (n:=(EW r.x8).f) (m:=(EW r.x8).b-1) O';rcases(O':B6 (GF r.nodes[j].2.2 (i:Int)) 3=0\/B6 (GF r.nodes[j].2.2 (i:Int)) 3=1\/B6 (GF r.nodes[j].2.2 (i:Int)) 3=2)with h|h|h
     all_goals rw[h]
     ·refine Or.inr ?_
      unfold FT;exact⟨c1,O',O'⟩
     ·refine Or.inr ?_
      unfold FT;exact⟨c1,O',O'⟩
     ·exact Or.inl O'
    ·exact Or.inr (AnZ c1 _)
  have:=key (min r.nodes.length 4) 0 O'
  rw[<-List.range_eq_range']at this;exact this
 ·unfold MZ
  rw[ea];intro v hv;obtain⟨i,_,rfl⟩:=Ja.1 hv;have h1:=NI (v:=GF r.next (i:Int)) (m:=1+B6 r.k8 4+(min r.nodes.length 4:Nat)) O';have:(D5 r).nodes.length=min r.nodes.length 4:=by simp[D5,M3]
  rw[decide_eq_true_eq,this];show _/\_<=B6 r.k8 4+_;omega
 ·have h1:=NI (v:=r.out) (m:=1+B6 r.k8 4+(min r.nodes.length 4:Nat)) O'
  have:(D5 r).nodes.length=min r.nodes.length 4:=by simp[D5,M3]
  rw[this];show 0<=B6 r.out _/\B6 r.out _<=B6 r.k8 4+_;omega
end Go.Eng

namespace Go.Eng
variable {L:Lib}
def B5(N:Nat):AL->Bool
 |.t n=>zc n N
 |.c _=>true
def bN(N:Nat):DU->Bool
 |.o9 x=>B5 N x
 |.z8 _ _=>true
 |.pick c a b=>B5 N c&&(B5 N a&&B5 N b)
 |.bin _ x y=>B5 N x&&B5 N y
 |.beq _ x y=>B5 N x&&B5 N y
 |.un _ x=>B5 N x
 |.conv _ x=>B5 N x
 |.box _ x=>B5 N x
 |.alloc _ _=>true
 |.build _ ps=>ps.all λp=>B5 N p.2.2
 |.b8 _ _ ps=>ps.all (B5 N)
 |.lit _ ps=>ps.all (B5 N)
 |.l8 x _=>B5 N x
 |.nj x _ _ _=>B5 N x
 |.q8 _ _ x i=>B5 N x&&B5 N i
 |.ld _ _ x=>B5 N x
 |.st _ x v=>B5 N x&&B5 N v
 |.mk _ _ _ _ l c=>B5 N l&&B5 N c
 |.ik _ x lo hi=>B5 N x&&((lo.all (B5 N))&&(hi.all (B5 N)))
 |.ext x _=>B5 N x
 |.len x=>B5 N x
 |.mm _ xs=>xs.all (B5 N)
 |.app _ _ _ x y=>B5 N x&&B5 N y
 |.call _ xs=>xs.all (B5 N)
 |.j5 _ xs=>xs.all (B5 N)
 |.ta _ x=>B5 N x
 |.ix _ x=>B5 N x
 |.bad=>true
 |.pj _=>true
 |.nf _ _ x y=>B5 N x&&B5 N y
 |.fe _ _ _ x c=>B5 N x&&B5 N c
 |.ql x k=>B5 N x&&B5 N k
 |.pn x k v=>B5 N x&&(B5 N k&&B5 N v)
 |.kx x=>B5 N x
 |.pg _ _ xs=>xs.all (B5 N)
 |.u6 x xs=>B5 N x&&xs.all (B5 N)
 |.o5 _ xs=>xs.all (B5 N)
 |.x5 _ _ xs=>xs.all (B5 N)
 |.cz _ _ xs=>xs.all (B5 N)
 |.po _ _ x v=>B5 N x&&B5 N v
 |.di _ _ _ x y=>B5 N x&&B5 N y
def Z0(N:Nat)(a:AI):Bool:=(a.dst.all λd=>zc d N)&&((a.guard.all λg=>zc g.1 N)&&bN N a.op)
def J0(N:Nat):BF->Bool
 |.skip=>true
 |.ops l _=>l.all (Z0 N)
 |.dr c ts _=>J0 N c&&ts.all λt=>zc t N
 |.scope c=>J0 N c
 |.seq a b=>J0 N a&&J0 N b
 |.cond c a b=>B5 N c&&(J0 N a&&J0 N b)
 |.block _ c=>J0 N c
 |.loop c=>J0 N c
 |.exit _=>true
 |.ret=>true
def SI(N:Nat):It->Bool
 |.code c=>J0 N c
 |.ot ts _=>ts.all λt=>zc t N
 |.c9 _=>true
 |.lp c=>J0 N c
structure Gh(N:Nat)(G T T':Tm):Prop where
 lo:∀j,j<N->j7 T' j=j7 T j
 hi:∀j,N<=j->j7 T' j=j7 G j
variable {N:Nat} {G:Tm}
theorem VJ{a b:Nat}:zc a b=true↔a<b:=by simp[zc];omega
theorem Gh.ev{st:St}{T':Tm}{o:Own}(h:Gh N G st.tm T'){x:AL}(hx:B5 N x=true):St.ev ⟨T',o⟩ x=st.ev x:=by
 cases x with
 |t n=>exact h.lo n (VJ.1 hx)
 |c v=>rfl
theorem WC{f g:AL->AV}{xs:List AL}(h:∀x,B5 N x=true->f x=g x)(hx:xs.all (B5 N)=true):xs.map f=xs.map g:=by
 apply Me;intro x hm;exact h x (ea.1 hx x hm)
theorem Aii{C:Cl}{b9:u_}{ρ ρ':AL->AV}{own:Own}(h:∀x,B5 N x=true->ρ' x=ρ x):∀(op:DU),bN N op=true->e9 C b9 ρ' own op=e9 C b9 ρ own op:=by
 intro op o6;cases op;case build zero ps=>
  have:(ps.map λp=>(p.1,p.2.1,ρ' p.2.2))=ps.map λp=>(p.1,p.2.1,ρ p.2.2):=by
   apply Me;intro p hm;rw[h _ (ea.1 o6 p hm)]
  simp only[e9,this]
 case b8 s a7 ps=>
  have:ps.mapM (λx=>cellsOf (ρ' x))=ps.mapM (λx=>cellsOf (ρ x)):=by
   have oy:ps.all (B5 N)=true:=o6;clear o6;induction ps with
   |nil=>rfl
   |cons p r ih=>
    simp only[ya,za]at oy;simp only[Jb,h _ oy.1,ih oy.2]
  simp only[e9,this]
 case lit a7 ps=>
  have:ps.mapM (λx=>cellsOf (ρ' x))=ps.mapM (λx=>cellsOf (ρ x)):=by
   have oy:ps.all (B5 N)=true:=o6;clear o6;induction ps with
   |nil=>rfl
   |cons p r ih=>
    simp only[ya,za]at oy;simp only[Jb,h _ oy.1,ih oy.2]
  simp only[e9,this]
 case mm m xs=>simp only[e9,WC h o6]
 case call f xs=>simp only[e9,WC h o6]
 case j5 f xs=>simp only[e9,WC h o6]
 case pg p f xs=>
  have:xs.mapM (λx=>IA (ρ' x))=xs.mapM (λx=>IA (ρ x)):=by
   have oy:xs.all (B5 N)=true:=o6;clear o6;induction xs with
   |nil=>rfl
   |cons p r ih=>
    simp only[ya,za]at oy;simp only[Jb,h _ oy.1,ih oy.2]
  simp only[e9,this]
 case o5 f xs=>simp only[e9,WC h o6]
 case x5 s f xs=>simp only[e9,WC h o6]
 case cz s f xs=>simp only[e9,WC h o6]
 case u6 x xs=>
  simp only[bN,za]at o6;simp only[e9,WC h o6.2,h _ o6.1]
 case ik a7 x lo hi=>
  simp only[bN,za]at o6;obtain⟨h1,h2,h3⟩:=o6;cases lo<;>cases hi<;>simp only[Option.all_some,Option.all_none]at h2 h3<;>simp only[e9,h _ h1,h _,h2,h3]
 all_goals (simp only[bN,za]at o6;simp only[e9,h _,o6])
theorem Gh.dst{T T':Tm}(h:Gh N G T T'){d:Nat}(hd:d<N)(v:AV):Gh N G (jz T d v) (jz T' d v):=by
 constructor
 ·intro j hj
  rw[cN,cN,h.lo j hj]
 ·intro j hj
  rw[cN,h.hi j hj,if_neg O']
theorem Gh.nh{T T':Tm}{o:Own}(h:Gh N G T T'){d:Option Nat}(hd:(d.all λd=>zc d N)=true)(v:AV):((⟨T',o⟩:St).dst d v).own=((⟨T,o⟩:St).dst d v).own/\Gh N G ((⟨T,o⟩:St).dst d v).tm ((⟨T',o⟩:St).dst d v).tm:=by
 cases d with
 |none=>exact⟨rfl,h⟩
 |some d=>exact⟨rfl,h.dst (VJ.1 hd) v⟩
theorem AnC{C:Cl}{a:AI}(ha:Z0 N a=true){T T':Tm}{o:Own}(h:Gh N G T T'){s':St}(hs:CQ C a ⟨T',o⟩=some s'):∃s,CQ C a ⟨T,o⟩=some s/\s'.own=s.own/\Gh N G s.tm s'.tm:=by
 simp only[Z0,za]at ha;obtain⟨h1,h2,h3⟩:=ha;have hg:F7 ⟨T',o⟩ a.guard=F7 ⟨T,o⟩ a.guard:=by
  cases yc:a.guard with
  |none=>rfl
  |some g=>
   rw[yc]at h2;simp only[F7,h.lo _ (VJ.1 h2)]
 have he:=Aii (C:=C) (b9:=a.b9) (own:=o) (ρ:=St.ev ⟨T,o⟩) (ρ':=St.ev ⟨T',o⟩) (λx hx=>Gh.ev (st:=⟨T,o⟩) h hx) a.op h3;unfold CQ at hs⊢;rw[hg,he]at hs;cases Dg:F7 ⟨T,o⟩ a.guard with
 |none=>rw[Dg]at hs;cases hs
 |some b=>
  rw[Dg]at hs;cases b with
  |false=>
   simp only[qa]at hs⊢;subst hs;exact⟨_,rfl,h.nh h1 _⟩
  |true=>
   simp only at hs⊢;cases hee:e9 C a.b9 (St.ev ⟨T,o⟩) o a.op with
   |none=>rw[hee]at hs;cases hs
   |some e=>
    rw[hee]at hs;simp only[zb,qa]at hs⊢;subst hs;refine⟨_,rfl,?_⟩;cases e with
    |val v=>exact h.nh h1 v
    |new s b v=>exact⟨rfl,(h.nh (o:=o) h1 _).2⟩
    |zj s b v=>exact⟨rfl,(h.nh (o:=o) h1 _).2⟩
    |bz v o'=>exact⟨rfl,(h.nh (o:=o) h1 _).2⟩
    |q9 s x=>exact⟨rfl,(h.nh (o:=o) h1 _).2⟩
    |rp s x v=>exact⟨rfl,(h.nh (o:=o) h1 _).2⟩
    |Au s v o'=>exact⟨rfl,(h.nh (o:=o) h1 _).2⟩
theorem Zh{C:Cl}:∀{l:List AI},l.all (Z0 N)=true->∀{T T':Tm}{o:Own},Gh N G T T'->∀{s':St},DC C l ⟨T',o⟩=some s'->∃s,DC C l ⟨T,o⟩=some s/\s'.own=s.own/\Gh N G s.tm s'.tm
 |[],_,T,T',o,h,s',hs=>by
  simp only[DC,qa]at hs;subst hs;exact⟨_,rfl,rfl,h⟩
 |a::l,ha,T,T',o,h,s',hs=>by
  simp only[ya,za]at ha;simp only[DC]at hs;cases h1:CQ C a ⟨T',o⟩with
  |none=>rw[h1]at hs;cases hs
  |some s1=>
   rw[h1]at hs;obtain⟨s2,e1,e2,e3⟩:=AnC ha.1 h h1;obtain⟨T1,o1⟩:=s1;obtain⟨T2,o2⟩:=s2;simp only at e2 e3;subst e2;obtain⟨s3,f1,f2,f3⟩:=Zh ha.2 e3 hs;exact⟨s3,by simp only[DC,e1,f1],f2,f3⟩
theorem aK{id:Nat}:∀{k k':List It},k.all (SI N)=true->GG id k=some k'->k'.all (SI N)=true
 |[],_,_,h=>by simp[GG]at h
 |it::k,k',hk,h=>by
  simp only[ya,za]at hk;cases it with
  |c9 i=>
   simp only[GG]at h;split at h
   ·cases h;exact hk.2
   ·exact aK hk.2 h
  |code c=>simp only[GG]at h;exact aK hk.2 h
  |ot a b=>simp only[GG]at h;exact aK hk.2 h
  |lp c=>simp only[GG]at h;exact aK hk.2 h
theorem KA{C:Cl}:∀(n:Nat){k:List It},k.all (SI N)=true->∀{T T':Tm}{o:Own},Gh N G T T'->∀{s':St},run C n k ⟨T',o⟩=some s'->∃s,run C n k ⟨T,o⟩=some s/\s'.own=s.own/\Gh N G s.tm s'.tm
 |0,k,_,T,T',o,_,s',hs=>by simp[run]at hs
 |n+1,[],_,T,T',o,h,s',hs=>by
  simp only[run,qa]at hs⊢;subst hs;exact⟨_,rfl,rfl,h⟩
 |n+1,.c9 _::k,hk,T,T',o,h,s',hs=>by
  simp only[ya,za]at hk;simp only[run]at hs⊢;exact KA n hk.2 h hs
 |n+1,.ot ts ss::k,hk,T,T',o,h,s',hs=>by
  simp only[ya,za]at hk;simp only[run]at hs⊢;refine KA n hk.2 ⟨λj hj=>?_,λj hj=>?_⟩ hs
  ·rw[ZB,ZB,h.lo j hj]
  ·rw[ZB,h.hi j hj,if_neg]
   intro hc;have:=ea.1 hk.1 j (by simpa using hc)
   have:=VJ.1 this
   omega
 |n+1,.lp c::k,hk,T,T',o,h,s',hs=>by
  simp only[run]at hs⊢;have jg:=hk;simp only[ya,za]at hk;exact KA n (by simp only[ya,za];exact⟨hk.1,hk.1,hk.2⟩) h hs
 |n+1,.code c::k,hk,T,T',o,h,s',hs=>by
  simp only[ya,za]at hk;obtain⟨hc,hk⟩:=hk;cases c with
  |skip=>simp only[run]at hs⊢;exact KA n hk h hs
  |ops l d=>
   simp only[run]at hs⊢;cases h1:DC C l ⟨T',o⟩with
   |none=>rw[h1]at hs;cases hs
   |some s1=>
    rw[h1]at hs;obtain⟨s2,e1,e2,e3⟩:=Zh (show l.all (Z0 N)=true from hc) h h1;obtain⟨T1,o1⟩:=s1;obtain⟨T2,o2⟩:=s2;simp only at e2 e3;subst e2;rw[e1];exact KA n hk e3 hs
  |dr c ts ss=>
   simp only[run]at hs⊢;simp only[SI,J0,za]at hc;exact KA n (by simp only[ya,za];exact⟨hc.1,hc.2,hk⟩) h hs
  |scope c=>
   simp only[run]at hs⊢;exact KA n (by simp only[ya,za];exact⟨hc,hk⟩) h hs
  |seq a b=>
   simp only[run]at hs⊢;simp only[SI,J0,za]at hc;exact KA n (by simp only[ya,za];exact⟨hc.1,hc.2,hk⟩) h hs
  |cond x a b=>
   simp only[SI,J0,za]at hc;simp only[run,Gh.ev (st:=⟨T,o⟩) h hc.1]at hs⊢;cases hx:St.ev ⟨T,o⟩ x<;>rw[hx]at hs<;>try (simp at hs;done)
   rename_i q;cases q
   ·exact KA n (by simp only[ya,za];exact⟨hc.2.2,hk⟩) h hs
   ·exact KA n (by simp only[ya,za];exact⟨hc.2.1,hk⟩) h hs
  |block id c=>
   simp only[run]at hs⊢;exact KA n (by simp only[ya,za];exact⟨hc,rfl,hk⟩) h hs
  |loop c=>
   simp only[run]at hs⊢;exact KA n (by simp only[ya,za];exact⟨hc,hc,hk⟩) h hs
  |exit id=>
   simp only[run]at hs⊢;cases he:GG id k with
   |none=>rw[he]at hs;cases hs
   |some k'=>
    rw[he]at hs;exact KA n (aK hk he) h hs
  |ret=>
   simp only[run,qa]at hs⊢;subst hs;exact⟨_,rfl,rfl,h⟩
def HX(N:Nat):Tm->Tm
 |[]=>[]
 |(i,v)::r=>(N+i,v)::HX N r
def gh(N:Nat):Tm->Tm
 |[]=>[]
 |(i,v)::r=>bif Ee N i then(Lf i N,v)::gh N r else gh N r
theorem sU(N j:Nat):∀T:Tm,j7 (HX N T) (N+j)=j7 T j
 |[]=>rfl
 |(i,v)::r=>by
  have ih:=sU N j r;simp only[HX,j7,ih];by_cases h:j=i
  ·simp[h]
  ·rw[if_neg h,if_neg O']
theorem sV{N j:Nat}(hj:j<N):∀T:Tm,j7 (HX N T) j = .any
 |[]=>rfl
 |(i,v)::r=>by
  simp only[HX,j7,sV hj r];rw[if_neg O']
theorem sS(N j:Nat):∀T:Tm,j7 (gh N T) j=j7 T (N+j)
 |[]=>rfl
 |(i,v)::r=>by
  have ih:=sS N j r;simp only[gh];cases h:Ee N i
  ·have h1:¬N<=i:=λe=>by rw[Nat.ble_eq_true_of_le e]at h;cases h
   simp only[cond,j7,ih];rw[if_neg O']
  ·have h1:=ec h
   simp only[cond,j7,ih];by_cases h2:j=i-N
   ·rw[if_pos (show j=Lf i N from h2),if_pos O']
   ·rw[if_neg (show¬j=Lf i N from h2),if_neg O']
def NW(f:AV->AV):Tm->Tm
 |[]=>[]
 |(i,v)::r=>(i,f v)::NW f r
theorem L6{f:AV->AV}(hf:f .any = .any)(j:Nat):∀T:Tm,j7 (NW f T) j=f (j7 T j)
 |[]=>hf.symm
 |(i,v)::r=>by
  simp only[NW,j7,L6 hf j r];by_cases h:j=i<;>simp[h]
theorem oK(f:AV->AV):∀(i:Nat)(vs:w_),CJ i (vs.map f)=NW f (CJ i vs)
 |_,[]=>rfl
 |i,v::r=>by simp only[Pa,CJ,NW,oK f (i+1) r]
theorem cL(j:Nat)(b:Tm):∀a:Tm,((a.any λp=>p.1 == j)=true/\j7 (a++b) j=j7 a j)\/((a.any λp=>p.1 == j)=false/\j7 (a++b) j=j7 b j)
 |[]=>Or.inr ⟨rfl,rfl⟩
 |(i,v)::r=>by
  by_cases h:j=i
  ·subst h
   exact Or.inl (by simp[j7])
  ·have h':¬i=j:=λe=>h e.symm
   rcases cL j b r with⟨h1,h2⟩|⟨h1,h2⟩
   ·exact Or.inl ⟨by rw[Nc,h1,Bool.or_true],by simp only[eb,j7,if_neg h,h2]⟩
   ·exact Or.inr ⟨by rw[Nc,h1,Bool.or_false];simpa using h',by simp only[eb,j7,if_neg h,h2]⟩
theorem oJ(j:Nat):∀(i:Nat)(vs:w_),((CJ i vs).any λp=>p.1 == j)=true->j<i+vs.length
 |_,[],h=>by simp[CJ]at h
 |i,v::r,h=>by
  simp only[CJ,Nc,Bool.or_eq_true,beq_iff_eq]at h;rcases h with h|h
  ·simp;omega
  ·have:=oJ j (i+1) r h
   simp;omega
theorem sT(j:Nat):∀(i:Nat)(vs:w_),((CJ i vs).any λp=>p.1 == j)=false->j7 (CJ i vs) j = .any
 |_,[],_=>rfl
 |i,v::r,h=>by
  simp only[CJ,Nc,Bool.or_eq_false_iff,beq_eq_false_iff_ne]at h;simp only[CJ,j7];rw[if_neg λe=>h.1 e.symm,sT j (i+1) r h.2]
theorem NH(σ:F5):BB σ .any = .any:=rfl
def UO(tm:Tm):List LJ->Option (w_)
 |[]=>some []
 |.tmp t::r=>match J8 (tg tm t),UO tm r with
  |some v,some vs=>some (v::vs)
  |_,_=>none
 |.cell _ _ _::_=>none
def bW(N:Nat):List LJ->Bool
 |[]=>true
 |.tmp t::r=>zc t N&&bW N r
 |.cell _ _ _::_=>false
def uG(N:Nat)(fn:AFn)(tm:Tm)(K:AV->Mem->Prop)(bp:Tm)(M':Mem):Prop:=gh N bp=tm/\∃rs,UO bp fn.res=some rs/\K (JS rs) M'
theorem AmJ{σ:F5}{v u:AV}(h:J8 v=some u):u=v/\BB σ v=BK σ v/\J8 (BB σ v)=some (BB σ v):=by
 cases v<;>simp[J8]at h<;>subst h<;>exact⟨rfl,rfl,rfl⟩
theorem qW{σ:F5}{bp:Tm}{M:Mem}{s s':St}(hr:RX σ bp M s')(w7:∀j,j<N->j7 s'.tm j=j7 s.tm j):∀{res:List LJ}{rs:w_},bW N res=true->UO bp res=some rs->res.mapM (FY s)=some (rs.map (BK σ))/\∀v∈rs,BB σ v=BK σ v
 |[],rs,_,h=>by
  simp only[UO,qa]at h;subst h;exact⟨rfl,Z'⟩
 |.cell _ _ _::_,_,_,h=>by simp[UO]at h
 |.tmp t::r,rs,hl,h=>by
  simp only[bW,za]at hl;simp only[UO]at h;cases h1:J8 (tg bp t)with
  |none=>rw[h1]at h;simp at h
  |some v=>
   cases h2:UO bp r with
   |none=>rw[h1,h2]at h;simp at h
   |some vs=>
    rw[h1,h2]at h;simp only[qa]at h;subst h;obtain⟨i1,i2⟩:=qW hr w7 hl.2 h2;obtain⟨rfl,j2,j3⟩:=AmJ (σ:=σ) h1;have:j7 s.tm t=BB σ (tg bp t):=by
     rcases hr.tm t with e|e
     ·rw[e]at h1;cases h1
     ·rw[<-w7 t (VJ.1 hl.1),e]
    refine⟨?_,?_⟩
    ·rw[j2]at j3 this
     simp only[Jb,FY,this,j3,i1,Pa];rfl
    ·intro v hv
     simp only[tc]at hv;rcases hv with rfl|hv
     ·exact j2
     ·exact i2 v hv
theorem Xc{σ:F5}{rs:w_}(h:∀v∈rs,BB σ v=BK σ v):JS (rs.map (BK σ))=BB σ (JS rs):=by
 match rs,h with
 |[],_=>rfl
 |[v],h=>exact(h v Z').symm
 |_::_::_,_=>rfl
theorem IX{f:Nat}{fn:AFn}{vs:w_}{tm:Tm}{M:Mem}{K:AV->Mem->Prop}(N:Nat)(hL:L f=some fn)(hp:te vs.length fn.ch=true)(hN:(Ee fn.ch N&&(J0 N fn.body&&bW N fn.res))=true)
  (h:AA L [.code fn.body] (CJ 0 vs++HX N tm) M (uG N fn tm K)):A8 L f vs tm M K:=by
 intro σ own hs;simp only[za]at hN;obtain⟨n1,n2,n3⟩:=hN;have n1:=ec n1;have hp:vs.length=fn.ch:=me hp;have Hc:RX σ (CJ 0 vs++HX N tm) M ⟨NW (BB σ) (CJ 0 vs++HX N tm),own⟩:=⟨λj=>Or.inr (by rw[L5];exact L6 (NH σ) j _),hs⟩;obtain⟨n,c,s',hr,σ',bp,M',hR,hg,rs,Ac,hk⟩:=h σ _ Hc;have Mv:Gh N (NW (BB σ) (HX N tm)) (CJ 0 (vs.map (BB σ))) (NW (BB σ) (CJ 0 vs++HX N tm)):=by
  constructor
  ·intro j hj
   rw[oK,L6 (NH σ),L6 (NH σ)];rcases cL j (HX N tm) (CJ 0 vs)with⟨_,e⟩|⟨hn,e⟩
   ·rw[e]
   ·rw[e,sV hj,sT j 0 vs hn]
  ·intro j hj
   rw[L6 (NH σ),L6 (NH σ)];rcases cL j (HX N tm) (CJ 0 vs)with⟨hn,e⟩|⟨_,e⟩
   ·have:=oJ j 0 vs hn
    omega
   ·rw[e]
 obtain⟨s,r1,r2,r3⟩:=KA n (by simp[SI,n2]) Mv hr;obtain⟨i1,i2⟩:=qW (s:=s) hR r3.lo n3 Ac;refine⟨JS rs,s.own,σ',M',H1.intro hL (by simpa using hp) ⟨n,c,s,r1,?_,rfl⟩,?_,?_,hk⟩
 ·rw[i1,zb,Xc i2]
 ·rw[<-r2];exact hR.sat
 ·intro j
  have e1:tg tm j=tg bp (N+j):=by rw[L5,L5,<-hg,sS]
  rcases hR.tm (N+j)with e|e
  ·rw[e1,e];rfl
  ·rw[e1,<-e,r3.hi (N+j) O',L6 (NH σ),sU,<-L5,e1]
theorem VG{α:Type}{enc:α->w_}{l:List α}{i:Nat}{vs:w_}{K:v_->Prop}(n:Nat)(e:α)(hn:i=n)(he:vs=enc e)(hz:∀x,(enc x).length=vs.length)(hi:n<l.length)(h:K ((l.set n e).map enc)):BG (l.map enc) i 0 vs K:=by
 subst hn;exact Afo e he hz hi h
theorem IW{x:Int}{len:Nat}{K:Nat->Nat->Prop}(h:Nat)(hx:x=h)(hl:h<=len)(hk:K 0 h):C9 none (some x) len K:=⟨0,h,rfl,⟨O',O',O'⟩,O',hk⟩
end Go.Eng

namespace Go.Eng
section
variable {K:AV->Prop} {a b:Nat} {k':IntKind}
theorem wrap_u32(n:Nat):IntKind.u32.wrap (n:Int)=((n%4294967296:Nat):Int):=by rw[IntKind.wrap_u32];omega
theorem Aok(n:Nat):IntKind.u64.wrap (n:Int)=((n%18446744073709551616:Nat):Int):=by
 simp[IntKind.wrap,IntKind.bits,IntKind.signed]
theorem HH(h:a+b<=18446744073709551615)(hk:K (.int .u64 ((a+b:Nat):Int))):AC .add .u64 (a:Int) .u64 (b:Int) K :=
 ⟨_,by simp only[C5,if_true];rw[IntWalk.u64_in _ O'],by simpa using hk⟩
theorem KL(h:b<=a)(h2:a<=18446744073709551615)(hk:K (.int .u64 ((a-b:Nat):Int))):AC .sub .u64 (a:Int) .u64 (b:Int) K :=
 ⟨_,by simp only[C5,if_true];rw[IntWalk.u64_in _ O'],by rw[show(a:Int)-b=((a-b:Nat):Int)by omega];exact hk⟩
theorem dK(h:b<=18446744073709551616)(hk:K (.int .u64 ((E1 a b:Nat):Int))):AC .sub .u64 (a:Int) .u64 (b:Int) K :=
 dE (v := .int .u64 (IntKind.u64.wrap ((a:Int)-b))) (by simp only[C5,if_true]) (by
  have e:IntKind.u64.wrap ((a:Int)-b)=((E1 a b:Nat):Int):=by
   rw[W8];simp only[IntKind.wrap,IntKind.bits,IntKind.signed];simp;omega
  rw[e];exact hk)
theorem QG(h:a*b<=18446744073709551615)(hk:K (.int .u64 ((a*b:Nat):Int))):AC .mul .u64 (a:Int) .u64 (b:Int) K :=
 ⟨_,by simp only[C5,if_true];rw[<-pd,IntWalk.u64_in _ O'],hk⟩
theorem dH(h:0<b)(h2:a<=18446744073709551615)(hk:K (.int .u64 ((a/b:Nat):Int))):AC .quo .u64 (a:Int) .u64 (b:Int) K:=by
 refine⟨_,by simp only[C5];rw[if_pos ⟨trivial,O'⟩],?_⟩;rw[IntWalk.u64_quo _ _ ⟨O',O',O'⟩,<-Int.natCast_ediv];exact hk
theorem ZR(h:0<b)(hk:K (.int .u64 ((a%b:Nat):Int))):AC .rem .u64 (a:Int) .u64 (b:Int) K:=by
 refine⟨_,by simp only[C5];rw[if_pos ⟨trivial,O'⟩],?_⟩;rw[IntWalk.rem_in _ _ O',<-vf];exact hk
theorem Anc{k:IntKind}{n:Nat}(hn:n<=k.bits):C5 .shl k (a:Int) k' (n:Int)=some (.int k (k.wrap ((a*2^n:Nat):Int))):=by
 simp only[C5];rw[if_neg O',ua,Ob hn];simp
theorem Anf{k:IntKind}{n:Nat}(hn:n<=k.bits):C5 .shr k (a:Int) k' (n:Int)=some (.int k ((a/2^n:Nat):Int)):=by
 simp only[C5];rw[if_neg O',ua,Ob hn,Int.fdiv_eq_ediv_of_nonneg _ (Int.le_of_lt (Int.pow_pos O'))];simp
theorem dI{k:IntKind}{n:Nat}(hn:n<=k.bits)(hk:K (.int k (k.wrap ((a*2^n:Nat):Int)))):AC .shl k (a:Int) k' (n:Int) K:=⟨_,Anc hn,hk⟩
theorem QI{k:IntKind}{n:Nat}(hn:n<=k.bits)(hk:K (.int k ((a/2^n:Nat):Int))):AC .shr k (a:Int) k' (n:Int) K:=⟨_,Anf hn,hk⟩
theorem OA(h:a<=4294967295)(hk:K (.int .u64 ((a*4294967296:Nat):Int))):AC .shl .u64 (a:Int) k' 32 K:=by
 refine dI (n:=32) Y' ?_;rw[Aok,show a*2^32%18446744073709551616=a*4294967296 by omega];exact hk
theorem GD(hk:K (.int .u64 ((a/4294967296:Nat):Int))):AC .shr .u64 (a:Int) k' 32 K:=QI (n:=32) Y' hk
theorem dJ(hk:K (.int .u64 ((a/9223372036854775808:Nat):Int))):AC .shr .u64 (a:Int) k' 63 K:=QI (n:=63) Y' hk
theorem Ae9(hk:K (.int .u64 ((a/4:Nat):Int))):AC .shr .u64 (a:Int) k' 2 K:=QI (n:=2) Y' hk
theorem Ae8(hk:K (.int .u32 ((a/65536:Nat):Int))):AC .shr .u32 (a:Int) k' 16 K:=QI (n:=16) Y' hk
theorem Afa(hk:K (.int .u32 ((a/256:Nat):Int))):AC .shr .u32 (a:Int) k' 8 K:=QI (n:=8) Y' hk
theorem Ae7(hk:K (.int .u32 ((a/2:Nat):Int))):AC .shr .u32 (a:Int) k' 1 K:=QI (n:=1) Y' hk
theorem qB(w n:Nat):(Bb w (n:Int)).toNat=n%2^w:=by rw[BitVec.toNat_ofInt];omega
theorem Ame{n x y:Nat}(hx:x%2^n=0)(hy:y<2^n):x ||| y=x+y:=by
 have e:x=2^n*(x/2^n):=by have:=fc x (2^n);omega
 rw[e,<-Nat.two_pow_add_eq_or_of_lt hy]
theorem kM{k:IntKind}(n:Nat)(hx:a%2^n=0)(hy:b<2^n)(h:a+b<2^k.bits)(hw:k.wrap ((a+b:Nat):Int)=((a+b:Nat):Int))(hk:K (.int k ((a+b:Nat):Int))):AC .or k (a:Int) k (b:Int) K:=by
 refine dE (v := .int k (k.wrap (Bb k.bits (a:Int) ||| Bb k.bits (b:Int)).toNat)) (by simp only[C5,if_true]) ?_;rw[BitVec.toNat_or,qB,qB,Dc O',Dc O',Ame hx hy,hw];exact hk
theorem QH(h:a%4294967296=0/\b<4294967296/\a+b<=18446744073709551615)(hk:K (.int .u64 ((a+b:Nat):Int))):AC .or .u64 (a:Int) .u64 (b:Int) K :=
 kM 32 h.1 h.2.1 (show a+b<18446744073709551616 by omega) (IntWalk.u64_in _ O') hk
theorem uA(h:a<=18446744073709551615)(hk:K (.int .u64 ((a%4294967296:Nat):Int))):AC .and .u64 (a:Int) .u64 4294967295 K:=by
 refine dE (v := .int .u64 (IntKind.u64.wrap (Bb IntKind.u64.bits (a:Int) &&& Bb IntKind.u64.bits 4294967295).toNat)) (by simp only[C5,if_true]) ?_;rw[BitVec.toNat_and,qB,show(Bb IntKind.u64.bits 4294967295).toNat=2^32-1 by decide,Nat.and_two_pow_sub_one_eq_mod,show a%2^IntKind.u64.bits=a from Dc (show a<18446744073709551616 by omega),IntWalk.u64_in _ O'];exact hk
theorem tZ(hk:K (.int .u32 (((a+b)%4294967296:Nat):Int))):AC .add .u32 (a:Int) .u32 (b:Int) K :=
 dE (v := .int .u32 (IntKind.u32.wrap ((a:Int)+b))) (by simp only[C5,if_true]) (by rw[<-gf,wrap_u32];exact hk)
end
section
variable {K:Int->Prop} {n:Nat}
theorem tO(h:n<=18446744073709551615)(hk:K (n:Int)):A0 .u64 (n:Int) K:=ZM (IntWalk.u64_in _ O') hk
theorem EP(h:n<=4294967295)(hk:K (n:Int)):A0 .u32 (n:Int) K:=ZM (IntWalk.u32_in _ O') hk
theorem GV(hk:K ((n%4294967296:Nat):Int)):A0 .u32 (n:Int) K:=⟨by rw[wrap_u32];exact hk⟩
theorem AeU(h:n<=255)(hk:K (n:Int)):A0 .u8 (n:Int) K:=ZM (IntWalk.u8_in _ O') hk
end
theorem dQ{tb:u_}{n v:Nat}{K:Nat->Prop}(hv:tb[n]?=some v)(hk:K v):VH tb (n:Int) K:=⟨O',v,by rw[ua];exact hv,hk⟩
abbrev AJ(n:Nat):w_:=[.int .u32 (n:Int)]
theorem CS(l:u_):DB (l.map AJ):=LS (λ_=>by simp[BI,AY]) l
section
variable {l:u_} {K:w_->Prop}
theorem dL{n:Nat}(hD:A1 l)(hn:n<l.length)(h:∀e,l[n]?=some e->e<4294967296->K (AJ e)):AX (l.map AJ) (n:Int) 1 K :=
 IG hn (λ_=>rfl) λe he=>h e he (hD.at he)
theorem RQ{a:Int}(hD:A1 l)(hn:0<=a/\a<l.length)(h:∀e,l[a.toNat]?=some e->e<4294967296->K (AJ e)):AX (l.map AJ) a 1 K :=
 RR hn (λ_=>rfl) λe he=>h e he (hD.at he)
theorem tX{i:Nat}(hD:A1 l)(hi:i<l.length)(h:∀e,l[i]?=some e->e<4294967296->K (AJ e)):BD (l.map AJ) (0+((i:Int)).toNat) 0 1 K :=
 U7 (f:=AJ) hi (λ_=>rfl) λe he=>h e he (hD.at he)
theorem U6{i:Int}(hD:A1 l)(hi:0<=i/\i<l.length)(h:∀e,l[i.toNat]?=some e->e<4294967296->K (AJ e)):BD (l.map AJ) (0+i.toNat) 0 1 K :=
 kJ (f:=AJ) hi (λ_=>rfl) λe he=>h e he (hD.at he)
theorem F4{i v:Nat}{KK:v_->Prop}(hi:i<l.length)(h:KK ((l.set i v).map AJ)):BG (l.map AJ) (0+((i:Int)).toNat) 0 [.int .u32 (v:Int)] KK:=HS (enc:=AJ) v rfl (λ_=>rfl) hi h
theorem dP{i v:Nat}{KK:v_->Prop}(n:Nat)(hn:i=n)(hi:n<l.length)(h:KK ((l.set n v).map AJ)):BG (l.map AJ) i 0 [.int .u32 (v:Int)] KK:=VG (enc:=AJ) n v hn rfl (λ_=>rfl) hi h
end
end Go.Eng
namespace Go.Eng
variable {L:Lib}
theorem Ev.xE{f:Nat}{fn:AFn}{vs:w_}{P:AV->Prop}(hL:L f=some fn)(hp:te vs.length fn.ch=true)(hd:MH vs=true)(h:AA L [.code fn.body] (CJ 0 vs) [] (λtm M=>∃r,QK fn r tm M/\P r))(hs:fn.rn=false:=by rfl):∃r,Ev L f vs r/\P r:=by
 obtain⟨n,c,n9,hr,σ,tm,M,hR,r,hq,hP⟩:=h (λ_ _=>(0,0)) ⟨CJ 0 vs,Own.emp⟩ ⟨λj=>Or.inr (by rw[L5];exact aC hd j),⟨(λ_ _ _ e=>by cases e),(λ_ _ _ e=>by simp[c8,e8]at e),(λ_ _ _ e=>by simp[c8,e8]at e),(λ_ _ _ _ _ _ e=>by simp[c8,e8]at e),(λ_ _ _ e=>by simp[c8,e8]at e)⟩⟩;exact⟨r,Ev.fwd hL (BL.1 hp) ⟨n,c,n9,hr,uH hR hq⟩ hs,hP⟩
def YU:DU->Bool
 |.z8 .. |.box .. |.alloc .. |.b8 .. |.lit .. |.st .. |.mk .. |.app .. |.j5 .. |.u6 .. |.po .. |.x5 .. |.di .. |.cz .. |.pj .. |.pn .. |.nf .. |.fe .. =>false
 |_=>true
def J1:BF->Bool
 |.skip=>true
 |.ops l _=>l.all λa=>YU a.op
 |.dr c _ ss=>J1 c&&ss.isEmpty
 |.scope c=>J1 c
 |.seq a b=>J1 a&&J1 b
 |.cond _ a b=>J1 a&&J1 b
 |.block _ c=>J1 c
 |.loop c=>J1 c
 |.exit _=>true
 |.ret=>true
def Q0:It->Bool
 |.code c=>J1 c
 |.ot _ ss=>ss.isEmpty
 |.c9 _=>true
 |.lp c=>J1 c
theorem Ail{C:Cl}{b9:u_}{ρ:AL->AV}{own:Own}{op:DU}{E:B3}(ho:YU op=true)(h:e9 C b9 ρ own op=some E):∃v,E = .val v:=by
 cases op<;>first|(simp[YU]at ho;done)|skip
 all_goals simp only[e9]at h
 all_goals
  first
   |(simp only[qa]at h;exact⟨_,h.symm⟩)
   |(simp only[Hd]at h;obtain⟨_,_,rfl⟩:=h;exact⟨_,rfl⟩)
   |skip
 all_goals (repeat' split at h)
 all_goals
  first
   |(cases h;done)
   |(simp only[qa]at h;exact⟨_,h.symm⟩)
   |(simp only[Hd]at h;obtain⟨_,_,rfl⟩:=h;exact⟨_,rfl⟩)
theorem AnE{C:Cl}{a:AI}(ho:YU a.op=true){s s':St}(h:CQ C a s=some s'):s'.own=s.own:=by
 unfold CQ at h;split at h
 ·cases he:e9 C a.b9 s.ev s.own a.op with
  |none=>rw[he]at h;cases h
  |some E=>
   rw[he]at h;obtain⟨v,rfl⟩:=Ail ho he;simp only[zb,qa]at h;subst h;simp only[St.app];cases a.dst<;>rfl
 ·simp only[qa]at h
  subst h;cases a.dst<;>rfl
 ·cases h
theorem Zi{C:Cl}:∀{l:List AI},(l.all λa=>YU a.op)=true->∀{s s':St},DC C l s=some s'->s'.own=s.own
 |[],_,s,s',h=>by simp only[DC,qa]at h;rw[h]
 |a::l,ho,s,s',h=>by
  simp only[ya,za]at ho;simp only[DC]at h;cases h1:CQ C a s with
  |none=>rw[h1]at h;cases h
  |some s1=>
   rw[h1]at h;rw[Zi ho.2 h,AnE ho.1 h1]
theorem aL{id:Nat}:∀{k k':List It},k.all Q0=true->GG id k=some k'->k'.all Q0=true
 |[],_,_,h=>by simp[GG]at h
 |it::k,k',hk,h=>by
  simp only[ya,za]at hk;cases it with
  |c9 i=>
   simp only[GG]at h;split at h
   ·cases h;exact hk.2
   ·exact aL hk.2 h
  |code c=>simp only[GG]at h;exact aL hk.2 h
  |ot a b=>simp only[GG]at h;exact aL hk.2 h
  |lp c=>simp only[GG]at h;exact aL hk.2 h
theorem KB{C:Cl}:∀(n:Nat){k:List It},k.all Q0=true->∀{s s':St},run C n k s=some s'->s'.own=s.own
 |0,k,_,s,s',h=>by simp[run]at h
 |n+1,[],_,s,s',h=>by
  simp only[run,qa]at h;rw[h]
 |n+1,it::k,hk,s,s',h=>by
  have jg:=hk;simp only[ya,za]at hk;obtain⟨hi,hk⟩:=hk;cases it with
  |c9 _=>simp only[run]at h;exact KB n hk h
  |ot ts ss=>
   have:ss=[]:=by simpa [Q0]using hi
   subst this;simp only[run]at h;rw[KB n hk h];rfl
  |lp c=>simp only[run]at h;exact KB n (by simp only[ya,za];exact⟨hi,hi,hk⟩) h
  |code c=>
   cases c with
   |skip=>simp only[run]at h;exact KB n hk h
   |ops l d=>
    simp only[run]at h;cases h1:DC C l s with
    |none=>rw[h1]at h;cases h
    |some s1=>
     rw[h1]at h;rw[KB n hk h,Zi (show(l.all λa=>YU a.op)=true from hi) h1]
   |dr c ts ss=>
    simp only[run]at h;simp only[Q0,J1,za]at hi;exact KB n (by simp only[ya,za];exact⟨hi.1,hi.2,hk⟩) h
   |scope c=>simp only[run]at h;exact KB n (by simp only[ya,za];exact⟨hi,hk⟩) h
   |seq a b=>
    simp only[run]at h;simp only[Q0,J1,za]at hi;exact KB n (by simp only[ya,za];exact⟨hi.1,hi.2,hk⟩) h
   |cond x a b=>
    simp only[Q0,J1,za]at hi;simp only[run]at h;split at h
    ·exact KB n (by simp only[ya,za];exact⟨hi.1,hk⟩) h
    ·exact KB n (by simp only[ya,za];exact⟨hi.2,hk⟩) h
    ·cases h
   |block id c=>simp only[run]at h;exact KB n (by simp only[ya,za];exact⟨hi,rfl,hk⟩) h
   |loop c=>simp only[run]at h;exact KB n (by simp only[ya,za];exact⟨hi,hi,hk⟩) h
   |exit id=>
    simp only[run]at h;split at h
    ·rename_i k' he
     exact KB n (aL hk he) h
    ·cases h
   |ret=>
    simp only[run,qa]at h;rw[h]
def Afi(fn:AFn)(r:AV)(tm:Tm)(_M:Mem):Prop := ∃rs,UO tm fn.res=some rs/\JS rs=r
def eT:AV->Bool
 |.j4 vs=>MH vs
 |v=>R1 v
theorem wI{σ:F5}{v:AV}(h:eT v=true):BB σ v=v:=by
 cases v with
 |j4 vs=>
  simp only[BB];congr 1;simp only[eT]at h;induction vs with
  |nil=>rfl
  |cons v r ih=>
   simp only[MH]at h;cases hv:R1 v<;>simp only[hv,cond_true,cond_false]at h
   ·cases h
   ·rw[Pa,ih h]
    congr 1;cases v<;>first|rfl|(simp[R1,ug]at hv;done)|skip
    rename_i cs;exact eR (σ:=σ) (v := .agg cs) hv
 |_=>exact eR (σ:=σ) h
def ZU(L:Lib)(f:Nat)(vs:w_)(r:AV):Prop:=eT r=true/\(∀σ:F5,vs.map (BB σ)=vs)/\∀own:Own,H1 L f vs own r own
theorem wG{σ:F5}:∀{vs:w_},MH vs=true->vs.map (BB σ)=vs
 |[],_=>rfl
 |v::r,h=>by
  simp only[MH]at h;cases hv:R1 v<;>simp only[hv,cond_true,cond_false]at h
  ·cases h
  ·rw[Pa,eR hv,wG h]
theorem Afj{f:Nat}{fn:AFn}{vs:w_}{r:AV}(hL:L f=some fn)(hp:te vs.length fn.ch=true)(hd:MH vs=true)(yk:J1 fn.body=true)(hlt:bW 100000 fn.res=true)(hr:eT r=true)(h:AA L [.code fn.body] (CJ 0 vs) [] (Afi fn r)):ZU L f vs r:=by
 refine⟨hr,λσ=>wG hd,λown=>?_⟩;obtain⟨n,c,n9,w5,σ,tm,M,hR,rs,Ac,he⟩:=h (λ_ _=>(0,0)) ⟨CJ 0 vs,own⟩ ⟨λj=>Or.inr (by rw[L5];exact aC hd j),⟨(λ_ _ _ e=>by cases e),(λ_ _ _ e=>by simp[c8,e8]at e),(λ_ _ _ e=>by simp[c8,e8]at e),(λ_ _ _ _ _ _ e=>by simp[c8,e8]at e),(λ_ _ _ e=>by simp[c8,e8]at e)⟩⟩;have ho:=KB n (by simp[Q0,yk]) w5;obtain⟨i1,i2⟩:=qW (N:=100000) (s:=n9) hR (λ_ _=>rfl) hlt Ac;refine H1.intro hL (BL.1 hp) ⟨n,c,n9,w5,?_,ho⟩;rw[i1,zb,Xc i2,he,wI hr]
theorem L9{f:Nat}{vs:w_}{r:AV}{tm:Tm}{M:Mem}{K:AV->Mem->Prop}(h:ZU L f vs r)(hk:K r M):A8 L f vs tm M K:=by
 intro σ own hs;refine⟨r,own,σ,M,?_,hs,λ_=>rfl,hk⟩;rw[h.2.1 σ,wI h.1];exact h.2.2 own
end Go.Eng

namespace Go.Eng
variable {L:Lib}
def kQ(fn:AFn)(z:Nat)(es:v_)(tm:Tm)(M:Mem):Prop:=match fn.res with
 |[.tmp t]=>match tg tm t with
  |.row k 0 z' 0 n=>match e8 M k with
   |some (_,.rw db es')=>z'=z/\db=z/\n=es.length/\es'=es/\DB es
   |_=>False
  |_=>False
 |_=>False
theorem NJ.x{f:Nat}{fn:AFn}{vs:w_}{z:Nat}{es:v_}(hL:L f=some fn)(hp:te vs.length fn.ch=true)(hd:MH vs=true)(h:AA L [.code fn.body] (CJ 0 vs) [] (kQ fn z es)):NJ L f vs z es:=by
 obtain⟨n,c,n9,hr,σ,tm,M,hR,hq⟩:=h (λ_ _=>(0,0)) ⟨CJ 0 vs,Own.emp⟩ ⟨λj=>Or.inr (by rw[L5];exact aC hd j),⟨(λ_ _ _ e=>by cases e),(λ_ _ _ e=>by simp[c8,e8]at e),(λ_ _ _ e=>by simp[c8,e8]at e),(λ_ _ _ _ _ _ e=>by simp[c8,e8]at e),(λ_ _ _ e=>by simp[c8,e8]at e)⟩⟩;unfold kQ at hq;split at hq
 ·rename_i t mi
  split at hq
  ·rename_i k z' m Dt
   split at hq
   ·rename_i s db es' hM
    obtain⟨rfl,rfl,rfl,rfl,s8⟩:=hq;have hv:j7 n9.tm t = .row (σ k 0).1 (σ k 0).2 db 0 es'.length:=by
     rcases hR.tm t with e|e
     ·rw[Dt]at e;cases e
     ·rw[e,Dt];rfl
    have hb:=hR.sat.c9 k 0 (.rw db es') (by simp only[c8,hM]);obtain⟨q,hq⟩:=H1.intro (r := .row (σ k 0).1 (σ k 0).2 db 0 es'.length) (o':=n9.own) hL (BL.1 hp) ⟨n,c,n9,hr,by simp[mi,FY,hv,J8,JS],rfl⟩;refine⟨q,?_⟩;simp only[hq,OD,Own.get,hb];rw[if_pos (show(BA.c9 σ k (.rw db es')).es.length=es'.length/\DB (BA.c9 σ k (.rw db es')).es from⟨rfl,s8⟩)];rfl
   ·exact hq.elim
  ·exact hq.elim
 ·exact hq.elim
theorem Ael{Q:Tm->Mem->Prop}{c:BF}{k:List It}{tm:Tm}{M:Mem}(n:Nat)(h:fT (wh 0 tm) λtm=>YN M λM=>XK L Q n (.code c::k) tm M):AA L (.code c::k) tm M Q:=by
 rw[YB,gW]at h;exact tE (kS h)
theorem cW{α:Type}{enc:α->w_}{l:List α}{f z:Nat}{vs:w_}{K:Nat->v_->Nat->Prop}(n:Nat)(h:NJ L f vs z (l.map enc))(hn:n=l.length)(hk:K z (l.map enc) n):QD L f vs K:=⟨z,_,n,h,by simpa using hn,hk⟩
end Go.Eng

namespace Go.Eng
def YY(N:Nat):List LJ->Bool
 |[]=>true
 |.tmp t::r=>zc t N&&YY N r
 |.cell t _ _::r=>zc t N&&YY N r
theorem qY{N:Nat}{s s':St}(ho:s.own=s'.own)(w7:∀j,j<N->j7 s'.tm j=j7 s.tm j):∀{res:List LJ},YY N res=true->res.mapM (FY s)=res.mapM (FY s')
 |[],_=>rfl
 |.tmp t::r,h=>by
  simp only[YY,za]at h;have:=qY ho w7 h.2
  simp only[Jb,FY,w7 t (VJ.1 h.1),this]
 |.cell t agg n::r,h=>by
  simp only[YY,za]at h;have:=qY ho w7 h.2
  simp only[Jb,FY,w7 t (VJ.1 h.1),this,ho]
def Afh(N:Nat)(fn:AFn)(tm:Tm)(K:AV->Mem->Prop)(bp:Tm)(M':Mem):Prop:=gh N bp=tm/\iY bp M' fn.res (λrs=>rsv rs λv=>K v M')
theorem EK{L:Lib}{f:Nat}{fn:AFn}{vs:w_}{tm:Tm}{M:Mem}{K:AV->Mem->Prop}(N:Nat)(hL:L f=some fn)(hp:te vs.length fn.ch=true)(hN:(Ee fn.ch N&&(J0 N fn.body&&YY N fn.res))=true)
  (h:AA L [.code fn.body] (CJ 0 vs++HX N tm) M (Afh N fn tm K)):A8 L f vs tm M K:=by
 intro σ own hs;simp only[za]at hN;obtain⟨n1,n2,n3⟩:=hN;have n1:=ec n1;have hp:vs.length=fn.ch:=me hp;have Hc:RX σ (CJ 0 vs++HX N tm) M ⟨NW (BB σ) (CJ 0 vs++HX N tm),own⟩:=⟨λj=>Or.inr (by rw[L5];exact L6 (NH σ) j _),hs⟩;obtain⟨n,c,s',hr,σ',bp,M',hR,hg,mi⟩:=h σ _ Hc;have Mv:Gh N (NW (BB σ) (HX N tm)) (CJ 0 (vs.map (BB σ))) (NW (BB σ) (CJ 0 vs++HX N tm)):=by
  constructor
  ·intro j hj
   rw[oK,L6 (NH σ),L6 (NH σ)];rcases cL j (HX N tm) (CJ 0 vs)with⟨_,e⟩|⟨hn,e⟩
   ·rw[e]
   ·rw[e,sV hj,sT j 0 vs hn]
  ·intro j hj
   rw[L6 (NH σ),L6 (NH σ)];rcases cL j (HX N tm) (CJ 0 vs)with⟨hn,e⟩|⟨_,e⟩
   ·have:=oJ j 0 vs hn
    omega
   ·rw[e]
 obtain⟨s,r1,r2,r3⟩:=KA n (by simp[SI,n2]) Mv hr;obtain⟨rs,i1,i2,i3⟩:=qX hR mi;rw[<-qY (s:=s) r2.symm r3.lo n3,i3]at i1;have key:∃r,JS (rs.map (BK σ'))=BB σ' r/\K r M':=by
  match rs,i2,i3 with
  |[],h,_=>exact⟨.j4 [],rfl,h⟩
  |[v],h,e=>
   simp only[Pa,Mf,xd,and_true]at e;exact⟨v,by simp only[Pa,Mf,JS];exact e.symm,h⟩
  |a::b::l,h,_=>exact⟨.j4 (a::b::l),rfl,h⟩
 obtain⟨r,k1,k2⟩:=key;refine⟨r,s.own,σ',M',H1.intro hL (by simpa using hp) ⟨n,c,s,r1,?_,rfl⟩,?_,?_,k2⟩
 ·rw[i1,zb,k1]
 ·rw[<-r2];exact hR.sat
 ·intro j
  have e1:tg tm j=tg bp (N+j):=by rw[L5,L5,<-hg,sS]
  rcases hR.tm (N+j)with e|e
  ·rw[e1,e];rfl
  ·rw[e1,<-e,r3.hi (N+j) O',L6 (NH σ),sU,<-L5,e1]
end Go.Eng

namespace Go.Eng
theorem Xi{A w C:u_}{i n:Nat}(hi:i=A.length+n)(hn:n<w.length):(A++w++C)[i]?=w[n]? := by
 subst hi;rw[rb,kd O',ze,Md hn]
theorem Aof{A w C:u_}{i n v:Nat}(hi:i=A.length+n)(hn:n<w.length):(A++w++C).set i v=A++w.set n v++C:=by
 subst hi;rw[rb,pe _ _ O',ze,List.set_append_left _ _ hn,rb]
theorem OC{A w C:u_}{i v:Nat}{KK:v_->Prop}(n:Nat)(hi:i=A.length+n)(hn:n<w.length)(h:KK ((A++w.set n v++C).map AJ)):BG ((A++w++C).map AJ) i 0 [.int .u32 (v:Int)] KK:=by
 have hl:i<(A++w++C).length:=by simp;omega
 refine VG (enc:=AJ) i v rfl rfl (λ_=>rfl) hl ?_;rw[Aof hi hn];exact h
theorem AlQ{W X Vi p q u d c b pr t:Nat}(h:W+q*Vi=X+p*(c+b))(tv:pr=q*d+c)(ht:t=E1 (E1 u (pr%4294967296)) b)(hu:u<4294967296)(hb:b<=1) :
  W+p*(t%4294967296)+q*(Vi+p*d)=X+p*u+p*4294967296*(pr/4294967296+t/9223372036854775808):=by
 obtain⟨h1,_⟩:=jY hu (show pr%4294967296<4294967296 by omega) hb;rw[<-ht]at h1;have h2:=fc pr 4294967296;generalize t%4294967296=w at*;generalize t/9223372036854775808=b' at*;generalize pr%4294967296=pl at*;generalize pr/4294967296=ph at*;have e1:p*(w+pl+b)=p*(u+4294967296*b'):=by rw[h1]
 have e2:p*(pl+4294967296*ph)=p*(q*d+c):=by rw[h2,tv]
 grind
theorem To{q d c pr:Nat}(hq:q<4294967296)(hd:d<4294967296)(hc:c<4294967296)(tv:pr=q*d+c):pr/4294967296<4294967296/\pr<=18446744073709551615/\q*d<=18446744065119617025:=by
 have:=YR hq hd
 omega
theorem AlO{W X V p q u c b t:Nat}(h:W+q*V=X+p*(c+b))(ht:t=E1 (E1 u c) b)(hu:u<4294967296)(hc:c<4294967296)(hb:b<=1) :
  W+p*(t%4294967296)+q*V=X+p*u+p*4294967296*(t/9223372036854775808):=by
 obtain⟨h1,_⟩:=jY hu hc hb;rw[<-ht]at h1;generalize t%4294967296=w at*;generalize t/9223372036854775808=b' at*;have e1:p*(w+c+b)=p*(u+4294967296*b'):=by rw[h1]
 grind
theorem AlR{W X Vi p q u d c b pr w take have' dc:Nat}(h:W+q*Vi=X+p*(c+b))(tv:pr=c+q*d)(h1:take=pr%4294967296+b)(h2:(have'=u/\dc=0/\take<=u)\/(have'=u+4294967296/\dc=1/\u<take))(h3:w+take=have') :
  W+p*w+q*(Vi+p*d)=X+p*u+p*4294967296*(pr/4294967296+dc):=by
 have h4:=fc pr 4294967296;have h5:w+pr%4294967296+b=u+4294967296*dc:=O'
 generalize pr%4294967296=pl at*;generalize pr/4294967296=ph at*;have e1:p*(w+pl+b)=p*(u+4294967296*dc):=by rw[h5]
 have e2:p*(pl+4294967296*ph)=p*(c+q*d):=by rw[h4,tv]
 grind
theorem AlP{W X V p q u c b w take have' dc:Nat}(h:W+q*V=X+p*(c+b))(h1:take=c+b)(h2:(have'=u/\dc=0/\take<=u)\/(have'=u+4294967296/\dc=1/\u<take))(h3:w+take=have') :
  W+p*w+q*V=X+p*u+p*4294967296*dc:=by
 have h5:w+c+b=u+4294967296*dc:=O'
 have e1:p*(w+c+b)=p*(u+4294967296*dc):=by rw[h5]
 grind
theorem uN{W X Vi p w d c t:Nat}(h:W+p*c=X+Vi)(ht:t=w+d+c):W+p*(t%4294967296)+p*4294967296*(t/4294967296)=X+p*w+(Vi+p*d):=by
 have h1:=QO W p t;have e:p*t=p*w+p*d+p*c:=by rw[ht];grind
 omega
theorem uM{W X V R p w c:Nat}(h:W+p*c=X+V)(hX:X+p*w+V=R+p*4294967296)(hR:R<p*4294967296)(hW:W<p):W+p*((w+c)%4294967296)=R:=by
 have h1:W+p*(w+c)=R+p*4294967296:=by
  rw[Oa];omega
 have h2:=fc (w+c) 4294967296;have h3:p*(w+c)=p*((w+c)%4294967296)+p*4294967296*((w+c)/4294967296):=by
  rw[Ga,<-Oa,h2]
 have h4:(w+c)%4294967296<4294967296:=gd _ O';generalize (w+c)%4294967296=m at*;generalize (w+c)/4294967296=k at*;have h5:W+p*m<p*4294967296:=by
  have:p*m+p<=p*4294967296:=by rw[<-Jf];exact ga p O'
  omega
 have h6:k=1:=by
  rcases Gb k 1 with hk|hk|hk
  ·have:k=0:=O'
   subst this;omega
  ·exact hk
  ·have:p*4294967296*2<=p*4294967296*k:=ga _ O'
   omega
 subst h6;omega
theorem An0{U V UL VL p u2 v2 v1 top:Nat}(hU:U=UL+p*(u2+4294967296*top))(hV:V=VL+p*(v2+4294967296*v1))(Bf:VL<p)(h2:v2<4294967296)(h:U<4294967296*V):top<4294967296*(v1+1):=by
 have h3:V<p*(4294967296*(v1+1)):=by
  have:p*(v2+4294967296*v1)+p<=p*(4294967296*(v1+1)):=by
   rw[<-Jf];exact ga p O'
  omega
 have h4:p*(4294967296*top)<=U:=by
  have:p*(4294967296*top)<=p*(u2+4294967296*top):=ga p O'
  omega
 have h5:p*(4294967296*top)<p*(4294967296*(4294967296*(v1+1))):=by
  have:p*(4294967296*(4294967296*(v1+1)))=4294967296*(p*(4294967296*(v1+1))):=A'
  omega
 have:=vb h5
 omega
structure Gs(U V v1 v2 u2 top q r:Nat):Prop where
 hq:q*v1+r=top
 hr:r<4294967296
 ge:U/V<=q
theorem Gs.next{U V UL VL p v1 v2 u2 top q r:Nat}(g:Gs U V v1 v2 u2 top q r)(hU:U=UL+p*(u2+4294967296*top))(hV:V=VL+p*(v2+4294967296*v1))(zr:UL<p)(bn:0<V)(Iw:U<4294967296*V)
  (h:4294967296<=q\/r*4294967296+u2<q*v2):1<=q/\(q-1)*v1+(r+v1)=top/\U/V<=q-1:=by
 have h1:U/V<q:=by
  rcases h with h|h
  ·exact Akm Iw h bn
  ·exact Akn hU hV zr g.hq h bn
 have hq:=g.hq;clear h g hU hV Iw;generalize U/V=Q at*;obtain⟨k,rfl⟩:∃k,q=k+1:=⟨q-1,O'⟩;refine⟨O',?_,O'⟩;rw[Nat.add_sub_cancel,<-hq,yd];omega
theorem Gs.start{U V UL VL p v1 v2 u2 top:Nat}(hU:U=UL+p*(u2+4294967296*top))(hV:V=VL+p*(v2+4294967296*v1))(zr:UL<p)(h2:u2<4294967296)(bn:0<V)(h1:0<v1)(h1b:v1<4294967296):Gs U V v1 v2 u2 top (top/v1) (top%v1):=by
 refine⟨by rw[pc];exact lf _ _,?_,?_⟩
 ·have:=gd top h1
  omega
 ·rw[Nat.le_div_iff_mul_le h1]
  exact Ako hU hV zr h2 bn
theorem YF{U V UL VL p v1 v2 u2 top q r:Nat}(hU:U=UL+p*(u2+4294967296*top))(hV:V=VL+p*(v2+4294967296*v1))(Bf:VL<p)(Co:2147483648<=v1)(Jr:v2<4294967296)(Iw:U<4294967296*V)(hq:q*v1+r=top)
  (h:(q<4294967296/\q*v2<=r*4294967296+u2)\/4294967296<=r):q<4294967296/\q<=U/V+1:=by
 rcases h with⟨h1,h2⟩|h
 ·exact⟨h1,Qj hU hV Bf Co hq h2 h1⟩
 ·have ht:=An0 hU hV Bf Jr Iw
  have wv:q<4294967296:=by
   have h3:q*v1<4294967296*v1:=O'
   exact Od h3
  refine⟨wv,Qj hU hV Bf Co hq ?_ wv⟩;have:=YR wv Jr
  omega
theorem W7(a:u_)(k:Nat):val a=val (a.take k)+4294967296^k*val (a.drop k):=by
 rcases oc a.length k with h|h
 ·rw[zT O',sa O',KH];omega
 ·exact LH a k h
theorem W6(a:u_)(k:Nat):val (a.drop k)=a.getD k 0+4294967296*val (a.drop (k+1)):=by
 rcases oc k a.length with h|h
 ·rw[IU (zE h),va,zE h];rfl
 ·rw[sa h,sa O',va,oe h];rfl
theorem SG{a:u_}(h:A1 a)(k:Nat):a.getD k 0<4294967296:=by
 rw[va];cases e:a[k]? with
 |none=>simp
 |some d=>simpa using h.at e
theorem getD_some{a:u_}{k d:Nat}(h:a[k]?=some d):d=a.getD k 0:=by rw[va,h];rfl
theorem getD_none{a:u_}{k:Nat}(h:a.length<=k):0=a.getD k 0:=by rw[va,oe h];rfl
theorem kE{a:u_}(hD:A1 a){n:Nat}(hn:3<=n)(hl:a.length<=n):∃r,r<4294967296^(n-3)/\val a=r+4294967296^(n-3)*(a.getD (n-3) 0+4294967296*(a.getD (n-2) 0+4294967296*a.getD (n-1) 0)):=by
 refine⟨val (a.take (n-3)),?_,?_⟩
 ·refine Jc (FM (hD.take _)) (fb O' ?_)
  rw[Ma];omega
 ·have h1:=W7 a (n-3)
  have h2:=W6 a (n-3);have h3:=W6 a (n-3+1);have h4:=W6 a (n-3+1+1);rw[sa (show a.length<=n-3+1+1+1 by omega),KH]at h4;rw[show n-3+1=n-2 by omega]at*;rw[show n-2+1=n-1 by omega]at*;rw[h4,Fa,Da]at h3;rw[h3]at h2;rw[h2]at h1;exact h1
theorem Yl{a:u_}(hD:A1 a){n:Nat}(hn:2<=n)(hl:a.length<=n):∃r,r<4294967296^(n-2)/\val a=r+4294967296^(n-2)*(a.getD (n-2) 0+4294967296*a.getD (n-1) 0):=by
 refine⟨val (a.take (n-2)),?_,?_⟩
 ·refine Jc (FM (hD.take _)) (fb O' ?_)
  rw[Ma];omega
 ·have h1:=W7 a (n-2)
  have h2:=W6 a (n-2);have h3:=W6 a (n-2+1);rw[sa (show a.length<=n-2+1+1 by omega),KH]at h3;rw[show n-2+1=n-1 by omega]at*;rw[h3,Fa,Da]at h2;rw[h2]at h1;exact h1
theorem R2{a b:Nat}(h:a<=b):(dg a).length<=(dg b).length:=by
 rcases oc (dg b).length (dg a).length with h1|h1
 ·have:=ZH h1;omega
 ·exact h1
theorem lW{p:Nat}(h:p<18446744073709551616):val [p%4294967296,p/4294967296]=p/\A1 [p%4294967296,p/4294967296]:=by
 refine⟨by simp[val];omega,λx hx=>?_⟩;simp at hx;omega
theorem H7{a:u_}{k d:Nat}(h:a[k]?=some d):a.getD k 0=d:=(getD_some h).symm
theorem oU{y:u_}{s yt:Nat}(hD:A1 y)(yw:y[y.length-1]?=some yt)(hl:1<=y.length)(hs:s<=31)(b3:2147483648<=yt*2^s)(b4:yt*2^s<4294967296):val y*2^s<4294967296^y.length/\4294967296^(y.length-1)*2147483648<=val y*2^s:=by
 have h1:=LH y (y.length-1) O';have h2:=IU yw;rw[sa (show y.length<=y.length-1+1 by omega),KH,Fa,Da]at h2;rw[h2]at h1;have h3:=FM (hD.take (y.length-1));rw[Ma,Ob O']at h3;have e:4294967296^y.length=4294967296^(y.length-1)*4294967296:=by rw[<-Na,Nat.succ_eq_add_one,show y.length-1+1=y.length by omega]
 rw[e];generalize 4294967296^(y.length-1)=p at*;have hk:(yt+1)*2^s<=4294967296:=by
  have e2:4294967296=2^s*2^(32-s):=by rw[<-Ba,show s+(32-s)=32 by omega]
  rw[e2,pc]at b4;have:=vb b4
  rw[e2,pc];exact ga _ this
 have h4:val y+1<=p*(yt+1):=by rw[Oa];omega
 have h5:=zR (2^s) h4;have h6:p*((yt+1)*2^s)<=p*4294967296:=ga p hk;rw[<-Ga]at h6;have h7:p*2147483648<=p*(yt*2^s):=ga p b3;have h8:p*(yt*2^s)<=val y*2^s:=by rw[<-Ga];exact zR _ O'
 have h9:=jc s;rw[yd]at h5;exact⟨O',O'⟩
theorem Ye{v:u_}{k c d:Nat}(hD:A1 v)(hl:v.length=k+1)(h:4294967296^k*c<=val v)(hd:v[k]?=some d):c<=d:=by
 have h1:=LH v k O';have h2:=IU hd;rw[sa (show v.length<=k+1 by omega),KH,Fa,Da]at h2;rw[h2]at h1;have h3:=FM (hD.take k);rw[Ma,Ob O']at h3;generalize 4294967296^k=p at*;have h4:p*c<p*(d+1):=by rw[Oa];omega
 have:=vb h4
 omega
theorem xM(o:u_)(j n:Nat)(h:j+n<=o.length):∃A W C,A.length=j/\W.length=n/\o=A++W++C:=by
 refine⟨o.take j,(o.drop j).take n,(o.drop j).drop n,by simp;omega,by simp;omega,?_⟩;rw[rb,qe,qe]
theorem wO{A W C:u_}(h:A1 (A++W++C)):A1 A/\A1 W/\A1 C:=by
 refine⟨λx hx=>h x (by simp[hx]),λx hx=>h x (by simp[hx]),λx hx=>h x (by simp[hx])⟩
theorem xO{A W C:u_}{j l V:Nat}(hA:A.length=j)(hW:W.length=l+1)(hD:A1 (A++W++C))(h:val ((A++W++C).drop (j+1))<V)(hV:V<4294967296^l) :
  val C=0/\val W<4294967296*V/\val ((A++W++C).take (j+1))+4294967296^(j+1)*val ((A++W++C).drop (j+1))=val A+4294967296^j*val W:=by
 have h1:=W7 (A++W++C) (j+1);have h2:val (A++W++C)=val A+4294967296^j*(val W+4294967296^(l+1)*val C):=by
  rw[rb,ZG,ZG,hA,hW]
 have h3:=W6 (A++W++C) j;have h4:(A++W++C).drop j=W++C:=by
  rw[rb,Bc O',sa O'];rfl
 have h5:=SG hD j;rw[h4,ZG,hW]at h3;rw[Na]at h3;have h6:val C=0:=by
  rcases Mb (val C)with h0|h0
  ·exact h0
  ·have:4294967296^l*4294967296*1<=4294967296^l*4294967296*val C:=ga _ h0
   omega
 rw[h6,Fa,Da]at h3;refine⟨h6,O',?_⟩;rw[<-h1,h2,h6,Fa,Da]
theorem mL{A W C:u_}{j:Nat}(hA:A.length=j)(hC:val C=0):val ((A++W++C).drop j)=val W/\val ((A++W++C).take j)=val A:=by
 rw[rb,Bc O',sa O',List.take_append_of_le_length O',zT O',Db,ZG,hC];simp
theorem xN{U VA P Q q V W R:Nat}(h:U=VA+P*W+P*4294967296*(Q*V))(h2:W=q*V+R):U=VA+P*((q+4294967296*Q)*V+R):=by
 rw[h,h2];grind
section
variable {a b:Nat} {K:AV->Prop}
theorem uB(n:Nat)(hx:a%2^n=0)(hy:b<2^n)(h:a+b<=18446744073709551615)(hk:K (.int .u64 ((a+b:Nat):Int))):AC .or .u64 (a:Int) .u64 (b:Int) K :=
 kM n hx hy (show a+b<18446744073709551616 by omega) (IntWalk.u64_in _ O') hk
theorem dG(n:Nat)(hx:b%2^n=0)(hy:a<2^n)(h:a+b<=18446744073709551615)(hk:K (.int .u64 ((a+b:Nat):Int))):AC .or .u64 (a:Int) .u64 (b:Int) K:=by
 have e:C5 .or .u64 (a:Int) .u64 (b:Int)=C5 .or .u64 (b:Int) .u64 (a:Int):=by
  simp only[C5,if_true,Be]
 rw[re]at hk h;have hh:=uB (K:=K) n hx hy h hk;unfold AC at hh⊢;rw[e];exact hh
end
theorem dF{a:Nat}{K:AV->Prop}(h:a<=18446744069414584319)(hk:K (.int .u64 ((a+4294967296:Nat):Int))):AC .add .u64 (a:Int) .u64 4294967296 K :=
 HH (b:=4294967296) O' hk
theorem LN{l:u_}{i e:Nat}{K:w_->Prop}(he:l[i]?=some e)(h:K (AJ e)):BD (l.map AJ) (0+((i:Int)).toNat) 0 1 K :=
 FQ (e:=e) (by rw[Ha,ua];exact he) rfl h
theorem Ae4{l:u_}{i:Int}{e:Nat}{K:w_->Prop}(he:l[i.toNat]?=some e)(h:K (AJ e)):BD (l.map AJ) (0+i.toNat) 0 1 K :=
 FQ (e:=e) (by rw[Ha];exact he) rfl h
theorem RP{A w C:u_}{i e:Nat}{K:w_->Prop}(n:Nat)(he:w[n]?=some e)(hi:i=A.length+n)(h:K (AJ e)):BD ((A++w++C).map AJ) i 0 1 K:=by
 have hn:=(zS he).1;exact FQ (e:=e) (by rw[Xi hi hn];exact he) rfl h
end Go.Eng

namespace Go.Eng
def YI(n s:Nat):Nat:=4294967296^(n-3)*(2^(32-s)*4)
theorem Alm(n s:Nat):0<YI n s:=Df (ie O') (Df (jc _) O')
theorem Uc{a:u_}(hD:A1 a){n s d1 d2 d3:Nat}(hn:3<=n)(hl:a.length<=n)(hs:s<=31)(h1:d1=a.getD (n-1) 0)(h2:d2=a.getD (n-2) 0)(h3:d3=a.getD (n-3) 0) :
  ((d1*4294967296+d2)*2^s+d3*2^s/4294967296)/4=val a/YI n s:=by
 obtain⟨r,hr,hv⟩:=kE hD hn hl;rw[<-h1,<-h2,<-h3]at hv;unfold YI;rw[hv,<-ve,ae _ _ (ie O'),Nat.div_eq_of_lt hr,Ha,<-ve];congr 1;have e:d3+4294967296*(d2+4294967296*d1)=d3+2^(32-s)*(2^s*(d1*4294967296+d2)):=by
  rw[<-Ga,<-Ba,show 32-s+s=32 by omega];omega
 rw[e,ae _ _ (jc _)];have:=Wb (d:=d3) (s:=s) O'
 rw[WT]at this;rw[this,pc (2^s)];omega
theorem Ud{a:u_}(hD:A1 a){n s d1 d2:Nat}(hn:3<=n)(hl:a.length<=n)(h1:d1=a.getD (n-1) 0)(h2:d2=a.getD (n-2) 0)(hlt:val a*2^s<4294967296^n) :
  (d1*4294967296+d2)*2^s<=18446744073709551615:=by
 obtain⟨r,hr,hv⟩:=kE hD hn hl;rw[<-h1,<-h2]at hv;generalize a.getD (n-3) 0=d3 at*;have e:4294967296^n=4294967296^(n-3)*(4294967296*18446744073709551616):=by
  rw[show n=n-3+3 by omega,Ba,show n-3+3-3=n-3 by omega]
 rw[e,hv]at hlt;generalize 4294967296^(n-3)=p at*;have h3:p*(4294967296*((d1*4294967296+d2)*2^s))<p*(4294967296*18446744073709551616):=by
  refine xc ?_ hlt;rw[<-Ga,<-Ga];refine zR _ ?_;have h5:p*(4294967296*(d2+4294967296*d1))<=p*(d3+4294967296*(d2+4294967296*d1)):=ga p O';rw[Ga,show d1*4294967296+d2=d2+4294967296*d1 by omega];omega
 have:=vb (vb h3)
 omega
theorem iD{k s:Nat}(hs:s<=64)(h:k*2^s<=18446744073709551615):k*2^s+2^s<=18446744073709551616:=by
 have e:18446744073709551616=2^(64-s)*2^s:=by rw[<-Ba,show 64-s+s=64 by omega]
 have h1:k<2^(64-s):=by
  refine Od (a:=2^s) ?_;rw[<-e];omega
 have h2:=zR (2^s) h1;rw[ye,<-e]at h2;exact h2
theorem Ue{a:u_}(hD:A1 a){n s:Nat}(hn:3<=n)(hl:a.length<=n)(hs:s<=31)(hlt:val a*2^s<4294967296^n):val a/YI n s<=4611686018427387904:=by
 rw[<-Uc hD hn hl hs rfl rfl rfl];have h1:=Ud hD hn hl rfl rfl hlt;have b3:=SG hD (n-3);have h2:=iD (show s<=64 by omega) h1;obtain⟨_,h3,_,_⟩:=WU (s:=s) b3 O';rw[WT]at h3;generalize (a.getD (n-1) 0*4294967296+a.getD (n-2) 0)*2^s=T at*;generalize a.getD (n-3) 0*2^s=U at*;omega
theorem Uf{V K:Nat}(hK:0<K):∃e:Int,(V:Int)=(K:Int)*((V/K:Nat):Int)+e/\0<=e/\e<=K:=by
 refine⟨((V%K:Nat):Int),?_,O',?_⟩
 ·have:=lf V K
  have h2:((K*(V/K)+V%K:Nat):Int)=(V:Int):=by rw[this]
  rw[<-h2];simp
 ·have:=gd V hK
  omega
def Z7(t:Int):Nat:=(t%4294967296).toNat
theorem vR(t:Int):Z7 t<4294967296:=by unfold Z7;omega
theorem lK(t:Int):(Z7 t:Int)=t%4294967296:=by unfold Z7;omega
def RL(f g:Int):Prop:=(0<=f/\f<=2147483647/\-2147483647<=g/\g<=0)\/(-2147483647<=f/\f<=0/\0<=g/\g<=2147483647)
theorem Wa{f:Int}{d:Nat}(hd:d<4294967296):(0<=f->f<=2147483647->0<=f*d/\f*d<=9223372030412324865)/\(f<=0->-2147483647<=f->f*d<=0/\-9223372030412324865<=f*d):=by
 constructor
 ·intro h0 h1
  refine⟨Ld h0 O',?_⟩;have:f*d<=2147483647*4294967295:=Jd h1 O' O' O'
  omega
 ·intro h0 h1
  have a1:0<=(-f)*d:=Ld O' O';have a2:(-f)*d<=2147483647*4294967295:=Jd O' O' O' O';rw[Int.neg_mul]at a1 a2;omega
theorem RL.Hz{f g:Int}(h:RL f g){d e:Nat}(hd:d<4294967296)(he:e<4294967296):(-9223372030412324865<=f*d/\f*d<=9223372030412324865)/\(-9223372030412324865<=g*e/\g*e<=9223372030412324865)/\-9223372030412324865<=f*d+g*e/\f*d+g*e<=9223372030412324865:=by
 obtain⟨a1,a2⟩:=Wa (f:=f) hd;obtain⟨b1,b2⟩:=Wa (f:=g) he;rcases h with⟨h1,h2,h3,h4⟩|⟨h1,h2,h3,h4⟩
 ·have:=a1 h1 h2;have:=b2 h4 h3;omega
 ·have:=a2 h2 h1;have:=b1 h3 h4;omega
theorem vS{V X Y p c f g d e t:Int}(h:V+p*c=f*X+g*Y)(ht:t=f*d+c+g*e):V+p*(t%4294967296)+p*4294967296*(t/4294967296)=f*(X+p*d)+g*(Y+p*e):=by
 have h1:=Int.emod_add_mul_ediv t 4294967296;have h2:p*(t%4294967296)+p*4294967296*(t/4294967296)=p*t:=by
  rw[Ad,<-Je,h1]
 have h3:p*t=f*(p*d)+p*c+g*(p*e):=by rw[ht];grind
 have h4:f*(X+p*d)=f*X+f*(p*d):=by rw[Je]
 have h5:g*(Y+p*e)=g*Y+g*(p*e):=by rw[Je]
 omega
theorem AgG{V P:Nat}{c R:Int}(hV:V<P)(h:(V:Int)+P*c=R)(h0:0<=R)(h1:R<P):(V:Int)=R:=by
 have hc:c=0:=by
  rcases Int.lt_trichotomy c 0 with hc|hc|hc
  ·have:(P:Int)*c<=P*(-1):=vd O' O'
   omega
  ·exact hc
  ·have:(P:Int)*1<=P*c:=vd O' O'
   omega
 subst hc;omega
theorem aS(x y:Nat):od y (x%y)=od x y:=by
 rw[Hf x y,Nat.gcd_rec y x];exact Hf _ _
def zv(neg:Bool)(m:u_):Int:=bif neg then -(val m:Int)else(val m:Int)
abbrev rZ(q neg:Bool)(m:u_):w_:=[.bool neg,.sl q (m.map AJ)]
abbrev eZ(z:Int):w_:=rZ false (decide (z<0)) (dg z.natAbs)
theorem FH(neg:Bool)(m:u_):(zv neg m).natAbs=val m:=by cases neg<;>simp[zv]
theorem GK(z:Int):zv (decide (z<0)) (dg z.natAbs)=z:=by
 unfold zv;rw[BN];by_cases h:z<0
 ·simp[h];omega
 ·simp[h];omega
def Sm(n:Nat)(m:u_):Prop:=A1 m/\m.length<=n
theorem Sm.dg{n V:Nat}(h:V<4294967296^n):Sm n (dg V):=⟨DX V,NM.2 h⟩
theorem Sm.le{n n':Nat}{m:u_}(h:Sm n m)(hn:n<=n'):Sm n' m:=⟨h.1,by have:=h.2;omega⟩
theorem Sm.val{n:Nat}{m:u_}(h:Sm n m):val m<4294967296^n:=Jc (FM h.1) (fb O' h.2)
theorem Sm.wy{n:Nat}{m:u_}(h:Sm n m):Sm n (Go.Eng.dg (Go.Eng.val m)):=Sm.dg h.val
theorem E7{z:Int}{b:Bool}{n:Nat}(h1:n=z.natAbs)(h2:b=decide (z<0)):AV.agg [.bool b,.sl false ((dg n).map AJ)] = .agg (eZ z):=by rw[h1,h2]
theorem DM(z:Int):AY (.agg (eZ z)):=by
 simp only[AY,BI,and_true,true_and];exact CS _
theorem L3{z:Int}(h:z<0):true=decide (z<0):=by simp[h]
theorem FZ{z:Int}(h:0<=z):false=decide (z<0):=by simp;omega
theorem Uz(n:Nat):Sm n []:=⟨X4,Ef _⟩
theorem rS{n d:Nat}(hn:1<=n)(hd:d<4294967296):Sm n [d]:=⟨II hd,hn⟩
theorem Zt(b:Bool):zv b []=0:=by cases b<;>rfl
theorem Sm.low{n V:Nat}{m:u_}(h:Sm n m)(hV:V<=Go.Eng.val m):Sm n (Go.Eng.dg V):=Sm.dg (xc hV h.val)
theorem Sm.mul{n k:Nat}{a b:u_}(ha:Sm n a)(hb:Sm k b){V:Nat}(hV:V=Go.Eng.val a*Go.Eng.val b):Sm (n+k) (Go.Eng.dg V):=by
 refine Sm.dg ?_;rw[hV,Ba];exact Nat.mul_lt_mul_of_le_of_lt (Nat.le_of_lt ha.val) hb.val (ie O')
theorem Sm.add{n:Nat}{a b:u_}(ha:Sm n a)(hb:Sm n b){V:Nat}(hV:V<=Go.Eng.val a+Go.Eng.val b):Sm (n+1) (Go.Eng.dg V):=by
 refine Sm.dg ?_;have h1:=ha.val;have h2:=hb.val;rw[Na];omega
theorem IH(V:Nat):(dg V).length=0↔V=0:=by rw[List.length_eq_zero_iff,lX]
theorem E4(m:u_):zv false m=(val m:Int):=rfl
theorem N8(m:u_):zv true m = -(val m:Int):=rfl
def v7(z:Int):Int:=if z<0 then -1 else if 0<z then 1 else 0
theorem rO{z:Int}(h:z<0):-1=v7 z:=by unfold v7;rw[if_pos h]
theorem rP{z:Int}(h:0<z):1=v7 z:=by unfold v7;rw[if_neg O',if_pos h]
theorem jI{z:Int}(h:z=0):0=v7 z:=by unfold v7;rw[if_neg O',if_neg O']
theorem Ym{n:Nat}(h:n<18446744073709551616):val [n%4294967296,n/4294967296]=n:=(by simp[val];omega)
abbrev rQ(q1 q2 n:Bool)(m d:u_):w_:=[.bool n,.sl q1 (m.map AJ),.sl q2 (d.map AJ)]
abbrev eQ(x:Rat):w_:=rQ false false (decide (x.num<0)) (dg x.num.natAbs) (dg x.den)
def qv(n:Bool)(m d:u_):Rat:=mkRat (zv n m) (val d)
theorem FX(x:Rat):qv (decide (x.num<0)) (dg x.num.natAbs) (dg x.den)=x:=by
 unfold qv;rw[GK,BN,ef]
theorem Qe{d:Nat}(z:Nat)(hd:d≠0):0<od d z:=Nat.gcd_pos_of_pos_left z O'
theorem pL{z:Int}{d:Nat}(hd:d≠0):(mkRat z d).num.natAbs=z.natAbs/od d z.natAbs/\(mkRat z d).den=d/od d z.natAbs/\decide ((mkRat z d).num<0)=decide (z<0):=by
 have hg:=Qe z.natAbs hd;have h1:=Rat.num_mkRat z d;have h2:=Rat.den_mkRat z d;rw[if_neg hd]at h1 h2;rw[h1,h2];obtain⟨k,hk⟩:=Nat.gcd_dvd_right d z.natAbs;generalize hG:od d z.natAbs=g at*;have hz:z=(g:Int)*(z.sign*k):=by
  rw[<-Ad,Gf (g:Int),Ad,<-pd,<-hk,Int.sign_mul_natAbs]
 have e1:z/(g:Int)=z.sign*k:=by
  rw[hz,Int.mul_ediv_cancel_left _ O',<-hz]
 refine⟨?_,rfl,?_⟩
 ·rw[e1,Fb,hk,Nat.mul_div_cancel_left _ hg]
  by_cases h0:z=0
  ·subst h0
   have:k=0:=by
    have h5:g*k=0:=hk.symm;rcases Nat.mul_eq_zero.1 h5 with h|h
    ·omega
    ·exact h
   subst this;simp
  ·rw[Int.natAbs_sign_of_ne_zero h0,Nat.one_mul];simp
 ·congr 1
  rw[eq_iff_iff];rw[Int.ediv_lt_iff_lt_mul O',Int.zero_mul]
theorem DG(x:Rat):AY (.agg (eQ x)):=by
 simp only[AY,BI,and_true,true_and];exact⟨CS _,CS _⟩
theorem Z3(b w:Bool)(m d:u_):AY (.agg [.bool b,.sl false (m.map AJ),.sl false (d.map AJ),.bool w]):=by
 simp only[AY,BI,and_true,true_and];exact⟨CS _,CS _⟩
theorem vJ(b:Bool)(m:u_):AY (.agg [.bool b,.sl false (m.map AJ)]):=by
 simp only[AY,BI,and_true,true_and];exact CS _
theorem eB(b:Bool)(m d:u_):AY (.agg [.bool b,.sl false (m.map AJ),.sl false (d.map AJ)]):=by
 simp only[AY,BI,and_true,true_and];exact⟨CS _,CS _⟩
theorem aR(q:Bool)(l:u_):ZO (.sl q (l.map AJ)):=by
 intro e he c hc;obtain⟨x,_,rfl⟩:=Ja.1 he;simp at hc;subst hc;rfl
theorem kH{r:AV}{K:AV->Prop}(h:KI r)(hk:K (zd r)):CG r K:=⟨Or.inl h,by rw[pA h];exact hk⟩
theorem tS{r:AV}{K:AV->Prop}(h:¬KI r)(hd:U3 r)(hk:K (LV r)):CG r K:=⟨Or.inr hd,by rw[oZ h];exact hk⟩
theorem H2{b w q1 q2:Bool}{m d:u_}{K:AV->Prop}(hk:K (.agg [.bool b,.sl true (m.map AJ),.sl true (d.map AJ),.bool w])):CG (.agg [.bool b,.sl q1 (m.map AJ),.sl q2 (d.map AJ),.bool w]) K:=by
 refine kH ?_ hk;intro c hc;simp only[tc,sc,or_false]at hc;rcases hc with rfl|rfl|rfl|rfl
 ·trivial
 ·exact aR _ _
 ·exact aR _ _
 ·trivial
theorem AeX{b q1 q2:Bool}{m d:u_}{K:AV->Prop}(hk:K (.agg [.bool b,.sl true (m.map AJ),.sl true (d.map AJ)])):CG (.agg [.bool b,.sl q1 (m.map AJ),.sl q2 (d.map AJ)]) K:=by
 refine kH ?_ hk;intro c hc;simp only[tc,sc,or_false]at hc;rcases hc with rfl|rfl|rfl
 ·trivial
 ·exact aR _ _
 ·exact aR _ _
theorem RN{b q1:Bool}{m:u_}{K:AV->Prop}(hk:K (.agg [.bool b,.sl true (m.map AJ)])):CG (.agg [.bool b,.sl q1 (m.map AJ)]) K:=by
 refine kH ?_ hk;intro c hc;simp only[tc,sc,or_false]at hc;rcases hc with rfl|rfl
 ·trivial
 ·exact aR _ _
theorem oW:∀l:u_,IM (l.map AJ)=l.map AJ
 |[]=>by simp[IM]
 |x::l=>by rw[Pa,IM,oW l];rfl
theorem dB{b b2 q1 q2:Bool}{m d:u_}{K:AV->Prop}(hk:K (.j4 [.agg [.bool b,.sl true (m.map AJ)],.agg [.bool b2,.sl true (d.map AJ)]])):CG (.j4 [.agg [.bool b,.sl q1 (m.map AJ)],.agg [.bool b2,.sl q2 (d.map AJ)]]) K:=by
 refine tS (λh=>h) (λv hv=>?_) ?_
 ·simp only[tc,sc,or_false]at hv
  rcases hv with rfl|rfl<;>trivial
 ·have e:LV (.j4 [.agg [.bool b,.sl q1 (m.map AJ)],.agg [.bool b2,.sl q2 (d.map AJ)]]) = .j4 [.agg [.bool b,.sl true (IM (m.map AJ))],.agg [.bool b2,.sl true (IM (d.map AJ))]]:=rfl
  rw[e,oW,oW];exact hk
theorem iB{a b:Int}{d e:Nat}(hd:d≠0)(he:e≠0):mkRat a d+mkRat b e=mkRat (a*e+b*d) (d*e):=Rat.mkRat_add_mkRat a b hd he
theorem Tg{a b:Int}{d:Nat}(hd:d≠0):mkRat a d+mkRat b d=mkRat (a+b) d:=by
 rw[iB hd hd,<-Int.add_mul,He hd]
theorem pJ(a b:Int)(d e:Nat):mkRat a d*mkRat b e=mkRat (a*b) (d*e):=Rat.mkRat_mul_mkRat a b d e
theorem Ti(a:Int):mkRat a 1=(a:Rat):=by
 have h:=ef (a:Rat);rw[rf,pf]at h;exact h
theorem pK{z:Int}{d:Nat}(hd:d≠0):mkRat z d=0↔z=0:=Rat.mkRat_eq_zero hd
theorem Tj{z:Int}{d:Nat}(hd:d≠0):v7 (mkRat z d).num=v7 z:=by
 obtain⟨_,_,h⟩:=pL (z:=z) hd;have h0:(mkRat z d).num=0↔z=0:=by rw[Rat.num_eq_zero,pK hd]
 have h1:(mkRat z d).num<0↔z<0:=by simpa using h
 unfold v7;by_cases a:z<0
 ·rw[if_pos a,if_pos (h1.2 a)]
 ·rw[if_neg a,if_neg (λh=>a (h1.1 h))]
  by_cases b:z=0
  ·rw[if_neg O',if_neg (by have:=h0.2 b;omega)]
  ·rw[if_pos O',if_pos (by have:=mt h0.1 b;have:=mt h1.1 a;omega)]
theorem AlJ{a b:Int}{d e:Nat}(hd:d≠0)(he:e≠0)(hb:b≠0):mkRat a d/mkRat b e=mkRat (b.sign*(a*e)) (d*b.natAbs):=by
 have hbn:b.natAbs≠0:=O'
 have h1:mkRat b e≠0:=λh=>hb ((pK he).1 h)
 have key:mkRat (b.sign*(a*e)) (d*b.natAbs)*mkRat b e=mkRat a d:=by
  rw[pJ];have e1:b.sign*(a*e)*b=a*((b.natAbs*e:Nat):Int):=by
   have:=Int.sign_mul_self b
   rw[pd,<-this];grind
  rw[e1,show d*b.natAbs*e=d*(b.natAbs*e)by rw[Ga]];exact He (Nat.mul_ne_zero hbn he)
 rw[<-key,Rat.mul_div_cancel h1]
theorem Zu{x y:Int}(hy:y≠0):zv (decide (x<0) != decide (y<0)) (dg x.natAbs)=y.sign*x:=by
 unfold zv;rw[BN];rcases Int.lt_or_gt_of_ne hy with h|h
 ·rw[Int.sign_eq_neg_one_of_neg h]
  by_cases hx:x<0
  ·simp[hx,h];omega
  ·simp[hx,h];omega
 ·rw[Int.sign_eq_one_of_pos h]
  by_cases hx:x<0
  ·simp[hx,show¬y<0 by omega];omega
  ·simp[hx,show¬y<0 by omega];omega
def Bt(k:Nat)(x:Rat):Prop:=x.num.natAbs<=2^k/\x.den<=2^k
theorem Bt.le{k l:Nat}{x:Rat}(h:Bt k x)(hl:k<=l):Bt l x:=by
 have:=fb (show 0<2 by omega) hl
 exact⟨nc h.1 this,nc h.2 this⟩
theorem Bt.mk{k:Nat}{z:Int}{d:Nat}(hz:z.natAbs<=2^k)(hd:d<=2^k):Bt k (mkRat z d):=by
 by_cases h0:d=0
 ·subst h0
  rw[Rat.mkRat_zero];exact⟨Z',by simp;exact ob⟩
 ·obtain⟨e1,e2,_⟩:=pL (z:=z) h0
  unfold Bt;rw[e1,e2];exact⟨nc (mf _ _) hz,nc (mf _ _) hd⟩
theorem Bt.add{k l:Nat}{x y:Rat}(hx:Bt k x)(hy:Bt l y):Bt (k+l+1) (x+y):=by
 rw[Rat.add_def'];refine Bt.mk ?_ ?_
 ·have h1:(x.num*y.den).natAbs<=2^k*2^l:=by rw[Fb,Fe];exact Hb hx.1 hy.2
  have h2:(y.num*x.den).natAbs<=2^l*2^k:=by rw[Fb,Fe];exact Hb hy.1 hx.2
  rw[pc (2^l)]at h2;rw[Na,Ba];have h3:=Ce (x.num*y.den) (y.num*x.den);omega
 ·rw[Na,Ba]
  have:=Hb hx.2 hy.2
  omega
theorem Bt.mul{k l:Nat}{x y:Rat}(hx:Bt k x)(hy:Bt l y):Bt (k+l) (x*y):=by
 rw[Rat.mul_def'];refine Bt.mk ?_ ?_
 ·rw[Fb,Ba];exact Hb hx.1 hy.1
 ·rw[Ba];exact Hb hx.2 hy.2
theorem Bt.zero(k:Nat):Bt k 0:=⟨Z',by simp;exact ob⟩
theorem Bt.one(k:Nat):Bt k 1:=⟨by simp;exact ob,by simp;exact ob⟩
theorem Bt.dig{k n:Nat}{x:Rat}(h:Bt k x)(hn:k<32*n):Sm n (dg x.num.natAbs)/\Sm n (dg x.den):=by
 have e:2^k<4294967296^n:=by
  rw[show 4294967296=2^32 from rfl,<-Nat.pow_mul];exact(Nat.pow_lt_pow_iff_right O').2 hn
 exact⟨Sm.dg (xc h.1 e),Sm.dg (xc h.2 e)⟩
def Bs(k:Nat)(l:o_):Prop := ∀x∈l,Bt k x
theorem Bs.at{k:Nat}{l:o_}(h:Bs k l){i:Nat}{x:Rat}(hx:l[i]?=some x):Bt k x:=h x (zM hx)
theorem Bs.le{k j:Nat}{l:o_}(h:Bs k l)(hj:k<=j):Bs j l:=λx hx=>(h x hx).le hj
theorem Bs.take{k:Nat}{l:o_}(h:Bs k l)(n:Nat):Bs k (l.take n):=λx hx=>h x (ke hx)
def BQ:o_->o_->Rat
 |x::xs,y::ys=>x*y+BQ xs ys
 |_,_=>0
theorem xG(l:o_):BQ l []=0:=by cases l<;>rfl
theorem xH:∀{a b:o_}{x y:Rat},a.length=b.length->BQ (a++[x]) (b++[y])=BQ a b+x*y
 |[],[],x,y,_=>by show x*y+0=0+x*y;rw[Rat.add_zero,Rat.zero_add]
 |p::a,q::b,x,y,h=>by
  show p*q+BQ (a++[x]) (b++[y])=p*q+BQ a b+x*y;rw[xH (by simpa using h),Rat.add_assoc]
theorem aE{a b:o_}{i:Nat}{x y:Rat}(hx:a[i]?=some x)(hy:b[i]?=some y):BQ (a.take (i+1)) (b.take (i+1))=BQ (a.take i) (b.take i)+x*y:=by
 have h1:=(zS hx).1;have h2:=(zS hy).1;rw[ja,ja,hx,hy,Pb,Pb,xH (by rw[Ma,Ma];omega)]
theorem fG{a b:o_}{n:Nat}(h:a.length=n):BQ (a.take n) (b.take n)=BQ a b:=by
 subst h;rw[zT (ka _)];induction a generalizing b with
 |nil=>cases b<;>rfl
 |cons x a ih=>cases b with
  |nil=>rfl
  |cons y b=>simp only[Aa,Oe,BQ,ih]
theorem Bs.dot{k l:Nat}:∀{a b:o_},Bs k a->Bs l b->Bt (a.length*(k+l+1)) (BQ a b)
 |[],b,_,_=>by cases b<;>exact Bt.zero _
 |x::a,[],_,_=>Bt.zero _
 |x::a,y::b,ha,hb=>by
  have h1:=(ha x Z').mul (hb y Z');have h2:=Bs.dot (a:=a) (b:=b) (λz hz=>ha z (by simp[hz])) (λz hz=>hb z (by simp[hz]));refine(h1.add h2).le ?_;rw[Aa,ye];omega
structure HI where
 a:P'
 b:o_
 c:o_
 d:Rat
structure HI.Ok(S:HI)(n k:Nat):Prop where
 la:S.a.length=n
 lr:∀r∈S.a,r.length=n
 lb:S.b.length=n
 lc:S.c.length=n
 ba:∀r∈S.a,Bs k r
 bb:Bs k S.b
 bc:Bs k S.c
 bd:Bt k S.d
def CZ(n:Nat)(j:Int):o_:=(Nb n).map λi:Nat=>if(i:Int)=j then 1 else 0
theorem cQ(n:Nat)(j:Int):(CZ n j).length=n:=by simp[CZ]
theorem An3(n:Nat)(j:Int):CZ (n+1) j=CZ n j++[if(n:Int)=j then 1 else 0]:=by simp[CZ,yf]
abbrev eO:Option Rat->w_
 |none=>[.bool false,.nil,.nil]
 |some x=>eQ x
def DS(l:o_)(m:Nat):List (Option Rat):=l.map some++na (m-l.length) none
theorem aP(m:Nat):DS [] m=na m none:=by simp[DS]
theorem R6{l:o_}{m:Nat}(h:l.length<=m):(DS l m).length=m:=by simp[DS];omega
theorem YC{l:o_}{m:Nat}{x:Rat}(h:l.length<m):(DS l m).set l.length (some x)=DS (l++[x]) m:=by
 unfold DS;have e:m-l.length=(m-(l++[x]).length)+1:=by simp;omega
 rw[e,List.replicate_succ,pe _ _ Z'];simp
theorem aO{l:o_}{m:Nat}(h:l.length=m):(DS l m).map eO=l.map eQ:=by
 unfold DS;rw[h,Nat.sub_self];simp[Af]
abbrev eS(S:HI):w_:=[.sl false (S.a.map λr=>[AV.sl false (r.map eQ)]),.sl false (S.b.map eQ),.sl false (S.c.map eQ)]++eQ S.d
theorem ME(l:o_):DB (l.map eQ):=LS (λx=>by simp only[BI,AY,and_true,true_and];exact⟨CS _,CS _⟩) l
theorem AnU{l:o_}{i:Nat}{x:Rat}(h:l[i]?=some x):l.take (i+1)=l.take i++[x]:=by
 rw[ja,h];rfl
theorem eE(S:HI):AY (.agg (eS S)):=by
 have h:DB (S.a.map λr=>[AV.sl false (r.map eQ)]):=LS (λr=>by simp only[BI,AY,and_true,true_and];exact ME r) S.a;simp only[AY,eb,Db,BI,and_true,true_and];exact⟨h,ME _,ME _,CS _,CS _⟩
def EF(vals:o_):List (Int×Int)->Rat
 |[]=>0
 |t::ts=>(t.2:Rat)*vals.getD t.1.toNat 0+EF vals ts
theorem Zn(vals:o_)(t:Int×Int):∀ts,EF vals (ts++[t])=EF vals ts+(t.2:Rat)*vals.getD t.1.toNat 0
 |[]=>by simp only[Db,EF];grind
 |u::ts=>by simp only[eb,EF];rw[Zn vals t ts];grind
theorem Xp{vals:o_}{ts:List (Int×Int)}{i:Nat}{t:Int×Int}(h:ts[i]?=some t):EF vals (ts.take (i+1))=EF vals (ts.take i)+(t.2:Rat)*vals.getD t.1.toNat 0:=by
 rw[ja,h,Pb,Zn]
def G0(u:Rat)(ex:Int):Nat->o_->List (List (Int×Int))->o_
 |_,vals,[]=>vals
 |k,vals,ts::r=>G0 u ex (k+1) (vals++[EF vals ts/u+(if(k:Int)=ex then 1 else 0)]) r
theorem Re(u:Rat)(ex:Int):∀(k:Nat)(vals:o_)(l:List (List (Int×Int))),(G0 u ex k vals l).length=vals.length+l.length
 |_,_,[]=>rfl
 |k,vals,ts::r=>by rw[G0,Re u ex (k+1)];simp;omega
theorem Bs.getD{k:Nat}{l:o_}(h:Bs k l)(i:Nat):Bt k (l.getD i 0):=by
 rw[va];cases e:l[i]? with
 |none=>exact Bt.zero k
 |some x=>exact h.at e
theorem Bs.sum{k j:Nat}{vals:o_}(hv:Bs k vals):∀(ts:List (Int×Int)),(∀t∈ts,Bt j ((t.2:Int):Rat))->Bt (ts.length*(j+k+1)) (EF vals ts)
 |[],_=>Bt.zero _
 |t::ts,h=>by
  have h1:=(h t Z').mul (hv.getD t.1.toNat);have h2:=Bs.sum hv ts (λu hu=>h u (by simp[hu]));refine(h1.add h2).le ?_;rw[Aa,ye];omega
theorem Aka{l:o_}{x:Rat}{m:Nat}(h:m<l.length):(l++[x]).getD m 0=l.getD m 0:=by
 rw[va,va,Md h]
theorem Aj9{l:o_}{x:Rat}{m:Nat}(h:m=l.length):(l++[x]).getD m 0=x:=by
 subst h;rw[va,kd (ka _)];simp
def gS:Nat->Nat
 |0=>0
 |i+1=>5*gS i+150
theorem Aj4(i:Nat):gS i<=gS (i+1):=by rw[gS];omega
theorem Bt.ofInt{k:Nat}{z:Int}(h:z.natAbs<=2^k):Bt k ((z:Int):Rat):=⟨by rw[rf];exact h,by rw[pf];exact ob⟩
theorem Bt.xe{k j:Nat}{x:Rat}{z:Int}(h:Bt k x)(hz:1<=z)(hj:z.natAbs<=2^j):Bt (k+j) (x/(z:Rat)):=by
 obtain⟨d,rfl⟩:=Int.eq_ofNat_of_zero_le (show 0<=z by omega);have e:x/((d:Int):Rat)=x*mkRat 1 d:=by
  rw[je,Rat.mkRat_eq_div,je];congr 1;rw[show((1:Int):Rat)=1 from rfl,Rat.one_mul];rfl
 rw[e];exact h.mul (Bt.mk (by simp;exact ob) (by simpa using hj))
structure VD(l:List (List (Int×Int))):Prop where
 len:∀ts∈l,ts.length<=5
 cf:∀ts∈l,∀t∈ts,t.2.natAbs<=2^24
theorem Al3{ts:List (Int×Int)}{vals:o_}{k:Nat}{z:Int}(h1:ts.length<=5)(h2:∀t∈ts,t.2.natAbs<=2^24)(hv:Bs k vals)(hz:1<=z)(hz2:z.natAbs<=2^24)(b:Bool):Bt (5*k+150) (EF vals ts/(z:Rat)+(if b=true then 1 else 0)):=by
 have a1:=hv.sum ts (j:=24) (λt ht=>Bt.ofInt (h2 t ht));have a2:Bt (5*(24+k+1)) (EF vals ts):=a1.le (zR _ h1);have a3:=a2.xe hz hz2;have a4:Bt 0 (if b=true then(1:Rat)else 0):=by cases b<;>first|exact Bt.zero 0|exact Bt.one 0
 exact(a3.add a4).le O'
theorem Rc{z ex:Int}(hz:1<=z)(hz2:z.natAbs<=2^24):∀(l:List (List (Int×Int)))(k:Nat)(vals:o_),VD l->Bs (gS k) vals->Bs (gS (k+l.length)) (G0 (z:Rat) ex k vals l)
 |[],k,vals,_,hv=>hv
 |ts::l,k,vals,h,hv=>by
  have h1:=Al3 (h.len ts Z') (h.cf ts Z') hv hz hz2 (decide ((k:Int)=ex));simp only[decide_eq_true_eq]at h1;rw[G0,Aa,show k+(l.length+1)=k+1+l.length by omega];refine Rc hz hz2 l (k+1) _ ⟨λt ht=>h.len t (by simp[ht]),λt ht=>h.cf t (by simp[ht])⟩ ?_;intro x hx;rcases xf.1 hx with hx|hx
  ·exact(hv x hx).le (Aj4 k)
  ·simp only[Ge]at hx
   rw[hx];exact h1
theorem AjU(u:Rat)(ex:Int)(vals:o_)(l:List (List (Int×Int)))(i:Nat)(ts:List (Int×Int))(h:l[i]?=some ts):G0 u ex 0 vals (l.take (i+1))=G0 u ex 0 vals (l.take i)++[EF (G0 u ex 0 vals (l.take i)) ts/u+(if(i:Int)=ex then 1 else 0)]:=by
 have key:∀(l:List (List (Int×Int)))(k:Nat)(vals:o_)(ts:List (Int×Int)),G0 u ex k vals (l++[ts])=G0 u ex k vals l++[EF (G0 u ex k vals l) ts/u+(if((k+l.length:Nat):Int)=ex then 1 else 0)]:=by
  intro l;induction l with
  |nil=>intro k vals ts;simp[G0]
  |cons a l ih=>
   intro k vals ts;rw[eb,G0,ih,G0,Aa,show k+1+l.length=k+(l.length+1)by omega]
 have hi:=(zS h).1;rw[ja,h,Pb,key,Ma,Ob O',Ha]
def DE(m:P')(j:Nat):o_:=m.map λr=>r.getD j 0
def F9(r:o_)(m:P')(n:Nat):o_:=(Nb n).map λj=>BQ r (DE m j)
def H8(a m:P')(n:Nat):P':=a.map λr=>F9 r m n
def GA(m:P')(b:o_):o_:=m.map λr=>BQ r b
theorem AgQ(m:P')(j:Nat):(DE m j).length=m.length:=by simp[DE]
theorem AlU(r:o_)(m:P')(n:Nat):(F9 r m n).length=n:=by simp[F9]
theorem AlS(a m:P')(n:Nat):(H8 a m n).length=a.length:=by simp[H8]
theorem pN(m:P')(b:o_):(GA m b).length=m.length:=by simp[GA]
structure Sq(n:Nat)(m:P'):Prop where
 l:m.length=n
 r:∀r∈m,r.length=n
theorem Sq.at{n:Nat}{m:P'}(h:Sq n m){i:Nat}{r:o_}(hr:m[i]?=some r):r.length=n:=h.r r (zM hr)
theorem Sq.mul{n:Nat}{a:P'}(h:a.length=n)(m:P'):Sq n (H8 a m n):=by
 refine⟨by rw[AlS,h],λr hr=>?_⟩;obtain⟨x,_,rfl⟩:=Ja.1 hr;exact AlU _ _ _
def Ms(k:Nat)(m:P'):Prop := ∀r∈m,Bs k r
theorem Ms.at{k:Nat}{m:P'}(h:Ms k m){i:Nat}{r:o_}(hr:m[i]?=some r):Bs k r:=h r (zM hr)
theorem Ms.Km{k:Nat}{m:P'}(h:Ms k m)(j:Nat):Bs k (DE m j):=by
 intro x hx;obtain⟨r,hr,rfl⟩:=Ja.1 hx;rw[va];cases e:r[j]? with
 |none=>exact Bt.zero k
 |some x=>exact(h r hr).at e
theorem mG:∀a b:o_,BQ a b=BQ b a
 |[],[]=>rfl
 |[],_::_=>rfl
 |_::_,[]=>rfl
 |x::a,y::b=>by simp only[BQ,mG a b,Rat.mul_comm]
def wQ(S:HI):Nat->o_
 |0=>S.b
 |j+1=>GA S.a (wQ S j)
def conv(A h:Nat->Rat)(K:Nat):Nat->Rat
 |0=>0
 |a+1=>conv A h K a+A a*h (K-a)
def HY(f:Nat->Rat):Nat->Rat
 |0=>0
 |n+1=>HY f n+f n
theorem mH(x:Rat):∀a b:o_,BQ (a.map (· * x)) b=BQ a b*x
 |[],b=>by simp[BQ]
 |a::l,[]=>by rw[xG,xG,Rat.zero_mul]
 |a::l,b::k=>by
  simp only[Pa,BQ,mH x l k];grind
end Go.Eng

namespace Go.Eng
theorem Bt.Ph{k:Nat}{y:Rat}(h:Bt k y):Bt k y⁻¹:=by
 rw[Rat.inv_def];rcases Int.natAbs_eq y.num with e|e
 ·rw[e,Ae]
  exact Bt.mk (by simpa using h.2) h.1
 ·rw[e,Rat.divInt_neg',Ae]
  exact Bt.mk (by simpa using h.2) h.1
theorem Bt.uh{k l:Nat}{x y:Rat}(hx:Bt k x)(hy:Bt l y):Bt (k+l) (x/y):=by
 rw[je];exact hx.mul hy.Ph
theorem Bt.Hx{k:Nat}{x:Rat}(h:Bt k x):Bt k (-x):=⟨by rw[Rat.neg_num,Int.natAbs_neg];exact h.1,by rw[Rat.neg_den];exact h.2⟩
def cC(s x:Rat):Rat:=s*(((s*x).den:Nat):Rat)
def G8(r:o_):Rat:=r.foldl cC 1
theorem Am5(r:o_)(x:Rat):G8 (r++[x])=cC (G8 r) x:=by rw[G8,List.foldl_append];rfl
def whole(m:P'):P':=m.map λr=>r.map (· * G8 r)
theorem AlV{a b c:Rat}(h:c≠0)(e:a*c=b*c):a=b:=by
 have h1:=Rat.mul_inv_cancel c h;have:a*c*c⁻¹=b*c*c⁻¹:=by rw[e]
 rwa [Bd,Bd,h1,Ff,Ff]at this
end Go.Eng

namespace Go.Eng
structure Pt where
 x:Rat
 y:Rat
 w:Rat
def AnP(g:List Pt)(f:Pt->Rat):Rat:=g.foldl (λs p=>s+f p) 0
def rhs(g:List Pt)(k:Nat):Rat:=AnP g λp=>p.w*p.x^k*p.y
def Wh(k:Nat)(x:Rat):Prop := ∃z:Int,x=(z:Rat)/\z.natAbs<=2^k
theorem Wh.le{k l:Nat}{x:Rat}(h:Wh k x)(hl:k<=l):Wh l x:=by
 obtain⟨z,e,b⟩:=h;exact⟨z,e,nc b (fb O' hl)⟩
theorem Wh.mul{k l:Nat}{x y:Rat}(hx:Wh k x)(hy:Wh l y):Wh (k+l) (x*y):=by
 obtain⟨z,rfl,b⟩:=hx;obtain⟨u,rfl,c⟩:=hy;exact⟨z*u,by rw[ud],by rw[Fb,Ba];exact Hb b c⟩
theorem Wh.add{k:Nat}{x y:Rat}(hx:Wh k x)(hy:Wh k y):Wh (k+1) (x+y):=by
 obtain⟨z,rfl,b⟩:=hx;obtain⟨u,rfl,c⟩:=hy;refine⟨z+u,by rw[Rat.intCast_add],?_⟩;rw[Na];have:=Ce z u
 omega
theorem Wh.zero(k:Nat):Wh k 0:=⟨0,rfl,Ef _⟩
theorem Wh.bt{k:Nat}{x:Rat}(h:Wh k x):Bt k x:=by
 obtain⟨z,rfl,b⟩:=h;exact Bt.ofInt b
theorem Wh.dot{k l:Nat}:∀{a b:o_},(∀x∈a,Wh k x)->(∀x∈b,Wh l x)->Wh (k+l+a.length) (BQ a b)
 |[],b,_,_=>by cases b<;>exact Wh.zero _
 |x::a,[],_,_=>Wh.zero _
 |x::a,y::b,ha,hb=>by
  rw[BQ,Aa,<-Nat.add_assoc];exact(((ha x Lc).mul (hb y Lc)).le O').add (Wh.dot (λz hz=>ha z (Pc _ hz)) λz hz=>hb z (Pc _ hz))
theorem WE(y:Rat):y*(y.den:Rat)=(y.num:Rat):=by
 have h:=Rat.num_divInt_den y;rw[Rat.divInt_eq_div]at h;have h0:((y.den:Int):Rat)≠0:=λe=>by
  have:((y.den:Int):Rat)=((0:Int):Rat):=e
  have:=qf.1 this
  have:=y.den_pos
  omega
 have h2:=Rat.div_mul_cancel h0 (a:=(y.num:Rat));rw[h,Oc]at h2;exact h2
theorem lV{y:Rat}{T:Nat}{z:Int}(h:(T:Rat)*y=(z:Rat)):y.den ∣ T:=by
 have h1:y*(y.den:Rat)=(y.num:Rat):=WE y;have h2:(((T:Int)*y.num:Int):Rat)=((z*(y.den:Int):Int):Rat):=by
  rw[ud,ud,<-h1,<-h,Oc,Oc,Bd]
 have h3:=qf.1 h2;have h4:(y.den:Int) ∣ (T:Int)*y.num:=⟨z,by rw[h3,Gf]⟩;have h5:y.den ∣ T*y.num.natAbs:=by
  have:=Int.natAbs_dvd_natAbs.2 h4
  simpa [Fb]using this
 exact Nat.Coprime.dvd_of_dvd_mul_right (Nat.Coprime.symm y.reduced) h5
theorem Aln{α:Type}{l:List α}(h:l.length=1):∃a,l=[a]:=by
 rcases l with _|⟨a,_|⟨b,l⟩⟩<;>simp at h
 exact⟨a,rfl⟩
theorem oS{α:Type}{l:List α}(h:l.length=2):∃a b,l=[a,b]:=by
 obtain⟨a,r,rfl⟩:∃a r,l=a::r:=by
  cases l with
  |nil=>simp at h
  |cons a r=>exact⟨a,r,rfl⟩
 obtain⟨b,rfl⟩:=Aln (l:=r) (by simpa using h);exact⟨_,_,rfl⟩
theorem Ug{α:Type}{l:List α}(h:l.length=3):∃a b c,l=[a,b,c]:=by
 obtain⟨a,r,rfl⟩:∃a r,l=a::r:=by
  cases l with
  |nil=>simp at h
  |cons a r=>exact⟨a,r,rfl⟩
 obtain⟨b,c,rfl⟩:=oS (l:=r) (by simpa using h);exact⟨_,_,_,rfl⟩
def FW(u:Rat)(ex:Int):Nat->o_->List (List (Int×Int))->o_
 |_,vals,[]=>vals
 |k,vals,ts::r=>FW u ex (k+1) (vals++[if(k:Int)=ex then 1 else EF vals ts*u]) r
theorem nV(u:Rat)(ex:Int):∀(k:Nat)(vals:o_)(l:List (List (Int×Int))),(FW u ex k vals l).length=vals.length+l.length
 |_,vals,[]=>by simp[FW]
 |k,vals,ts::r=>by rw[FW,nV u ex (k+1)];simp;omega
theorem Akb(u:Rat)(ex:Int)(vals:o_)(l:List (List (Int×Int)))(i:Nat)(ts:List (Int×Int))(h:l[i]?=some ts):FW u ex 0 vals (l.take (i+1))=FW u ex 0 vals (l.take i)++[if(i:Int)=ex then 1 else EF (FW u ex 0 vals (l.take i)) ts*u]:=by
 have key:∀(l:List (List (Int×Int)))(k:Nat)(vals:o_)(ts:List (Int×Int)),FW u ex k vals (l++[ts])=FW u ex k vals l++[if((k+l.length:Nat):Int)=ex then 1 else EF (FW u ex k vals l) ts*u]:=by
  intro l;induction l with
  |nil=>intro k vals ts;simp[FW]
  |cons a l ih=>
   intro k vals ts;rw[eb,FW,ih,FW,Aa,show k+1+l.length=k+(l.length+1)by omega]
 have hi:=(zS h).1;rw[ja,h,Pb,key,Ma,Ob O',Ha]
def QY(m:Nat):Nat->Nat
 |0=>0
 |i+1=>m*(QY m i+25)+QY m i+24
theorem gG{u:Rat}{ex:Int}{m:Nat}(hu:Bt 24 u):∀(l:List (List (Int×Int)))(k:Nat)(vals:o_),(∀ts∈l,ts.length<=m)->(∀ts∈l,∀t∈ts,t.2.natAbs<=2^24)->Bs (QY m k) vals->Bs (QY m (k+l.length)) (FW u ex k vals l)
 |[],k,vals,_,_,hv=>hv
 |ts::l,k,vals,h1,h2,hv=>by
  rw[FW,Aa,show k+(l.length+1)=k+1+l.length by omega];refine gG hu l (k+1) _ (λt ht=>h1 t (by simp[ht])) (λt ht=>h2 t (by simp[ht])) ?_;intro x hx;rcases xf.1 hx with hx|hx
  ·exact(hv x hx).le (by rw[QY];omega)
  ·simp only[Ge]at hx
   subst hx;split
   ·exact Bt.one _
   ·have a1:=hv.sum ts (j:=24) (λt ht=>Bt.ofInt (h2 ts Z' t ht))
    have a2:=zR (24+QY m k+1) (h1 ts Z');refine((a1.le a2).mul hu).le ?_;rw[QY,show 24+QY m k+1=QY m k+25 by omega];omega
theorem tG{L:Lib}{kk:List It}{tm:Tm}{M:Mem}{Q Q':Tm->Mem->Prop}(h:AA L kk tm M Q)(hq:∀tm M,Q tm M->Q' tm M):AA L kk tm M Q':=λσ st hr=>by
 obtain⟨n,c,s,h1,σ',bp,M',h2,h3⟩:=h σ st hr;exact⟨n,c,s,h1,σ',bp,M',h2,hq _ _ h3⟩
end Go.Eng

namespace Go.Eng
open F
attribute [local irreducible] AA AF AW AC AX BS A5 GE AB A8 AH pw EC D7 BR JY HO BD BG CM C9
variable {L:Lib}
def C4(a b:Int):Int:=if a<b then -1 else if b<a then 1 else 0
theorem J2{a b:Int}(h:a<b):-1=C4 a b:=by unfold C4;rw[if_pos h]
theorem OI{a b:Int}(h:b<a):1=C4 a b:=by unfold C4;rw[if_neg O',if_pos h]
theorem VQ{a b:Int}(h:a=b):0=C4 a b:=by unfold C4;rw[if_neg O',if_neg O']
theorem AiQ(N:c6 L)(a:Int):Ev L 58 [.int .i64 a] (.bool false):=by
 refine Ev.x N.RY rfl rfl ?_;repeat' (first|apply AG<;>intro hc<;>try omega|apply AE)<;>conv=>whnf
 exact EV rfl
theorem AiR(N:c6 L)(a:Int):Ev L 59 [.int .u32 a] (.bool false):=by
 refine Ev.x N.RZ rfl rfl ?_;repeat' (first|apply AG<;>intro hc<;>try omega|apply AE)<;>conv=>whnf
 exact EV rfl
theorem yB(N:c6 L)(a b:Int):Ev L 60 [.int .i64 a,.int .i64 b] (.int .i64 (C4 a b)):=by
 refine Ev.x N.RV rfl rfl ?_;repeat' (first|apply AG<;>intro hc<;>try omega|apply AE|refine AD (AiQ N _) ?_)<;>conv=>whnf
 ·exact BM (J2 O')
 ·exact BM (OI O')
 ·exact BM (VQ O')
theorem Aiv(N:c6 L)(a b:Int):Ev L 61 [.int .u32 a,.int .u32 b] (.int .i64 (C4 a b)):=by
 refine Ev.x N.RW rfl rfl ?_;repeat' (first|apply AG<;>intro hc<;>try omega|apply AE|refine AD (AiR N _) ?_)<;>conv=>whnf
 ·exact BM (J2 O')
 ·exact BM (OI O')
 ·exact BM (VQ O')
theorem yA(N:c6 L)(l:u_)(q:Bool)(hl:l.length<=1099511627776):Ev L 62 [.sl q (l.map AJ)] (.sl false (l.map AJ)):=by
 cases l with
 |nil=>
  refine GW.nil N.LE (GW.x N.LE rfl rfl ?_) (GW.x N.LE rfl rfl ?_)
  ·(repeat' (apply AE<;>conv=>whnf))
   exact AU rfl (by simp[AY,DB])
  ·(repeat' (apply AE<;>conv=>whnf))
   refine XF (enc:=AJ) (l:=[]) (l':=[]) rfl (λ_=>rfl) Z' Z' ?_;conv=>whnf
   (repeat' ((refine CR (λ_=>rfl) rfl ?_ ?_;(first|rfl|simp))<;>conv=>whnf))
   exact AU rfl (by simp[AY,DB])
 |cons d l=>
  refine GW.cons (GW.x N.LE rfl rfl ?_);(repeat' (apply AE<;>conv=>whnf))
  refine A2 Z' ?_;conv=>whnf
  skip
  refine XF (enc:=AJ) (l:=[]) (l':=d::l) rfl (λ_=>rfl) (by simp at hl⊢;omega) (by simp at hl⊢;omega) ?_;conv=>whnf
  (repeat' ((refine CR (λ_=>rfl) rfl ?_ ?_;(first|rfl|simp))<;>conv=>whnf))
  exact AU rfl (by simp only[AY,true_and];exact CS (d::l))
theorem NF(N:c6 L)(l:u_)(q:Bool)(hD:A1 l)(hl:l.length<=1099511627776):ZU L 65 [.sl q (l.map AJ)] (.sl q ((dg (val l)).map AJ)):=by
 refine Afj N.G3 rfl rfl rfl rfl rfl ?_;repeat' (first|apply AP|apply AE)<;>conv=>whnf
 refine C0 (λn=>n) (λ(n:Nat)=>n<=l.length/\∀i,n<=i->i<l.length->l[i]?=some 0) (λn=>[(3,.int .i64 n)]) (λ_=>[]) l.length ⟨ka _,λi h1 h2=>O'⟩ ?_;intro n ⟨p1,p2⟩ ih;rcases n with _|n
 ·repeat' (first|apply AG<;>intro hc<;>try omega|apply AE)<;>conv=>whnf
  refine QM (k:=0) (λ_=>rfl) O' ?_;conv=>whnf
  refine⟨_,rfl,?_⟩;rw[HU hD p1 p2 (Or.inl rfl)];rfl
 ·have e1:((n+1:Nat):Int)-1=n:=O'
  repeat' (first|apply AG<;>intro hc<;>try omega|apply BP;omega|refine RQ V' ?_ (λe he hb=>?_);omega|apply AE)<;>conv=>whnf
  ·rw[e1]
   exact BC [] (ih n O' ⟨O',λi h1 h2=>by
    by_cases h:i=n
    ·subst h
     rw[e1,ua]at he;rw[he];congr 1;omega
    ·exact p2 i O' h2⟩)
  ·refine QM (k:=n+1) (λ_=>rfl) O' ?_
   (conv=>whnf)
   refine⟨_,rfl,?_⟩;rw[e1,ua]at he;rw[HU hD p1 p2 (Or.inr ⟨e,he,O'⟩)];rfl
theorem aG(N:c6 L)(l:u_)(q:Bool)(hD:A1 l)(hl:l.length<=1099511627776):Ev L 66 [.sl q (l.map AJ)] (.sl false ((dg (val l)).map AJ)):=by
 have hc:=FA hD;refine Ev.x N.S1 rfl rfl ?_;repeat' (first|apply AE|refine L9 (NF N l _ hD hl) ?_|refine AD (yA N (dg (val l)) _ O') ?_)<;>conv=>whnf
 exact AU rfl (by simp only[AY,true_and];exact CS _)
theorem AgL{a b:Nat}(h:((dg a).length:Int)≠(dg b).length):C4 (dg a).length (dg b).length=C4 a b:=by
 rcases Gb (dg a).length (dg b).length with h1|h1|h1
 ·have:=ZH h1
  rw[<-J2 O',<-J2 O']
 ·omega
 ·have:=ZH h1
  rw[<-OI O',<-OI O']
theorem QW(N:c6 L)(a b:u_)(q1 q2:Bool)(hA:A1 a)(hB:A1 b)(la:a.length<=1099511627776)(lb:b.length<=1099511627776):Ev L 67 [.sl q1 (a.map AJ),.sl q2 (b.map AJ)] (.int .i64 (C4 (val a) (val b))):=by
 have l1:=FA hA;have l2:=FA hB;have d1:=DX (val a);have d2:=DX (val b);refine Ev.x N.OS rfl rfl ?_;repeat' (first|apply AG<;>intro hc<;>try omega|apply BP;omega|apply AP|apply AE|refine L9 (NF N a _ hA la) ?_|refine L9 (NF N b _ hB lb) ?_|refine AD (yB N _ _) ?_)<;>conv=>whnf
 ·exact BM (AgL O')
 have hlen:(dg (val a)).length=(dg (val b)).length:=O'
 have v1:=BN (val a);have v2:=BN (val b);generalize dg (val a)=X at*;generalize dg (val b)=Y at*;refine C0 (λn=>n) (λ(n:Nat)=>n<=X.length/\X.drop n=Y.drop n) (λn=>[(7,.int .i64 ((n:Int)-1))]) (λ_=>[]) X.length ⟨ka _,by rw[sa (ka _),sa O']⟩ ?_;intro n ⟨p1,p2⟩ ih;rcases n with _|n
 ·repeat' (first|apply AG<;>intro hc<;>try omega|apply AE)<;>conv=>whnf
  rw[qb,qb]at p2;exact BM (VQ (by rw[<-v1,<-v2,p2]))
 ·have e1:((n+1:Nat):Int)-1=n:=O'
  rw[e1];repeat' (first|apply AG<;>intro hc<;>try omega|apply BP;omega|refine A3 V' ?_ rfl ?_;omega|refine dL V' ?_ (λe he hb=>?_);omega|apply AE|refine AD (Aiv N _ _) ?_)<;>conv=>whnf
  ·rename_i x hx _
   rcases Gb x e with h|h|h
   ·have:=jZ d1 d2 hlen hx he p2 h
    refine BM ?_;rw[<-J2 O',<-J2 O']
   ·omega
   ·have:=jZ d2 d1 hlen.symm he hx p2.symm h
    refine BM ?_;rw[<-OI O',<-OI O']
  ·rename_i x hx _
   refine A9 [] E' (ih n O' ⟨O',?_⟩);obtain⟨i1,e1⟩:=zS hx;obtain⟨i2,e2⟩:=zS he;rw[yb i1,yb i2,p2,e1,e2];congr 1;omega
theorem lL:∀(i:Nat){x y:List Int},x.take i=y.take i->i<=x.length->i<=y.length->B0 x y=B0 (x.drop i) (y.drop i)
 |0,_,_,_,_,_=>rfl
 |i+1,a::x,b::y,h,h1,h2=>by
  simp only[Oe,xd]at h;simp only[B0,h.1,Int.lt_irrefl,if_false,List.drop_succ_cons];exact lL i h.2 (by simpa using h1) (by simpa using h2)
 |i+1,[],_,_,h1,_=>by simp at h1
 |i+1,_::_,[],_,_,h2=>by simp at h2
theorem nK(N:q6 L)(x y:List Int)(q1 q2:Bool)(hx:x.length<9223372036854775808)(hy:y.length<9223372036854775808):Ev L 424 [.sl q1 (x.map AZ),.sl q2 (y.map AZ)] (.int .i64 (B0 x y)):=by
 refine Ev.x N.QA rfl rfl ?_;repeat' (first|apply AP|apply AE)<;>conv=>whnf
 refine C0 (λi=>x.length-i) (λ(i:Nat)=>i<=x.length/\i<=y.length/\x.take i=y.take i) (λi=>[(11,.int .i64 i)]) (λ_=>[]) 0 ⟨O',O',rfl⟩ ?_;intro i ⟨p1,p2,p3⟩ ih;have hd:=lL i p3 p1 p2;by_cases hi:i<x.length
 ·obtain⟨a,ha⟩:=N' x i hi
  rw[CW ha]at hd;by_cases hj:i<y.length
  ·obtain⟨b,hb⟩:=N' y i hj
   rw[CW hb]at hd;repeat' (first|apply AG<;>intro hc<;>try omega|apply AR;omega|apply AP|refine A3 V' ?_ rfl ?_;omega|apply AE|refine AD (yB N.toc6 _ _) ?_)<;>conv=>whnf
   ·rw[hd]
    refine BM ?_;simp only[B0];unfold C4 at hc⊢;split
    ·rfl
    ·split
     ·rfl
     ·rename_i h2 h3
      rw[if_neg h2,if_neg h3]at hc;exact absurd rfl hc
   ·have e2:a=b:=by
     unfold C4 at hc;split at hc
     ·omega
     ·split at hc<;>omega
    refine A9 [] E' (ih (i+1) O' ⟨O',O',?_⟩);rw[ja,ja,p3,ha,hb,e2]
  ·rw[ES (l:=y) (i:=i) O']at hd
   rw[hd];repeat' (first|apply AG<;>intro hc<;>try omega|apply AP|refine A3 V' ?_ rfl ?_;omega|apply AE)<;>conv=>whnf
   exact BM rfl
 ·rw[ES (l:=x) (i:=i) O']at hd
  by_cases hj:i<y.length
  ·obtain⟨b,hb⟩:=N' y i hj
   rw[CW hb]at hd;rw[hd];repeat' (first|apply AG<;>intro hc<;>try omega|apply AP|apply AE)<;>conv=>whnf
   exact BM rfl
  ·rw[ES O']at hd
   rw[hd];repeat' (first|apply AG<;>intro hc<;>try omega|apply AP|apply AE)<;>conv=>whnf
   exact BM rfl
def JX:List Int->List Int->Bool
 |b::box,v::s=>decide (-b<=v/\v<=b)&&JX box s
 |_,_=>true
theorem UV:∀{box s:List Int},s.length=box.length->(JX box s=true↔B9 box s)
 |[],[],_=>by simp[JX,B9]
 |b::box,v::s,h=>by
  simp only[JX,B9,za,decide_eq_true_eq];rw[UV (by simpa using h)]
 |[],_::_,h=>by simp at h
 |_::_,[],h=>by simp at h
theorem AjO(N:q6 L)(s box:List Int)(q1 q2:Bool)(hl:s.length=box.length)(hb:∀b∈box,0<=b/\b<=9223372036854775807)(hx:box.length<9223372036854775808):Ev L 425 [.sl q1 (s.map AZ),.sl q2 (box.map AZ)] (.bool (JX box s)):=by
 refine Ev.x N.OO rfl rfl ?_;repeat' (first|apply AP|apply AE)<;>conv=>whnf
 refine C0 (λi=>s.length-i) (λ(i:Nat)=>i<=s.length/\JX (box.drop i) (s.drop i)=JX box s) (λi=>[(9,.int .i64 i)]) (λ_=>[]) 0 ⟨O',rfl⟩ ?_;intro i ⟨p1,p2⟩ ih;by_cases hi:i<s.length
 ·obtain⟨v,hv⟩:=N' s i hi
  obtain⟨b,ib⟩:=N' box i;have ou:=hb b (zM ib);rw[CW hv,CW ib,JX]at p2;repeat' (first|apply AG<;>intro hc<;>try omega|apply AR;omega|apply EC.neg;omega|refine A3 V' ?_ rfl ?_;omega|apply AE)<;>conv=>whnf
  ·rw[decide_eq_false O',da]at p2
   exact EV p2
  ·rw[decide_eq_false O',da]at p2
   exact EV p2
  ·rw[decide_eq_true O',La]at p2
   exact BC [] (ih (i+1) O' ⟨O',p2⟩)
 ·rw[ES O',ES O']at p2
  repeat' (first|apply AG<;>intro hc<;>try omega|apply AE)<;>conv=>whnf
  exact EV p2
abbrev H5(q:Bool)(s:List Int):w_:=[.sl q (s.map AZ)]
abbrev DR(c:List (List Int)×List Int):w_:=[.sl false (c.1.map (H5 false)),.sl false (c.2.map AZ)]
def K2(l:List (List Int)):Nat->Nat
 |0=>0
 |i+1=>if B0 (l.getD i []) (l.getD (K2 l i) [])<0 then i else K2 l i
theorem gZ(l:List (List Int)):∀i,K2 l i<i\/K2 l i=0
 |0=>.inr rfl
 |i+1=>by
  simp only[K2];split
  ·exact .inl O'
  ·rcases gZ l i with h|h<;>omega
theorem pI(l:List (List Int)):∀(i j:Nat),j<i->0<=B0 (l.getD j []) (l.getD (K2 l i) [])
 |i+1,j,h=>by
  simp only[K2];split
  ·rename_i h1
   by_cases e:j=i
   ·subst e;rw[XY];omega
   ·have h2:=pI l i j O'
    rcases Int.lt_or_le (B0 (l.getD j []) (l.getD i [])) 0 with h3|h3
    ·have:=Z9 h3 h1;omega
    ·exact h3
  ·rename_i h1
   by_cases e:j=i
   ·subst e;omega
   ·exact pI l i j O'
theorem gF{l:List (List Int)}{i:Nat}{e:List Int}(h:l[i]?=some e):l.getD i []=e:=by rw[va,h];rfl
def OQ(c:List (List Int)×List Int):List (List Int)×List Int:=(G7 (K2 c.1 c.1.length) c.1,G7 (K2 c.1 c.1.length) c.2)
theorem Xw{α:Type}{l:List α}{i:Nat}{e:α}(h:l[i]?=some e):l.take i++[e]=l.take (i+1):=by rw[ja,h];rfl
theorem VN(c:List (List Int)×List Int):AY (.agg (DR c)):=by
 simp only[AY,BI,true_and,and_true];exact⟨LS (λs=>by simp only[BI,AY,true_and,and_true];exact KO s) c.1,KO c.2⟩
theorem yJ(N:q6 L)(cq:List (List Int))(outs:List Int)(q q1 q2:Bool)(h0:0<cq.length)(hl:outs.length=cq.length)(hb:cq.length<=1000000)(hs:∀s∈cq,s.length<=1000000):Ev L 427 [.sl q1 (cq.map (H5 q)),.sl q2 (outs.map AZ)] (.agg (DR (OQ (cq,outs)))):=by
 refine Ev.x N.MO rfl rfl ?_;repeat' (first|apply AP|apply AE)<;>conv=>whnf
 refine DT (λi _=>cq.length-i) (λ(i m:Nat)=>i<=cq.length/\m=K2 cq i) (λi m=>[(12,.int .i64 i),(5,.int .i64 m)]) (λ_ _=>[]) 0 0 ⟨O',rfl⟩ ?_;intro i m ⟨p1,p2⟩ ih;by_cases hi:i<cq.length
 ·have hm:m<cq.length:=by have:=gZ cq i;omega
  obtain⟨s,kp⟩:=N' cq i hi;obtain⟨t,og⟩:=N' cq m hm;have hC:=nK N s t q q (by have:=hs s (zM kp);omega) (by have:=hs t (zM og);omega);have hn:K2 cq (i+1)=if B0 s t<0 then i else m:=by
   simp only[K2];rw[<-p2,gF kp,gF og]
  repeat' (first|apply AG<;>intro hc<;>try omega|apply AR;omega|refine A3 V' ?_ rfl ?_;omega|apply AE|refine AD (hC) ?_)<;>conv=>whnf
  ·rw[if_pos hc]at hn
   exact BC [] (ih (i+1) i O' ⟨O',hn.symm⟩)
  ·rw[if_neg O']at hn
   exact BC [] (ih (i+1) m O' ⟨O',hn.symm⟩)
 have ei:i=cq.length:=O'
 subst ei;have hm:m<cq.length:=by have:=gZ cq cq.length;omega
 rw[OQ,<-p2];clear ih p1;have fw:∀i,i<cq.length->∃(s:List Int) (v:Int),cq[(m+i)%cq.length]?=some s/\outs[(m+i)%cq.length]?=some v/\(G7 m cq)[i]?=some s/\(G7 m outs)[i]?=some v:=λi hi=>by
  have h1:=gd (m+i) h0;obtain⟨s,hs⟩:=N' cq ((m+i)%cq.length) h1;obtain⟨v,hv⟩:=N' outs ((m+i)%cq.length);exact⟨s,v,hs,hv,(Vf hm hi).trans hs,(Vf O' O').trans (by rw[hl];exact hv)⟩
 have gu:(G7 m cq).length=cq.length:=Vg O';have Nx:(G7 m outs).length=cq.length:=by rw[Vg O',hl]
 have Ac:∀s∈G7 m cq,s.length<=1000000:=λs h=>hs s ((UR m cq).mem_iff.1 h)
 generalize G7 m cq=R at*;generalize G7 m outs=O at*;have Bx:∀i:Nat,(((m:Int)+(i:Int))%(cq.length:Int)).toNat=(m+i)%cq.length:=λi=>by rw[<-gf,<-vf,ua]
 repeat' (first|apply AG<;>intro hc<;>try omega|apply AP|apply AE)<;>conv=>whnf
 refine IV ?_;obtain⟨s,v,a1,a2,a3,a4⟩:=fw 0 h0;have ku:=Ac s (zM a3);have e3:R.take 1=[s]:=by rw[ja,a3];rfl
 have e4:O.take 1=[v]:=by rw[ja,a4];rfl
 repeat' (first|apply AG<;>intro hc<;>try omega|apply AR;omega|(refine IZ ?_ (λ_ _ _=>?_) (λ_ _ _ _=>?_);omega;all_goals try omega)|apply AP|refine A3 V' ?_ rfl ?_;omega|apply AE)<;>conv=>whnf
 refine XF (enc:=AZ) (l:=[]) (l':=s) rfl (λ_=>rfl) K' K' ?_;rw[Db];conv=>whnf
 skip
 refine A2 ⟨by rw[kc],O'⟩ ?_;conv=>whnf
 repeat' (first|refine A3 V' ?_ rfl ?_;omega|apply CI)<;>conv=>whnf
 refine L8 (enc:=AZ) v rfl rfl O' ?_;conv=>whnf
 repeat' (first|apply AR;omega|fail)<;>conv=>whnf
 refine DP (λi=>cq.length-i) (λ(i:Nat)=>1<=i/\i<=cq.length) (λi=>[(29,.int .i64 i)]) (λi=>[(7,7,.bx [.row 47 0 1 0 i,.row 56 0 1 0 i]),(47,47,.mx (EN 1 AZ (R.take i))),(56,56,.rw 1 ((O.take i).map AZ))]) [] [] 1 (by rw[e3,e4];exact E') O' ?_;intro i ⟨p1,p2⟩ ih;by_cases hi:i<cq.length
 ·obtain⟨s,v,a1,a2,a3,a4⟩:=fw i hi
  have ku:=Ac s (zM a3);have e3:=Xw a3;have e4:=Xw a4;have hlR:(R.take i).length=i:=by rw[Ma];omega
  have hlO:(O.take i).length=i:=by rw[Ma];omega
  have hrm:=Bx i;repeat' (first|apply AG<;>intro hc<;>try omega|apply AR;omega|(refine IZ ?_ (λ_ _ _=>?_) (λ_ _ _ _=>?_);omega;all_goals try omega)|apply AP|refine A3 V' ?_ rfl ?_;omega|apply AE)<;>conv=>whnf
  refine XF (enc:=AZ) (l:=[]) (l':=s) rfl (λ_=>rfl) K' K' ?_;rw[Db];conv=>whnf
  skip
  refine A2 (by rw[kc]) ?_;refine ZJ (z:=1) (en:=AZ) (r:=s) O' O' O' ?_;rw[e3];conv=>whnf
  repeat' (first|refine A3 V' ?_ rfl ?_;omega|apply CI)<;>conv=>whnf
  refine C1 (enc:=AZ) v rfl O' rfl O' O' ?_;rw[e4,show(O.take (i+1)).length=i+1 by rw[Ma];omega,show(R.take (i+1)).length=i+1 by rw[Ma];omega];conv=>whnf
  repeat' (first|apply AR;omega|fail)<;>conv=>whnf
  exact BC [(47,1000047),(56,1000056)] (ih (i+1) O' O')
 have ei:i=cq.length:=O'
 rw[ei,zT O',zT O'];clear ih p1 p2 fw;repeat' (first|apply AG<;>intro hc<;>try omega|apply AE)<;>conv=>whnf
 refine VE (λ_=>rfl) rfl gu.symm ?_;conv=>whnf
 refine CR (λ_=>rfl) rfl Nx.symm ?_;conv=>whnf
 exact AU rfl (VN (R,O))
def JD:List Int->Int->Bool
 |[],_=>false
 |b::r,a=>if 4096<a*(2*b+1)then true else JD r (a*(2*b+1))
def I2(n:Nt)(x:Int)(box:List Int):Int :=
 if C6 n then(if(box.length:Int)=n.s then(if box.all (λb=>decide (0<=b))then(if FT n.d x then(if DF n.d box then(if JD box 1 then 5 else 0)else 17)else 17)else 1)else 1)else 2
theorem YD{w:Wd}{v:Int}(h:FT w v):-8388608<=v/\v<=8388607:=by
 obtain⟨h1,h2,h3⟩:=h;obtain⟨g1,g2,g3,g4⟩:=Q5 h1;omega
theorem mT(I:a8 L)(J:k7 L)(N:q6 L)(n:Nt)(x:Int)(box:List Int)(q:Bool)(hb:box.length<9223372036854775808):Ev L 428 [.agg (BX n),.int .i64 x,.sl q (box.map AZ)] (.int .i64 (I2 n x box)):=by
 refine Ev.x N.KZ rfl rfl ?_;repeat' (first|apply AG<;>intro hc<;>try omega|apply AP|apply AE|refine ZL (fR n I J) (λhf=>?_) (λhf=>?_))<;>conv=>whnf
 ·rw[I2,if_pos hf,if_neg hc]
  exact BM rfl
 ·rw[I2,if_pos hf,if_pos hc]
  refine C0 (λi=>box.length-i) (λ(i:Nat)=>i<=box.length/\box.all (λb=>decide (0<=b))=(box.drop i).all λb=>decide (0<=b)) (λi=>[(24,.int .i64 i)]) (λ_=>[]) 0 ⟨O',rfl⟩ ?_;intro i ⟨p1,p2⟩ ih;by_cases hi:i<box.length
  ·obtain⟨b,ib⟩:=N' box i hi
   rw[CW ib,ya]at p2;repeat' (first|apply AG<;>intro hc<;>try omega|apply AR;omega|refine A3 V' ?_ rfl ?_;omega|apply AE)<;>conv=>whnf
   ·rw[decide_eq_false O',da]at p2
    rw[p2];exact BM rfl
   ·rw[decide_eq_true O',La]at p2
    exact BC [] (ih (i+1) O' ⟨O',p2⟩)
  rw[ES O',Fc]at p2;rw[p2,if_pos rfl];have ei:i=box.length:=O'
  subst ei;have h0:∀b∈box,0<=b:=λb h=>of_decide_eq_true (ea.1 p2 b h)
  clear ih p1 p2;repeat' (first|apply AG<;>intro hc<;>try omega|apply AP|apply AE|refine D8 (VZ _ I _) (λhf=>?_) (λhf=>?_))<;>conv=>whnf
  ·rw[if_pos hf]
   refine C0 (λi=>box.length-i) (λ(i:Nat)=>i<=box.length/\DF n.d box=DF n.d (box.drop i)) (λi=>[(38,.int .i64 i)]) (λ_=>[]) 0 ⟨O',rfl⟩ ?_;intro i ⟨p1,p2⟩ ih;by_cases hi:i<box.length
   ·obtain⟨b,ib⟩:=N' box i hi
    rw[CW ib,DF,DF,ya]at p2;repeat' (first|apply AG<;>intro hc<;>try omega|apply AR;omega|refine A3 V' ?_ rfl ?_;omega|apply AE|refine D8 (VZ _ I _) (λhf=>?_) (λhf=>?_))<;>conv=>whnf
    ·rw[decide_eq_true hf,La]at p2
     exact BC [] (ih (i+1) O' ⟨O',p2⟩)
    ·rw[decide_eq_false hf,da]at p2
     rw[show DF n.d box=false from p2];exact BM rfl
   rw[ES O']at p2;have p2:DF n.d box=true:=p2;rw[if_pos p2];have ei:i=box.length:=O'
   subst ei;have hw:∀b∈box,b<=8388607:=λb h=>(YD (of_decide_eq_true (ea.1 p2 b h))).2
   clear ih p1 p2;repeat' (first|apply AG<;>intro hc<;>try omega|apply AP|apply AE)<;>conv=>whnf
   refine DT (λi _=>box.length-i) (λ(i:Nat)(a:Int)=>i<=box.length/\0<=a/\a<=4096/\JD box 1=JD (box.drop i) a) (λi a=>[(50,.int .i64 i),(11,.int .i64 a)]) (λ_ _=>[]) 0 1 ⟨O',O',O',rfl⟩ ?_;intro i a ⟨p1,p2,p3,p4⟩ ih;by_cases hi:i<box.length
   ·obtain⟨b,ib⟩:=N' box i hi
    have jd:=h0 b (zM ib);have ou:=hw b (zM ib);have Bw:0<=a*(2*b+1):=Ld p2 O';have ig:a*(2*b+1)<=4096*16777215:=Jd p3 O' O' O';rw[CW ib,JD]at p4;repeat' (first|apply AG<;>intro hc<;>try omega|apply AR;omega|apply F3;omega|refine A3 V' ?_ rfl ?_;omega|apply AE)<;>conv=>whnf
    ·rw[if_pos O']at p4
     rw[p4];exact BM rfl
    ·rw[if_neg O']at p4
     exact A9 [] E' (ih (i+1) _ O' ⟨O',Bw,O',p4⟩)
   rw[ES O',JD]at p4;rw[p4];repeat' (first|apply AG<;>intro hc<;>try omega|apply AE)<;>conv=>whnf
   exact BM rfl
  ·rw[if_neg hf]
   exact BM rfl
 ·rw[I2,if_neg (by rw[hf];simp)]
  exact BM rfl
theorem yG(N:q6 L)(x y:List Int)(q1 q2:Bool)(hl:x.length=y.length)(hx:x.length<9223372036854775808):Ev L 429 [.sl q1 (x.map AZ),.sl q2 (y.map AZ)] (.bool (decide (B0 x y<0))):=by
 refine Ev.x N.P1 rfl rfl ?_;(repeat' (apply AE<;>conv=>whnf))
 refine C0 (λi=>x.length-i) (λ(i:Nat)=>i<=x.length/\x.take i=y.take i) (λi=>[(5,.int .i64 i)]) (λ_=>[]) 0 ⟨O',rfl⟩ ?_;intro i ⟨p1,p3⟩ ih;have hd:=lL i p3 p1 O';by_cases hi:i<x.length
 ·obtain⟨a,ha⟩:=N' x i hi
  obtain⟨b,hb⟩:=N' y i;rw[CW ha,CW hb,B0]at hd;repeat' (first|apply AG<;>intro hc<;>try omega|apply AR;omega|apply AP|refine A3 V' ?_ rfl ?_;omega|apply AE)<;>conv=>whnf
  ·rename_i h1 h2
   refine QE ?_;rw[hd,if_pos O'];omega
  ·rename_i h1 h2
   refine MA ?_;rw[hd,if_neg O',if_pos O'];omega
  ·refine A9 [] E' (ih (i+1) O' ⟨O',?_⟩)
   rw[ja,ja,p3,ha,hb,hc]
 ·rw[ES O',ES O']at hd
  repeat' (first|apply AG<;>intro hc<;>try omega|apply AP|apply AE)<;>conv=>whnf
  refine MA ?_;rw[hd];simp[B0]
theorem Aix(N:q6 L)(c d:List (List Int)×List Int)(s t:List Int)(hs:c.1[0]?=some s)(ht:d.1[0]?=some t)(ku:s.length<9223372036854775808)(de:t.length<9223372036854775808) :
  Ev L 435 [.agg (DR c),.agg (DR d)] (.int .i64 (B0 s t)):=by
 obtain⟨cs,co⟩:=c;obtain⟨ds,do'⟩:=d;dsimp only at hs ht;show Ev L 435 [.agg [.sl false (cs.map (H5 false)),.sl false (co.map AZ)],.agg [.sl false (ds.map (H5 false)),.sl false (do'.map AZ)]] _;refine Ev.x N.SU rfl rfl ?_;have hC:=nK N s t false false ku de;repeat' (first|refine A3 V' ?_ rfl ?_;omega|apply AE|refine AD (hC) ?_)<;>conv=>whnf
 exact BM rfl
theorem kD{y:u_}{i:Nat}(h:y.length<=i):val (y.take (i+1))=val (y.take i):=by
 rw[C8 h,C8 O']
theorem yT(N:c6 L)(a b:u_)(q1 q2:Bool)(hA:A1 a)(hB:A1 b)(la:a.length<=1099511627775)(lb:b.length<=1099511627775):Ev L 68 [.sl q1 (a.map AJ),.sl q2 (b.map AJ)] (.sl false ((dg (val a+val b)).map AJ)):=by
 have l1:=FA hA;have l2:=FA hB;have d1:=DX (val a);have d2:=DX (val b);have v1:=BN (val a);have v2:=BN (val b);refine Ev.x N.OR rfl rfl ?_;repeat' (first|apply AG<;>intro hc<;>try omega|apply AR;omega|apply AP|apply AE|refine L9 (NF N a _ hA O') ?_|refine L9 (NF N b _ hB O') ?_)<;>conv=>whnf
 ·generalize dg (val a)=y at*
  generalize dg (val b)=x at*;rw[<-v1,<-v2,re (val y)];have hlen:y.length<=x.length:=O'
  have Ov:x.length<=1099511627775:=O'
  clear v1 v2 hA hB la lb;refine E6 (enc:=AJ) 0 (x.length+1) rfl O' O' ?_;conv=>whnf
  (repeat' (apply AP<;>conv=>whnf))
  refine FP (λi _ _=>x.length-i) (λ(i:Nat)(o:u_)(c:Nat)=>i<=x.length/\o.length=x.length+1/\A1 o/\c<=1/\val (o.take i)+4294967296^i*c=val (x.take i)+val (y.take i)) (λi o c=>[(8,.int .u64 (c:Int)),(29,.int .i64 i)]) (λi o c=>[(26,26,.rw 1 (o.map AJ))]) 0 (na (x.length+1) 0) 0 ⟨O',Z',KS _,O',by simp[val]⟩ ?_;intro i o c ⟨p1,p2,p3,p4,p5⟩ ih;by_cases hi:i<x.length
  ·repeat' (first|apply AG<;>intro hc<;>try omega|apply A2;omega|apply HH;omega|apply B1;omega|apply GV|apply AP|refine dL V' ?_ (λe he hb=>?_);omega|apply AE)<;>conv=>whnf
   ·rename_i d hd _
    refine F4 O' ?_;conv=>whnf
    repeat' (first|apply AR;omega|apply GD)<;>conv=>whnf
    refine A9 [] E' (ih (i+1) _ _ O' ⟨O',by simpa using p2,p3.set _ O',O',?_⟩);have h1:=EB hd;have h2:=EB he;have h3:=QO (val (o.take i)) (4294967296^i) (d+c+e);have h4:=HD (v:=(d+c+e)%4294967296) (show i<o.length by omega);rw[h4,h1,h2,Na];generalize 4294967296^i=p at*;rw[h3,Oa,Oa];omega
   ·refine F4 O' ?_
    (conv=>whnf)
    repeat' (first|apply AR;omega|apply GD)<;>conv=>whnf
    refine A9 [] E' (ih (i+1) _ _ O' ⟨O',by simpa using p2,p3.set _ O',O',?_⟩);have h1:=EB he;have h2:=kD (y:=y) (i:=i) O';have h3:=QO (val (o.take i)) (4294967296^i) (e+c);have h4:=HD (v:=(e+c)%4294967296) (show i<o.length by omega);rw[h4,h1,h2,Na];generalize 4294967296^i=p at*;rw[h3,Oa];omega
  ·obtain rfl:i=x.length:=O'
   clear ih;repeat' (first|apply AG<;>intro hc<;>try omega|apply A2;omega|apply EP;omega|apply AP|apply AE)<;>conv=>whnf
   refine F4 O' ?_;conv=>whnf
   skip
   have hV:val (o.set x.length c)=val x+val y:=by
    have h4:=HD (v:=c) (show x.length<o.length by omega);rw[zT K']at h4;rw[h4,p5,C8 (ka _),C8 hlen]
   have hD:A1 (o.set x.length c):=p3.set _ O';have hL:(o.set x.length c).length=x.length+1:=by simpa using p2
   clear p3 p4 p5 p2;generalize o.set x.length c=O at*;rw[<-hL];refine IX 1000 N.G3 rfl rfl ?_;(repeat' (apply AE<;>conv=>whnf))
   refine DP (λn=>n) (λ(n:Nat)=>n<=(O).length/\∀i,n<=i->i<(O).length->(O)[i]?=some 0) (λn=>[(3,.int .i64 n)]) (λ_=>[]) [] [] (O).length (by first|exact E'|(simp only[nb,mb];exact E')) ⟨ka _,λi h1 h2=>O'⟩ ?_;intro n ⟨p1,p2⟩ ih;rcases n with _|n
   ·repeat' (first|apply AG<;>intro hc<;>try omega|apply AE)<;>conv=>whnf
    refine IW 0 O' O' ?_;conv=>whnf
    refine⟨rfl,_,rfl,?_⟩;conv=>whnf
    have hm:=p1;have er:=HU (l:=O) V' p1 p2 (Or.inl rfl);clear ih p1 p2;(refine HQ (enc:=AJ) (λ_=>rfl) O' ?_;(conv=>whnf);exact AU (by rw[<-hV,<-er];rfl) (by simp only[AY,true_and];exact CS _))
   ·have e1:((n+1:Nat):Int)-1=n:=O'
    repeat' (first|apply AG<;>intro hc<;>try omega|apply A2;omega|apply BP;omega|refine U6 V' ?_ (λv hv hb=>?_);omega|apply AE)<;>conv=>whnf
    ·rw[e1]
     exact BC [] (ih n O' ⟨O',λi h1 h2=>by
      by_cases h:i=n
      ·subst h
       rw[e1,ua]at hv;rw[hv];congr 1;omega
      ·exact p2 i O' h2⟩)
    ·refine IW (n+1) O' O' ?_
     (conv=>whnf)
     refine⟨rfl,_,rfl,?_⟩;conv=>whnf
     rw[e1,ua]at hv;have hm:=p1;have er:=HU (l:=O) V' p1 p2 (Or.inr ⟨_,hv,O'⟩);clear ih p1 p2 hv;(refine HQ (enc:=AJ) (λ_=>rfl) O' ?_;(conv=>whnf);exact AU (by rw[<-hV,<-er];rfl) (by simp only[AY,true_and];exact CS _))
 ·generalize dg (val a)=x at*
  generalize dg (val b)=y at*;rw[<-v1,<-v2];have hlen:y.length<=x.length:=O'
  have Ov:x.length<=1099511627775:=O'
  clear v1 v2 hA hB la lb;refine E6 (enc:=AJ) 0 (x.length+1) rfl O' O' ?_;conv=>whnf
  (repeat' (apply AP<;>conv=>whnf))
  refine FP (λi _ _=>x.length-i) (λ(i:Nat)(o:u_)(c:Nat)=>i<=x.length/\o.length=x.length+1/\A1 o/\c<=1/\val (o.take i)+4294967296^i*c=val (x.take i)+val (y.take i)) (λi o c=>[(8,.int .u64 (c:Int)),(29,.int .i64 i)]) (λi o c=>[(26,26,.rw 1 (o.map AJ))]) 0 (na (x.length+1) 0) 0 ⟨O',Z',KS _,O',by simp[val]⟩ ?_;intro i o c ⟨p1,p2,p3,p4,p5⟩ ih;by_cases hi:i<x.length
  ·repeat' (first|apply AG<;>intro hc<;>try omega|apply A2;omega|apply HH;omega|apply B1;omega|apply GV|apply AP|refine dL V' ?_ (λe he hb=>?_);omega|apply AE)<;>conv=>whnf
   ·rename_i d hd _
    refine F4 O' ?_;conv=>whnf
    repeat' (first|apply AR;omega|apply GD)<;>conv=>whnf
    refine A9 [] E' (ih (i+1) _ _ O' ⟨O',by simpa using p2,p3.set _ O',O',?_⟩);have h1:=EB hd;have h2:=EB he;have h3:=QO (val (o.take i)) (4294967296^i) (d+c+e);have h4:=HD (v:=(d+c+e)%4294967296) (show i<o.length by omega);rw[h4,h1,h2,Na];generalize 4294967296^i=p at*;rw[h3,Oa,Oa];omega
   ·refine F4 O' ?_
    (conv=>whnf)
    repeat' (first|apply AR;omega|apply GD)<;>conv=>whnf
    refine A9 [] E' (ih (i+1) _ _ O' ⟨O',by simpa using p2,p3.set _ O',O',?_⟩);have h1:=EB he;have h2:=kD (y:=y) (i:=i) O';have h3:=QO (val (o.take i)) (4294967296^i) (e+c);have h4:=HD (v:=(e+c)%4294967296) (show i<o.length by omega);rw[h4,h1,h2,Na];generalize 4294967296^i=p at*;rw[h3,Oa];omega
  ·obtain rfl:i=x.length:=O'
   clear ih;repeat' (first|apply AG<;>intro hc<;>try omega|apply A2;omega|apply EP;omega|apply AP|apply AE)<;>conv=>whnf
   refine F4 O' ?_;conv=>whnf
   skip
   have hV:val (o.set x.length c)=val x+val y:=by
    have h4:=HD (v:=c) (show x.length<o.length by omega);rw[zT K']at h4;rw[h4,p5,C8 (ka _),C8 hlen]
   have hD:A1 (o.set x.length c):=p3.set _ O';have hL:(o.set x.length c).length=x.length+1:=by simpa using p2
   clear p3 p4 p5 p2;generalize o.set x.length c=O at*;rw[<-hL];refine IX 1000 N.G3 rfl rfl ?_;(repeat' (apply AE<;>conv=>whnf))
   refine DP (λn=>n) (λ(n:Nat)=>n<=(O).length/\∀i,n<=i->i<(O).length->(O)[i]?=some 0) (λn=>[(3,.int .i64 n)]) (λ_=>[]) [] [] (O).length (by first|exact E'|(simp only[nb,mb];exact E')) ⟨ka _,λi h1 h2=>O'⟩ ?_;intro n ⟨p1,p2⟩ ih;rcases n with _|n
   ·repeat' (first|apply AG<;>intro hc<;>try omega|apply AE)<;>conv=>whnf
    refine IW 0 O' O' ?_;conv=>whnf
    refine⟨rfl,_,rfl,?_⟩;conv=>whnf
    have hm:=p1;have er:=HU (l:=O) V' p1 p2 (Or.inl rfl);clear ih p1 p2;(refine HQ (enc:=AJ) (λ_=>rfl) O' ?_;(conv=>whnf);exact AU (by rw[<-hV,<-er];rfl) (by simp only[AY,true_and];exact CS _))
   ·have e1:((n+1:Nat):Int)-1=n:=O'
    repeat' (first|apply AG<;>intro hc<;>try omega|apply A2;omega|apply BP;omega|refine U6 V' ?_ (λv hv hb=>?_);omega|apply AE)<;>conv=>whnf
    ·rw[e1]
     exact BC [] (ih n O' ⟨O',λi h1 h2=>by
      by_cases h:i=n
      ·subst h
       rw[e1,ua]at hv;rw[hv];congr 1;omega
      ·exact p2 i O' h2⟩)
    ·refine IW (n+1) O' O' ?_
     (conv=>whnf)
     refine⟨rfl,_,rfl,?_⟩;conv=>whnf
     rw[e1,ua]at hv;have hm:=p1;have er:=HU (l:=O) V' p1 p2 (Or.inr ⟨_,hv,O'⟩);clear ih p1 p2 hv;(refine HQ (enc:=AJ) (λ_=>rfl) O' ?_;(conv=>whnf);exact AU (by rw[<-hV,<-er];rfl) (by simp only[AY,true_and];exact CS _))
theorem AgJ{a b:Int}(h:C4 a b<=0):a<=b:=by
 unfold C4 at h;split at h
 ·omega
 ·split at h<;>omega
theorem AgK{a b:Int}(h:0<C4 a b):b<a:=by
 unfold C4 at h;split at h
 ·omega
 ·split at h<;>omega
theorem mV(N:c6 L)(a b:u_)(q1 q2:Bool)(hA:A1 a)(hB:A1 b)(la:a.length<=1099511627776)(lb:b.length<=1099511627776):Ev L 69 [.sl q1 (a.map AJ),.sl q2 (b.map AJ)] (.sl false ((dg (val a-val b)).map AJ)):=by
 have l1:=FA hA;have l2:=FA hB;have d1:=DX (val a);have d2:=DX (val b);have v1:=BN (val a);have v2:=BN (val b);refine Ev.x N.OT rfl rfl ?_;repeat' (first|apply AG<;>intro hc<;>try omega|apply AP|apply AE|refine AD (QW N a b _ _ hA hB la lb) ?_|refine L9 (NF N a _ hA la) ?_|refine L9 (NF N b _ hB lb) ?_)<;>conv=>whnf
 ·have:=AgJ hc
  refine AU ?_ (by simp only[AY,true_and];exact CS _);rw[show val a-val b=0 by omega,FJ];rfl
 ·have hlt:=AgK hc
  have sf:(dg (val b)).length<=(dg (val a)).length:=by
   rcases oc (dg (val a)).length (dg (val b)).length with h|h
   ·have:=ZH h;omega
   ·exact h
  have nz:val b<val a:=O'
  clear hlt hc;generalize dg (val a)=x at*;generalize dg (val b)=y at*;rw[<-v1,<-v2]at nz⊢;clear v1 v2 hA hB lb;refine E6 (enc:=AJ) 0 x.length rfl rfl O' ?_;conv=>whnf
  (repeat' (apply AP<;>conv=>whnf))
  refine FP (λi _ _=>x.length-i) (λ(i:Nat)(o:u_)(c:Nat)=>i<=x.length/\o.length=x.length/\A1 o/\c<=1/\val (o.take i)+val (y.take i)=val (x.take i)+4294967296^i*c) (λi o c=>[(8,.int .u64 (c:Int)),(25,.int .i64 i)]) (λi o c=>[(22,22,.rw 1 (o.map AJ))]) 0 (na x.length 0) 0 ⟨O',Z',KS _,O',by simp[val]⟩ ?_;intro i o c ⟨p1,p2,p3,p4,p5⟩ ih;by_cases hi:i<x.length
  ·repeat' (first|apply AG<;>intro hc<;>try omega|apply A2;omega|apply dK;omega|apply B1;omega|apply GV|apply AP|refine dL V' ?_ (λe he hb=>?_);omega|apply AE)<;>conv=>whnf
   ·rename_i d hd az
    obtain⟨s1,s2⟩:=AnL az hb p4;refine F4 O' ?_;conv=>whnf
    repeat' (first|apply AR;omega|apply dJ)<;>conv=>whnf
    generalize E1 (E1 d c) e=t at*;refine A9 [] E' (ih (i+1) _ _ O' ⟨O',by simpa using p2,p3.set _ O',s2,?_⟩);rw[HD O',EB hd,EB he,Na];exact Zm p5 s1
   ·obtain⟨s1,s2⟩:=AnK hb p4
    refine F4 O' ?_;conv=>whnf
    repeat' (first|apply AR;omega|apply dJ)<;>conv=>whnf
    generalize E1 e c=t at*;refine A9 [] E' (ih (i+1) _ _ O' ⟨O',by simpa using p2,p3.set _ O',s2,?_⟩);rw[HD O',EB he,kD O',Na];rw[<-Da (t%4294967296)]at s1;have:=Zm (e:=0) p5 s1
    rw[Fa,Da]at this;exact this
  ·obtain rfl:i=x.length:=O'
   clear ih;have dz:c=0:=by
    rw[C8 O',C8 sf,C8 (ka _)]at p5;have:=FM p3
    rw[p2]at this;rcases Mb c with h|h
    ·exact h
    ·have:c=1:=O'
     subst this;omega
   subst dz;have hV:val o=val x-val y:=by
    rw[C8 O',C8 sf,C8 (ka _)]at p5;omega
   clear p5 p4;rw[<-p2];repeat' (first|apply AG<;>intro hc<;>try omega|apply AE)<;>conv=>whnf
   refine IX 1000 N.G3 rfl rfl ?_;(repeat' (apply AE<;>conv=>whnf))
   refine DP (λn=>n) (λ(n:Nat)=>n<=(o).length/\∀i,n<=i->i<(o).length->(o)[i]?=some 0) (λn=>[(3,.int .i64 n)]) (λ_=>[]) [] [] (o).length (by first|exact E'|(simp only[nb,mb];exact E')) ⟨ka _,λi h1 h2=>O'⟩ ?_;intro n ⟨p1,p2⟩ ih;rcases n with _|n
   ·repeat' (first|apply AG<;>intro hc<;>try omega|apply AE)<;>conv=>whnf
    refine IW 0 O' O' ?_;conv=>whnf
    refine⟨rfl,_,rfl,?_⟩;conv=>whnf
    have hm:=p1;have er:=HU (l:=o) V' p1 p2 (Or.inl rfl);clear ih p1 p2;(refine HQ (enc:=AJ) (λ_=>rfl) O' ?_;(conv=>whnf);exact AU (by rw[<-hV,<-er];rfl) (by simp only[AY,true_and];exact CS _))
   ·have e1:((n+1:Nat):Int)-1=n:=O'
    repeat' (first|apply AG<;>intro hc<;>try omega|apply A2;omega|apply BP;omega|refine U6 V' ?_ (λv hv hb=>?_);omega|apply AE)<;>conv=>whnf
    ·rw[e1]
     exact BC [] (ih n O' ⟨O',λi h1 h2=>by
      by_cases h:i=n
      ·subst h
       rw[e1,ua]at hv;rw[hv];congr 1;omega
      ·exact p2 i O' h2⟩)
    ·refine IW (n+1) O' O' ?_
     (conv=>whnf)
     refine⟨rfl,_,rfl,?_⟩;conv=>whnf
     rw[e1,ua]at hv;have hm:=p1;have er:=HU (l:=o) V' p1 p2 (Or.inr ⟨_,hv,O'⟩);clear ih p1 p2 hv;(refine HQ (enc:=AJ) (λ_=>rfl) O' ?_;(conv=>whnf);exact AU (by rw[<-hV,<-er];rfl) (by simp only[AY,true_and];exact CS _))
theorem mU(N:c6 L)(a b:u_)(q1 q2:Bool)(hA:A1 a)(hB:A1 b)(lab:a.length+b.length<=1099511627776):Ev L 70 [.sl q1 (a.map AJ),.sl q2 (b.map AJ)] (.sl false ((dg (val a*val b)).map AJ)):=by
 have l1:=FA hA;have l2:=FA hB;have d1:=DX (val a);have d2:=DX (val b);have v1:=BN (val a);have v2:=BN (val b);refine Ev.x N.MT rfl rfl ?_;have hz:∀p:Prop,((dg (val a)).length:Int)=0\/((dg (val b)).length:Int)=0->AH (.sl false []) (.sl false ((dg (val a*val b)).map AJ)):=λ_ h=>by
  have:val a*val b=0:=by
   rcases h with h|h
   ·have:dg (val a)=[]:=Cc O'
    rw[lX.1 this,Nat.zero_mul]
   ·have:dg (val b)=[]:=Cc O'
    rw[lX.1 this,Fa]
  exact AU (by rw[this,FJ];rfl) (by simp only[AY,true_and];exact CS _)
 repeat' (first|apply AG<;>intro hc<;>try omega|apply AR;omega|apply AP|apply AE|refine L9 (NF N a _ hA O') ?_|refine L9 (NF N b _ hB O') ?_)<;>conv=>whnf
 ·exact hz True (Or.inl hc)
 ·exact hz True (Or.inr hc)
 ·clear hz
  generalize dg (val a)=x at*;generalize dg (val b)=y at*;rw[<-v1,<-v2];have ue:x.length+y.length<=1099511627776:=O'
  clear v1 v2 hA hB lab l1 l2;refine E6 (enc:=AJ) 0 (x.length+y.length) rfl O' O' ?_;conv=>whnf
  (repeat' (apply AP<;>conv=>whnf))
  refine DT (λi _=>x.length-i) (λ(i:Nat)(o:u_)=>i<=x.length/\o.length=x.length+y.length/\A1 o/\val o=val (x.take i)*val y/\∀k,i+y.length<=k->k<o.length->o[k]?=some 0) (λi o=>[(34,.int .i64 i)]) (λi o=>[(31,31,.rw 1 (o.map AJ))]) 0 (na (x.length+y.length) 0) ⟨O',Z',KS _,by simp[val,kF],λk h1 h2=>by simp at h2;simp[h2]⟩ ?_;intro i O ⟨p1,p2,p3,p4,p5⟩ ih;by_cases hi:i<x.length
  ·obtain⟨d,hd⟩:=N' x i hi
   have az:=d1.at hd;repeat' (first|apply AG<;>intro hc<;>try omega|apply AR;omega|apply AP|refine A3 V' ?_ rfl ?_;omega|apply AE)<;>conv=>whnf
   ·refine A9 [] E' (ih (i+1) O O' ⟨O',p2,p3,?_,λk h1 h2=>p5 k O' h2⟩)
    rw[EB hd,p4,show d=0 by omega,Fa,Da]
   ·refine FP (λj _ _=>y.length-j) (λ(j:Nat)(o:u_)(c:Nat)=>j<=y.length/\o.length=x.length+y.length/\A1 o/\c<4294967296/\val o+4294967296^(i+j)*c=val O+4294967296^i*(d*val (y.take j))/\∀k,i+j<=k->o[k]?=O[k]?) (λj o c=>[(10,.int .u64 (c:Int)),(43,.int .i64 j)]) (λj o c=>[(31,31,.rw 1 (o.map AJ))]) 0 O 0 ⟨O',p2,p3,O',by simp[val],λ_ _=>rfl⟩ ?_
    intro j o c ⟨r1,r2,r3,r4,r5,r6⟩ jh;have e1:((i:Int)+j).toNat=i+j:=O'
    by_cases hj:j<y.length
    ·obtain⟨w,hw⟩:=N' y j hj
     have sw:=d2.at hw;have hm:=YR az sw;repeat' (first|apply AG<;>intro hc<;>try omega|apply A2;omega|apply AR;omega|apply HH;omega|apply QG;omega|apply B1;omega|apply GV|refine A3 V' ?_ rfl ?_;omega|refine tX V' ?_ (λv hv hb=>?_);omega|apply AE)<;>conv=>whnf
     refine dP (i+j) O' O' ?_;conv=>whnf
     repeat' (first|apply AR;omega|apply GD)<;>conv=>whnf
     refine A9 [] E' (jh (j+1) _ _ O' ⟨O',by simpa using r2,r3.set _ O',O',?_,?_⟩)
     ·have h1:=kC (v:=(d*w+v+c)%4294967296) hv
      have h2:=QO 0 (4294967296^(i+j)) (d*w+v+c);rw[EB hw,show i+(j+1)=i+j+1 by omega,Na (4294967296) (i+j)];have h3:4294967296^i*(d*(val (y.take j)+4294967296^j*w))=4294967296^i*(d*val (y.take j))+4294967296^(i+j)*(d*w):=by rw[Ba];grind
      rw[h3];generalize 4294967296^(i+j)=P at*;rw[Oa P,Oa P]at h2;omega
     ·intro k hk
      rw[Eb O'];exact r6 k O'
    ·obtain rfl:j=y.length:=O'
     clear jh;repeat' (first|apply AG<;>intro hc<;>try omega|apply A2;omega|apply AR;omega|apply EP;omega|apply AP|apply AE)<;>conv=>whnf
     have hz:=r6 (i+y.length) O';rw[p5 (i+y.length) O' O']at hz;refine dP (i+y.length) O' O' ?_;conv=>whnf
     repeat' (first|apply AR;omega|fail)<;>conv=>whnf
     refine A9 [] E' (ih (i+1) _ O' ⟨O',by simpa using r2,r3.set _ O',?_,?_⟩)
     ·have h1:=kC (v:=c) hz
      rw[Fa,Da]at h1;rw[h1,r5,p4,C8 (ka _),EB hd,yd,Ga]
     ·intro k h1 h2
      rw[nb]at h2;rw[Eb O',r6 k O'];exact p5 k O' O'
  ·obtain rfl:i=x.length:=O'
   clear ih;rw[C8 (ka _)]at p4;rw[<-p4,<-p2];repeat' (first|apply AG<;>intro hc<;>try omega|apply AE)<;>conv=>whnf
   clear p5;refine IX 1000 N.G3 rfl rfl ?_;(repeat' (apply AE<;>conv=>whnf))
   refine DP (λn=>n) (λ(n:Nat)=>n<=(O).length/\∀i,n<=i->i<(O).length->(O)[i]?=some 0) (λn=>[(3,.int .i64 n)]) (λ_=>[]) [] [] (O).length (by first|exact E'|(simp only[nb,mb];exact E')) ⟨ka _,λi h1 h2=>O'⟩ ?_;intro n ⟨p1,p2⟩ ih;rcases n with _|n
   ·repeat' (first|apply AG<;>intro hc<;>try omega|apply AE)<;>conv=>whnf
    refine IW 0 O' O' ?_;conv=>whnf
    refine⟨rfl,_,rfl,?_⟩;conv=>whnf
    have hm:=p1;have er:=HU (l:=O) V' p1 p2 (Or.inl rfl);clear ih p1 p2;(refine HQ (enc:=AJ) (λ_=>rfl) O' ?_;(conv=>whnf);exact AU (by rw[<-er];rfl) (by simp only[AY,true_and];exact CS _))
   ·have e1:((n+1:Nat):Int)-1=n:=O'
    repeat' (first|apply AG<;>intro hc<;>try omega|apply A2;omega|apply BP;omega|refine U6 V' ?_ (λv hv hb=>?_);omega|apply AE)<;>conv=>whnf
    ·rw[e1]
     exact BC [] (ih n O' ⟨O',λi h1 h2=>by
      by_cases h:i=n
      ·subst h
       rw[e1,ua]at hv;rw[hv];congr 1;omega
      ·exact p2 i O' h2⟩)
    ·refine IW (n+1) O' O' ?_
     (conv=>whnf)
     refine⟨rfl,_,rfl,?_⟩;conv=>whnf
     rw[e1,ua]at hv;have hm:=p1;have er:=HU (l:=O) V' p1 p2 (Or.inr ⟨_,hv,O'⟩);clear ih p1 p2 hv;(refine HQ (enc:=AJ) (λ_=>rfl) O' ?_;(conv=>whnf);exact AU (by rw[<-er];rfl) (by simp only[AY,true_and];exact CS _))
end Go.Eng

namespace Go.Eng
open F
section
variable {K:AV->Prop} {a b s:Nat} {k':IntKind}
theorem uC(hs:s<=32)(hk:K (.int .u32 ((RE a s:Nat):Int))):AC .shl .u32 (a:Int) k' (s:Int) K:=by
 refine dI (show s<=IntKind.u32.bits from hs) ?_;rw[wrap_u32,<-rR];exact hk
theorem QJ(hs:s<=64)(h:a*2^s<=18446744073709551615)(hk:K (.int .u64 ((a*2^s:Nat):Int))):AC .shl .u64 (a:Int) k' (s:Int) K:=by
 refine dI (show s<=IntKind.u64.bits from hs) ?_;rw[IntWalk.u64_in _ O'];exact hk
theorem kN(n:Nat)(hx:a%2^n=0)(hy:b<2^n)(h:a+b<=4294967295)(hk:K (.int .u32 ((a+b:Nat):Int))):AC .or .u32 (a:Int) .u32 (b:Int) K :=
 kM n hx hy (show a+b<4294967296 by omega) (IntWalk.u32_in _ O') hk
theorem Afb(n:Nat)(hx:b%2^n=0)(hy:a<2^n)(h:a+b<=4294967295)(hk:K (.int .u32 ((a+b:Nat):Int))):AC .or .u32 (a:Int) .u32 (b:Int) K:=by
 have e:C5 .or .u32 (a:Int) .u32 (b:Int)=C5 .or .u32 (b:Int) .u32 (a:Int):=by
  simp only[C5,if_true,Be]
 rw[re]at hk h;obtain⟨v,h1,h2⟩:=kN (K:=K) n hx hy h hk;exact⟨v,by rw[e];exact h1,h2⟩
theorem Afe(hs:s<=32)(hk:K (.int .u32 ((a/2^s:Nat):Int))):AC .shr .u32 (a:Int) k' (s:Int) K:=QI (show s<=IntKind.u32.bits from hs) hk
end
attribute [local irreducible] AA AF AW AC AX BG CM A5 AB AH pw
variable {L:Lib}
def kL(a:u_)(s:Nat)(o:u_):Prop:=A1 o/\(a.length<=o.length/\o.length<=a.length+1)/\(val a*2^s<4294967296^o.length->val o=val a*2^s)
theorem Alp{a o:u_}{s lo:Nat}(hD:A1 o)(hl:o.length=a.length)(h:val (o.take a.length)+4294967296^a.length*lo=val (a.take a.length)*2^s):kL a s o:=by
 refine⟨hD,O',λhlt=>?_⟩;rw[C8 O',C8 (ka _)]at h;rw[hl]at hlt;have:lo=0:=by
  rcases Mb lo with h0|h0
  ·exact h0
  ·have:4294967296^a.length*1<=4294967296^a.length*lo:=ga _ h0
   omega
 subst this;omega
theorem Uo{a o:u_}{s lo:Nat}(hD:A1 o)(w7:lo<4294967296)(hl:o.length=a.length+1)(h:val (o.take a.length)+4294967296^a.length*lo=val (a.take a.length)*2^s):kL a s (o.set a.length lo):=by
 refine⟨hD.set _ w7,by simp;omega,λ_=>?_⟩;have h1:=HD (v:=lo) (show a.length<o.length by omega);rw[C8 K',h,C8 (ka _)]at h1;exact h1
theorem AiZ(N:c6 L)(a:u_)(q:Bool)(s n:Nat)(hA:A1 a)(hs:s<=31)(hn:a.length<=n/\n<=a.length+1)(la:a.length<=1099511627776):∃r,Ev L 71 [.sl q (a.map AJ),.int .u64 (s:Int),.int .i64 (n:Int)] r/\∃o,kL a s o/\o.length=n/\r = .sl false (o.map AJ):=by
 refine Ev.xE N.MW rfl rfl ?_;(repeat' (apply AE<;>conv=>whnf))
 refine E6 (enc:=AJ) 0 n rfl rfl O' ?_;conv=>whnf
 (repeat' (apply AP<;>conv=>whnf))
 refine FP (λi _ _=>a.length-i) (λ(i:Nat)(o:u_)(lo:Nat)=>i<=a.length/\o.length=n/\A1 o/\lo<2^s/\val (o.take i)+4294967296^i*lo=val (a.take i)*2^s) (λi o lo=>[(8,.int .u32 (lo:Int)),(15,.int .i64 i)]) (λi o lo=>[(71012,71012,.rw 1 (o.map AJ))]) 0 (na n 0) 0 ⟨O',Z',KS _,jc s,by simp[val]⟩ ?_;intro i o lo ⟨p1,p2,p3,p4,p5⟩ ih;have oy:=bQ (s:=s) O';by_cases hi:i<a.length
 ·obtain⟨d,hd⟩:=N' a i hi
  have az:=hA.at hd;obtain⟨f1,f2,f3,f4⟩:=WU (s:=s) az O';repeat' (first|apply AG<;>intro hc<;>try omega|refine A3 V' ?_ rfl ?_;omega|apply AE)<;>conv=>whnf
  refine uC O' ?_;conv=>whnf
  skip
  refine kN s f1 p4 O' ?_;conv=>whnf
  repeat' (first|apply A2;omega|fail)<;>conv=>whnf
  refine F4 O' ?_;conv=>whnf
  repeat' (first|apply B1;omega|fail)<;>conv=>whnf
  refine QJ O' f4 ?_;conv=>whnf
  repeat' (first|apply AR;omega|apply GD|apply EP;omega)<;>conv=>whnf
  rw[<-WT];refine A9 [] E' (ih (i+1) _ _ O' ⟨O',by simpa using p2,p3.set _ O',f2,?_⟩);rw[HD O',EB hd,Na];exact Up p5
 ·obtain rfl:i=a.length:=O'
  clear ih;repeat' (first|apply AG<;>intro hc<;>try omega|apply A2;omega|apply AP|apply AE)<;>conv=>whnf
  ·refine F4 O' ?_
   (conv=>whnf)
   skip
   refine⟨_,?_,_,Uo p3 O' O' p5,by simpa using p2,rfl⟩;conv=>whnf
   refine CR (enc:=AJ) (λ_=>rfl) rfl (by simp[p2]) ?_;conv=>whnf
   exact AU rfl (by simp only[AY,true_and];exact CS _)
  ·refine⟨_,?_,_,Alp p3 O' p5,p2,rfl⟩
   (conv=>whnf)
   refine CR (enc:=AJ) (λ_=>rfl) rfl (by simp[p2]) ?_;conv=>whnf
   exact AU rfl (by simp only[AY,true_and];exact CS _)
theorem Ai0(N:c6 L)(a:u_)(q:Bool)(s:Nat)(hA:A1 a)(hs:s<=31)(la:a.length<=1099511627776):∃r,Ev L 72 [.sl q (a.map AJ),.int .u64 (s:Int)] r/\∃o,A1 o/\o.length=a.length/\val o=val a/2^s/\r = .sl false (o.map AJ):=by
 refine Ev.xE N.OW rfl rfl ?_;repeat' (first|apply AP|apply AE)<;>conv=>whnf
 refine E6 (enc:=AJ) 0 a.length rfl rfl O' ?_;conv=>whnf
 repeat' (first|apply BP;omega|apply AP)<;>conv=>whnf
 refine FP (λn _ _=>n) (λ(n:Nat)(o:u_)(hi:Nat)=>n<=a.length/\o.length=a.length/\A1 o/\hi=val (a.drop n)%2^s*2^(32-s)/\val (o.drop n)=val (a.drop n)/2^s) (λn o hi=>[(6,.int .u32 (hi:Int)),(7,.int .i64 ((n:Int)-1))]) (λn o hi=>[(10,10,.rw 1 (o.map AJ))]) a.length (na a.length 0) 0 ⟨O',Z',KS _,by rw[sa (ka _)];simp[val],by rw[sa (ka _),sa Z'];simp[val]⟩ ?_;intro n o hi ⟨p1,p2,p3,p4,p5⟩ ih;rcases n with _|n
 ·repeat' (first|apply AG<;>intro hc<;>try omega|apply AE)<;>conv=>whnf
  rw[qb,qb]at p5;refine⟨_,?_,_,p3,p2,p5,rfl⟩;conv=>whnf
  refine CR (enc:=AJ) (λ_=>rfl) rfl p2.symm ?_;conv=>whnf
  exact AU rfl (by simp only[AY,true_and];exact CS _)
 ·have e1:((n+1:Nat):Int)-1=n:=O'
  rw[e1];obtain⟨d,hd⟩:=N' a n;have az:=hA.at hd;obtain⟨f1,f2,f3⟩:=Ut (V:=val (a.drop (n+1))) az (show s<=32 by omega);obtain⟨g1,g2,g3,g4⟩:=WU az (show 32-s<=32 by omega);rw[<-p4]at f2 f3;repeat' (first|apply AG<;>intro hc<;>try omega|refine A3 V' ?_ rfl ?_;omega|apply AE)<;>conv=>whnf
  refine Afe O' ?_;conv=>whnf
  skip
  refine Afb (32-s) f2 f1 O' ?_;conv=>whnf
  repeat' (first|apply A2;omega|fail)<;>conv=>whnf
  refine F4 O' ?_;conv=>whnf
  repeat' (first|apply dK;omega|apply B1;omega|refine A3 V' ?_ rfl ?_;omega)<;>conv=>whnf
  rw[show E1 32 s=32-s by rw[W8];omega];refine QJ O' g4 ?_;conv=>whnf
  repeat' (first|apply BP;omega|apply GV)<;>conv=>whnf
  rw[Alx O'];refine A9 [] E' (ih n _ _ O' ⟨O',by simpa using p2,p3.set _ O',?_,?_⟩)
  ·rw[IU hd,Sr O']
  ·rw[IU (l:=o.set n (d/2^s+hi)) (d:=d/2^s+hi) (by rw[List.getElem?_set_self O']),Le O',p5,IU hd,pC O',<-p4]
theorem gT:∀n<256,(na 1 0++na 1 1++na 2 2++na 4 3++na 8 4++na 16 5++na 32 6++na 64 7++na 128 8)[n]?=some (u7 n):=by decide +kernel
theorem Aiz(N:c6 L)(x:Nat)(hx:x<4294967296):Ev L 63 [.int .u32 (x:Int)] (.int .i64 (u7 x:Int)):=by
 have kb:∀y<256,u7 y<=8:=λy h=>dT (k:=8) h
 refine Ev.x N.SW rfl rfl ?_;repeat' (first|apply AG<;>intro hc<;>try omega|apply AR;omega|apply Ae8|apply Afa|apply AeU;omega|apply AE)<;>conv=>whnf
 ·have Mc:=kb (x/65536/256) O'
  refine dQ (gT _ O') ?_;conv=>whnf
  repeat' (first|apply AR;omega|apply RM;omega)<;>conv=>whnf
  have h1:u7 (x/65536)+16=u7 x:=Z1 16 (x:=x) O';have h2:u7 (x/65536/256)+8=u7 (x/65536):=Z1 8 (x:=x/65536) O';refine BM ?_;rw[<-h1,<-h2];omega
 ·have Mc:=kb (x/65536) O'
  refine dQ (gT _ O') ?_;conv=>whnf
  repeat' (first|apply AR;omega|apply RM;omega)<;>conv=>whnf
  have h1:u7 (x/65536)+16=u7 x:=Z1 16 (x:=x) O';refine BM ?_;rw[<-h1];omega
 ·have Mc:=kb (x/256) O'
  refine dQ (gT _ O') ?_;conv=>whnf
  repeat' (first|apply AR;omega|apply RM;omega)<;>conv=>whnf
  have h2:u7 (x/256)+8=u7 x:=Z1 8 (x:=x) O';refine BM ?_;rw[<-h2];omega
 ·have Mc:=kb (x) O'
  refine dQ (gT _ O') ?_;conv=>whnf
  repeat' (first|apply AR;omega|apply RM;omega)<;>conv=>whnf
  refine BM ?_;omega
theorem yF(N:c6 L)(x:Nat)(hx:x<4294967296):Ev L 64 [.int .u32 (x:Int)] (.int .i64 ((32-u7 x:Nat):Int)):=by
 have h:=dT (k:=32) hx;refine Ev.x N.SV rfl rfl ?_;repeat' (first|apply BP;omega|apply AE|refine AD (Aiz N x hx) ?_)<;>conv=>whnf
 refine BM ?_;omega
end Go.Eng

namespace Go.Eng
open F
attribute [local irreducible] AA AF AW AC AX BD BG CM BS D7 BR A5 GE AB A8 AH pw
variable {L:Lib}
theorem LR(l:u_):AY (.sl false (l.map AJ)):=by
 simp only[AY,true_and];exact CS l
theorem uS{M:Mem}{v:AV}{ky t z off len s:Nat}{l:u_}(hv:v = .row ky t z off len)(h:e8 M ky=some (s,.rw 1 (l.map AJ))):VI M v=none:=by
 subst hv;unfold VI;split
 ·rename_i e
  simp only[AV.row.injEq]at e;obtain⟨rfl,_⟩:=e;rw[h];cases l with
  |nil=>rfl
  |cons a l=>cases l<;>rfl
 ·rfl
theorem HJ(N:b7 L)(l:u_)(q:Bool)(hD:A1 l)(hl:l.length<=1099511627776):Ev L 101 [.sl q (l.map AJ)] (.sl false ((dg (val l)).map AJ)):=by
 refine Ev.x N.JP rfl rfl ?_;repeat' (first|apply AP|apply AE)<;>conv=>whnf
 refine C0 (λn=>n) (λ(n:Nat)=>n<=l.length/\∀i,n<=i->i<l.length->l[i]?=some 0) (λn=>[(3,.int .i64 n)]) (λ_=>[]) l.length ⟨ka _,λi h1 h2=>O'⟩ ?_;intro n ⟨p1,p2⟩ ih;rcases n with _|n
 ·have hv:=HU hD p1 p2 (Or.inl rfl)
  rw[<-hv];clear ih;repeat' (first|apply AG<;>intro hc<;>try omega|apply AE)<;>conv=>whnf
  refine QM (k:=0) (λ_=>rfl) O' ?_;conv=>whnf
  refine RK (enc:=AJ) (λ_=>rfl) J' J' ?_;conv=>whnf
  (repeat' ((refine CR (λ_=>rfl) rfl ?_ ?_;(first|rfl|simp))<;>conv=>whnf))
  exact AU rfl (LR _)
 ·have e1:((n+1:Nat):Int)-1=n:=O'
  repeat' (first|apply AG<;>intro hc<;>try omega|apply BP;omega|refine RQ V' ?_ (λe he hb=>?_);omega|apply AE)<;>conv=>whnf
  ·rw[e1]
   exact BC [] (ih n O' ⟨O',λi h1 h2=>by
    by_cases h:i=n
    ·subst h
     rw[e1,ua]at he;rw[he];congr 1;omega
    ·exact p2 i O' h2⟩)
  ·rw[e1,ua]at he
   have hv:=HU hD p1 p2 (Or.inr ⟨e,he,O'⟩);rw[<-hv];clear ih;refine QM (k:=n+1) (λ_=>rfl) O' ?_;conv=>whnf
   refine RK (enc:=AJ) (λ_=>rfl) J' J' ?_;conv=>whnf
   (repeat' ((refine CR (λ_=>rfl) rfl ?_ ?_;(first|rfl|simp))<;>conv=>whnf))
   exact AU rfl (LR _)
theorem nA(N:b7 L)(a b:u_)(q1 q2:Bool)(hA:A1 a)(hB:A1 b)(la:a.length<=1099511627776)(lb:b.length<=1099511627776):Ev L 102 [.sl q1 (a.map AJ),.sl q2 (b.map AJ)] (.int .i64 (C4 (val a) (val b))):=by
 have t1:=λq=>HJ N a q hA la
 have t2:=λq=>HJ N b q hB lb
 have l1:=FA hA;have l2:=FA hB;have d1:=DX (val a);have d2:=DX (val b);refine Ev.x N.PH rfl rfl ?_;by_cases hlen:(dg (val a)).length=(dg (val b)).length
 ·have v1:=BN (val a)
  have v2:=BN (val b);generalize dg (val a)=X at*;generalize dg (val b)=Y at*;repeat' (first|apply AG<;>intro hc<;>try omega|apply BP;omega|apply AP|apply AE|refine AD (t1 _) ?_|refine AD (t2 _) ?_)<;>conv=>whnf
  refine C0 (λn=>n) (λ(n:Nat)=>n<=X.length/\X.drop n=Y.drop n) (λn=>[(5,.int .i64 ((n:Int)-1))]) (λ_=>[]) X.length ⟨ka _,by rw[sa (ka _),sa O']⟩ ?_;intro n ⟨p1,p2⟩ ih;rcases n with _|n
  ·repeat' (first|apply AG<;>intro hc<;>try omega|apply AE)<;>conv=>whnf
   rw[qb,qb]at p2;exact BM (VQ (by rw[<-v1,<-v2,p2]))
  ·have e1:((n+1:Nat):Int)-1=n:=O'
   rw[e1];obtain⟨x,hx⟩:=N' X n;obtain⟨y,hy⟩:=N' Y n;rcases Gb x y with h|h|h
   ·have:=jZ d1 d2 hlen hx hy p2 h
    repeat' (first|apply AG<;>intro hc<;>try omega|refine A3 V' ?_ rfl ?_;omega|apply AE)<;>conv=>whnf
    exact BM (J2 O')
   ·subst h
    repeat' (first|apply AG<;>intro hc<;>try omega|apply BP;omega|refine A3 V' ?_ rfl ?_;omega|apply AE)<;>conv=>whnf
    refine A9 [] E' (ih n O' ⟨O',?_⟩);obtain⟨i1,e1⟩:=zS hx;obtain⟨i2,e2⟩:=zS hy;rw[yb i1,yb i2,p2,e1,e2]
   ·have:=jZ d2 d1 hlen.symm hy hx p2.symm h
    repeat' (first|apply AG<;>intro hc<;>try omega|refine A3 V' ?_ rfl ?_;omega|apply AE)<;>conv=>whnf
    exact BM (OI O')
 ·rcases Gb (dg (val a)).length (dg (val b)).length with h1|h1|h1
  ·have:=ZH h1
   repeat' (first|apply AG<;>intro hc<;>try omega|apply AP|apply AE|refine AD (t1 _) ?_|refine AD (t2 _) ?_)<;>conv=>whnf
   exact BM (J2 O')
  ·exact absurd h1 hlen
  ·have:=ZH h1
   repeat' (first|apply AG<;>intro hc<;>try omega|apply AP|apply AE|refine AD (t1 _) ?_|refine AD (t2 _) ?_)<;>conv=>whnf
   exact BM (OI O')
theorem sY{y:u_}(i:Nat):val (y.take (i+1))=val (y.take i)+4294967296^i*y.getD i 0:=by
 rcases oc i y.length with h|h
 ·rw[EB (zE h),H7 (zE h)]
 ·rw[<-getD_none h,C8 h,C8 O'];omega
theorem zC(N:b7 L)(a b:u_)(q1 q2:Bool)(hA:A1 a)(hB:A1 b)(la:a.length<=549755813888)(lb:b.length<=549755813888):Ev L 103 [.sl q1 (a.map AJ),.sl q2 (b.map AJ)] (.sl false ((dg (val a+val b)).map AJ)):=by
 refine Ev.x N.PF rfl rfl ?_;(repeat' (apply AE<;>conv=>whnf))
 refine FP (λi _ _=>a.length+b.length-i) (λ(i:Nat)(o:u_)(c:Nat)=>(i<=a.length\/i<=b.length)/\o.length=i/\A1 o/\c<=1/\val o+4294967296^i*c=val (a.take i)+val (b.take i)) (λi o c=>[(7,.int .i64 i),(6,.int .u64 (c:Int)),(5,.row 5 0 1 0 o.length)]) (λi o c=>[(5,5,.rw 1 (o.map AJ))]) 0 [] 0 ⟨O',rfl,X4,O',by simp[val]⟩ ?_;intro i o c ⟨p1,p2,p3,p4,p5⟩ ih;by_cases hi:i<a.length\/i<b.length
 ·have g1:=sY (y:=a) i
  have g2:=sY (y:=b) i;have k1:=SG hA i;have k2:=SG hB i;have o4:∀t,t=c+a.getD i 0+b.getD i 0->val (o++[t%4294967296])+4294967296^(i+1)*(t/4294967296)=val (a.take (i+1))+val (b.take (i+1)):=λt ht=>by
   have h3:=QO (val o) (4294967296^i) t;rw[N6,p2,g1,g2,Na];rw[h3,ht,Oa,Oa];omega
  by_cases h1:i<a.length
  ·obtain⟨x,hx⟩:=N' a i h1
   have hxb:=hA.at hx;rw[H7 hx]at o4;by_cases h2:i<b.length
   ·obtain⟨y,hy⟩:=N' b i h2
    have Dw:=hB.at hy;rw[H7 hy]at o4;repeat' (first|apply AG<;>intro hc<;>try omega|apply HH;omega|apply B1;omega|apply GV|apply AP|refine A3 V' ?_ rfl ?_;omega|apply CI|apply AE)<;>conv=>whnf
    refine C1 (enc:=AJ) (((c+x+y)%4294967296:Nat)) rfl rfl rfl O' O' ?_;conv=>whnf
    repeat' (first|apply AR;omega|apply GD)<;>conv=>whnf
    refine A9 [(5,46)] E' (ih (i+1) (o++[(c+x+y)%4294967296]) ((c+x+y)/4294967296) O' ⟨O',by simp;omega,p3.append (II O'),O',?_⟩);exact o4 (c+x+y) O'
   ·rw[<-getD_none (show b.length<=i by omega)]at o4
    repeat' (first|apply AG<;>intro hc<;>try omega|apply HH;omega|apply B1;omega|apply GV|apply AP|refine A3 V' ?_ rfl ?_;omega|apply CI|apply AE)<;>conv=>whnf
    refine C1 (enc:=AJ) (((c+x)%4294967296:Nat)) rfl rfl rfl O' O' ?_;conv=>whnf
    repeat' (first|apply AR;omega|apply GD)<;>conv=>whnf
    refine A9 [(5,46)] E' (ih (i+1) (o++[(c+x)%4294967296]) ((c+x)/4294967296) O' ⟨O',by simp;omega,p3.append (II O'),O',?_⟩);exact o4 (c+x) O'
  ·obtain⟨y,hy⟩:=N' b i
   have Dw:=hB.at hy;rw[H7 hy,<-getD_none (show a.length<=i by omega)]at o4;repeat' (first|apply AG<;>intro hc<;>try omega|apply HH;omega|apply B1;omega|apply GV|apply AP|refine A3 V' ?_ rfl ?_;omega|apply CI|apply AE)<;>conv=>whnf
   refine C1 (enc:=AJ) (((c+y)%4294967296:Nat)) rfl rfl rfl O' O' ?_;conv=>whnf
   repeat' (first|apply AR;omega|apply GD)<;>conv=>whnf
   refine A9 [(5,46)] E' (ih (i+1) (o++[(c+y)%4294967296]) ((c+y)/4294967296) O' ⟨O',by simp;omega,p3.append (II O'),O',?_⟩);exact o4 (c+y) O'
 ·clear ih
  have hv:val (o++[c])=val a+val b:=by
   rw[C8 O',C8 O']at p5;rw[N6,p2,p5]
  have hT:=λq=>HJ N (o++[c]) q (p3.append (II O')) K'
  rw[hv]at hT;repeat' (first|apply AG<;>intro hc<;>try omega|apply EP;omega|apply AP|apply CI|apply AE)<;>conv=>whnf
  refine C1 (enc:=AJ) c rfl rfl rfl O' O' ?_;conv=>whnf
  repeat' (first|(refine CR (λ_=>rfl) rfl ?_ ?_;(first|rfl|simp))|refine AD (hT _) ?_)<;>conv=>whnf
  exact AU rfl (LR _)
theorem eG{a b:Nat}(h:b<=a):0<=C4 a b:=by unfold C4;split<;>(try split)<;>omega
theorem AmR{V Y X p d e bw have' take w dc:Nat}(h:V+Y=X+p*bw)(h1:take=bw+e)(h2:(have'=d/\dc=0/\take<=d)\/(have'=d+4294967296/\dc=1/\d<take))(h3:w+take=have'):V+p*w+(Y+p*e)=X+p*d+p*4294967296*dc:=by
 have h4:w+bw+e=d+4294967296*dc:=O'
 have h5:p*(w+bw+e)=p*(d+4294967296*dc):=by rw[h4]
 rw[Oa,Oa,Oa,<-Ga]at h5;omega
theorem Wy(N:b7 L)(x y:u_)(hX:A1 x)(hY:A1 y)(lx:x.length<=549755813888)(ly:y.length<=549755813888)(hle:val y<=val x) :
  AA L [It.lp K8.l1,It.c9 0,It.code (((BF.ops K8.Ao false).dr [1,5,6,7,21,53,54] []).seq BF.ret)]
  [(7,AV.int IntKind.i64 0),(6,AV.int IntKind.u64 0),(5,AV.row 101021 0 1 0 x.length),(1,AV.sl false (jf AJ y))]
  [(101021,101021,BA.rw 1 (jf AJ x))]
  (QK K8 (AV.sl false (jf AJ (dg (val x-val y))))):=by
 refine FP (λi _ _=>x.length-i) (λ(i:Nat)(o:u_)(bw:Nat)=>i<=x.length/\o.length=x.length/\A1 o/\bw<=1/\o.drop i=x.drop i/\val (o.take i)+val (y.take i)=val (x.take i)+4294967296^i*bw) (λi o bw=>[(7,.int .i64 i),(6,.int .u64 (bw:Int))]) (λi o bw=>[(101021,101021,.rw 1 (o.map AJ))]) 0 x 0 ⟨O',rfl,hX,O',rfl,by simp[val]⟩ ?_;intro i o bw ⟨p1,p2,p3,p4,p5,p6⟩ ih;by_cases hi:i<x.length
 ·obtain⟨d,hd⟩:=N' o i
  have az:=p3.at hd;have hxi:x[i]?=some d:=by
   have e1:(o.drop i)[0]?=(x.drop i)[0]? := by rw[p5]
   simpa [hd]using e1.symm
  have g1:=EB hxi;have g2:=sY (y:=y) i;have ge:=SG hY i;have o4:∀have' take w dc,take=bw+y.getD i 0->((have'=d/\dc=0/\take<=d)\/(have'=d+4294967296/\dc=1/\d<take))->w+take=have'->val ((o.set i w).take (i+1))+val (y.take (i+1))=val (x.take (i+1))+4294967296^(i+1)*dc:=λhave' take w dc a1 a2 a3=>by
   rw[HD O',g1,g2,Na];exact AmR p6 a1 a2 a3
  have dm:∀w,(o.set i w).drop (i+1)=x.drop (i+1):=λw=>by
   rw[Le O'];have e1:(o.drop i).drop 1=(x.drop i).drop 1:=by rw[p5]
   simpa using e1
  by_cases hy:i<y.length
  ·obtain⟨e,he⟩:=N' y i hy
   have Mo:=hY.at he;rw[H7 he]at o4;by_cases hlt:d<bw+e
   ·have h3:=o4 (d+4294967296) (bw+e) (d+4294967296-(bw+e)) 1 O' (Or.inr ⟨rfl,rfl,hlt⟩) O'
    repeat' (first|apply AG<;>intro hc<;>try omega|apply A2;omega|apply HH;omega|(apply KL;omega;omega)|apply dF;omega|apply B1;omega|apply EP;omega|apply AP|refine A3 V' ?_ rfl ?_;omega|refine LN V' ?_|apply AE)<;>conv=>whnf
    refine F4 O' ?_;conv=>whnf
    repeat' (first|apply AR;omega|fail)<;>conv=>whnf
    exact A9 [] E' (ih (i+1) (o.set i (d+4294967296-(bw+e))) 1 O' ⟨O',by simpa using p2,p3.set _ O',O',dm _,h3⟩)
   ·have h3:=o4 d (bw+e) (d-(bw+e)) 0 O' (Or.inl ⟨rfl,rfl,O'⟩) O'
    repeat' (first|apply AG<;>intro hc<;>try omega|apply A2;omega|apply HH;omega|(apply KL;omega;omega)|apply B1;omega|apply EP;omega|apply AP|refine A3 V' ?_ rfl ?_;omega|refine LN V' ?_|apply AE)<;>conv=>whnf
    refine F4 O' ?_;conv=>whnf
    repeat' (first|apply AR;omega|fail)<;>conv=>whnf
    exact A9 [] E' (ih (i+1) (o.set i (d-(bw+e))) 0 O' ⟨O',by simpa using p2,p3.set _ O',O',dm _,h3⟩)
  ·rw[<-getD_none (show y.length<=i by omega)]at o4
   by_cases hlt:d<bw
   ·have h3:=o4 (d+4294967296) (bw) (d+4294967296-(bw)) 1 O' (Or.inr ⟨rfl,rfl,hlt⟩) O'
    repeat' (first|apply AG<;>intro hc<;>try omega|apply A2;omega|(apply KL;omega;omega)|apply dF;omega|apply B1;omega|apply EP;omega|apply AP|refine LN V' ?_|apply AE)<;>conv=>whnf
    refine F4 O' ?_;conv=>whnf
    repeat' (first|apply AR;omega|fail)<;>conv=>whnf
    exact A9 [] E' (ih (i+1) (o.set i (d+4294967296-(bw))) 1 O' ⟨O',by simpa using p2,p3.set _ O',O',dm _,h3⟩)
   ·have h3:=o4 d (bw) (d-(bw)) 0 O' (Or.inl ⟨rfl,rfl,O'⟩) O'
    repeat' (first|apply AG<;>intro hc<;>try omega|apply A2;omega|(apply KL;omega;omega)|apply B1;omega|apply EP;omega|apply AP|refine LN V' ?_|apply AE)<;>conv=>whnf
    refine F4 O' ?_;conv=>whnf
    repeat' (first|apply AR;omega|fail)<;>conv=>whnf
    exact A9 [] E' (ih (i+1) (o.set i (d-(bw))) 0 O' ⟨O',by simpa using p2,p3.set _ O',O',dm _,h3⟩)
 ·obtain rfl:i=x.length:=O'
  clear ih;rw[C8 O',C8 (ka _)]at p6;have h1:=FM p3;rw[p2]at h1;have h2:val (y.take x.length)<=val y:=by have:=W7 y x.length;omega
  have jd:bw=0:=by
   rcases Mb bw with h|h
   ·exact h
   ·have:bw=1:=O'
    subst this;omega
  subst jd;have hve:val (y.take x.length)=val y:=by
   have h3:=W7 y x.length;rcases Mb (val (y.drop x.length))with h|h
   ·rw[h]at h3;omega
   ·have h4:4294967296^x.length*1<=4294967296^x.length*val (y.drop x.length):=ga _ h
    have h5:=FM hX;omega
  have hv:val o=val x-val y:=O'
  have hT:=λq=>HJ N o q p3 O'
  rw[<-hv,<-p2];repeat' (first|apply AG<;>intro hc<;>try omega|(refine CR (λ_=>rfl) rfl ?_ ?_;(first|rfl|simp))|apply AE|refine AD (hT _) ?_)<;>conv=>whnf
  exact AU rfl (LR _)
theorem nB(N:b7 L)(a b:u_)(q1 q2:Bool)(hA:A1 a)(hB:A1 b)(la:a.length<=549755813888)(lb:b.length<=549755813888):Ev L 104 [.sl q1 (a.map AJ),.sl q2 (b.map AJ)] (.sl false ((dg (val a-val b)).map AJ)):=by
 have hcmp:=λq q'=>nA N a b q q' hA hB O' O'
 have t2:=λq=>HJ N b q hB O'
 refine Ev.x N.K8 rfl rfl ?_;by_cases hlt:val a<val b
 ·rw[<-J2 O']at hcmp
  rw[show val a-val b=0 by omega,FJ];repeat' (first|apply AG<;>intro hc<;>try omega|apply AE|refine AD (hcmp _ _) ?_)<;>conv=>whnf
  exact AU rfl (LR [])
 ·have ic:=eG (show val b<=val a by omega)
  generalize C4 (val a) (val b)=cm at*;have d2:=DX (val b);have v2:=BN (val b);have l2:=FA hB;rw[<-v2];rw[<-v2]at hlt;generalize dg (val b)=y at*;have hdg:∀n,a.take n=dg (val a)->val (a.take n)=val a:=λn h=>by rw[h,BN]
  repeat' (first|apply AG<;>intro hc<;>try omega|apply AE|refine AD (hcmp _ _) ?_|refine AD (t2 _) ?_)<;>conv=>whnf
  refine IX 1000 N.JP rfl rfl ?_;repeat' (first|apply AP|apply AE)<;>conv=>whnf
  refine C0 (λn=>n) (λ(n:Nat)=>n<=a.length/\∀i,n<=i->i<a.length->a[i]?=some 0) (λn=>[(3,.int .i64 n)]) (λ_=>[]) a.length ⟨ka _,λi h1 h2=>O'⟩ ?_;intro n ⟨p1,p2⟩ ih;rcases n with _|n
  ·have hv:=hdg _ (HU hA p1 p2 (Or.inl rfl))
   clear ih;repeat' (first|apply AG<;>intro hc<;>try omega|apply AE)<;>conv=>whnf
   refine QM (k:=0) (λ_=>rfl) O' ?_;conv=>whnf
   refine RK (enc:=AJ) (λ_=>rfl) J' J' ?_;conv=>whnf
   refine⟨rfl,_,rfl,?_⟩;conv=>whnf
   skip
   rw[<-hv];exact A9 [] E' (Wy N (a.take 0) y (hA.take _) d2 Z' O' O')
  ·have e1:((n+1:Nat):Int)-1=n:=O'
   repeat' (first|apply AG<;>intro hc<;>try omega|apply BP;omega|refine RQ V' ?_ (λe he hb=>?_);omega|apply AE)<;>conv=>whnf
   ·rw[e1]
    exact BC [] (ih n O' ⟨O',λi h1 h2=>by
     by_cases h:i=n
     ·subst h
      rw[e1,ua]at he;rw[he];congr 1;omega
     ·exact p2 i O' h2⟩)
   ·rw[e1,ua]at he
    have hv:=hdg _ (HU hA p1 p2 (Or.inr ⟨_,he,O'⟩));clear ih;refine QM (k:=n+1) (λ_=>rfl) O' ?_;conv=>whnf
    refine RK (enc:=AJ) (λ_=>rfl) J' J' ?_;conv=>whnf
    refine⟨rfl,_,rfl,?_⟩;conv=>whnf
    skip
    rw[<-hv];exact A9 [] E' (Wy N (a.take (n+1)) y (hA.take _) d2 J' O' O')
theorem Ajf(N:b7 L)(x y:u_)(q1 q2:Bool)(hA:A1 x)(hB:A1 y)(lab:x.length+y.length<=549755813888):Ev L 105 [.sl q1 (x.map AJ),.sl q2 (y.map AJ)] (.sl false ((dg (val x*val y)).map AJ)):=by
 refine Ev.x N.NB rfl rfl ?_;repeat' (first|apply AR;omega|apply AP|apply AE)<;>conv=>whnf
 refine E6 (enc:=AJ) 0 (x.length+y.length+1) rfl O' O' ?_;conv=>whnf
 skip
 refine DT (λi _=>x.length-i) (λ(i:Nat)(o:u_)=>i<=x.length/\o.length=x.length+y.length+1/\A1 o/\val o=val (x.take i)*val y/\∀k,i+y.length<=k->k<o.length->o[k]?=some 0) (λi o=>[(6,.int .i64 i)]) (λi o=>[(15,15,.rw 1 (o.map AJ))]) 0 (na (x.length+y.length+1) 0) ⟨O',Z',KS _,by simp[val,kF],λk h1 h2=>by simp at h2;simp[h2]⟩ ?_;intro i O ⟨p1,p2,p3,p4,p5⟩ ih;by_cases hi:i<x.length
 ·obtain⟨d,hd⟩:=N' x i hi
  have az:=hA.at hd;repeat' (first|apply AG<;>intro hc<;>try omega|apply AP|apply AE)<;>conv=>whnf
  refine FP (λj _ _=>y.length-j) (λ(j:Nat)(o:u_)(c:Nat)=>j<=y.length/\o.length=x.length+y.length+1/\A1 o/\c<4294967296/\val o+4294967296^(i+j)*c=val O+4294967296^i*(d*val (y.take j))/\∀k,i+j<=k->o[k]?=O[k]?) (λj o c=>[(7,.int .u64 (c:Int)),(8,.int .i64 j)]) (λj o c=>[(15,15,.rw 1 (o.map AJ))]) 0 O 0 ⟨O',p2,p3,O',by simp[val],λ_ _=>rfl⟩ ?_;intro j o c ⟨r1,r2,r3,r4,r5,r6⟩ jh;have e1:((i:Int)+j).toNat=i+j:=O'
  by_cases hj:j<y.length
  ·obtain⟨w,hw⟩:=N' y j hj
   have sw:=hB.at hw;have hm:=YR az sw;repeat' (first|apply AG<;>intro hc<;>try omega|apply A2;omega|apply AR;omega|apply HH;omega|apply QG;omega|apply B1;omega|apply GV|apply AP|refine A3 V' ?_ rfl ?_;omega|refine tX V' ?_ (λv hv hb=>?_);omega|apply AE)<;>conv=>whnf
   refine dP (i+j) O' O' ?_;conv=>whnf
   repeat' (first|apply AR;omega|apply GD)<;>conv=>whnf
   refine A9 [] E' (jh (j+1) _ _ O' ⟨O',by simpa using r2,r3.set _ O',O',?_,?_⟩)
   ·have h1:=kC (v:=(c+(d*w+v))%4294967296) hv
    have h2:=QO 0 (4294967296^(i+j)) (c+(d*w+v));rw[EB hw,show i+(j+1)=i+j+1 by omega,Na (4294967296) (i+j)];have h3:4294967296^i*(d*(val (y.take j)+4294967296^j*w))=4294967296^i*(d*val (y.take j))+4294967296^(i+j)*(d*w):=by rw[Ba];grind
    rw[h3];generalize 4294967296^(i+j)=P at*;rw[Oa P c,Oa P]at h2;omega
   ·intro k hk
    rw[Eb O'];exact r6 k O'
  ·obtain rfl:j=y.length:=O'
   clear jh;have hz:=r6 (i+y.length) O';rw[p5 (i+y.length) O' O']at hz;repeat' (first|apply AG<;>intro hc<;>try omega|apply A2;omega|apply AR;omega|apply EP;omega|apply AP|apply AE)<;>conv=>whnf
   refine dP (i+y.length) O' O' ?_;conv=>whnf
   repeat' (first|apply AR;omega|fail)<;>conv=>whnf
   refine A9 [] E' (ih (i+1) _ O' ⟨O',by simpa using r2,r3.set _ O',?_,?_⟩)
   ·have h1:=kC (v:=c) hz
    rw[Fa,Da]at h1;rw[h1,r5,p4,C8 (ka _),EB hd,yd,Ga]
   ·intro k h1 h2
    rw[nb]at h2;rw[Eb O',r6 k O'];exact p5 k O' O'
 ·obtain rfl:i=x.length:=O'
  clear ih;rw[C8 (ka _)]at p4;have hT:=λq=>HJ N O q p3 O'
  rw[p4]at hT;rw[<-p2];repeat' (first|apply AG<;>intro hc<;>try omega|apply AP|(refine CR (λ_=>rfl) rfl ?_ ?_;(first|rfl|simp))|apply AE|refine AD (hT _) ?_)<;>conv=>whnf
  exact AU rfl (LR _)
end Go.Eng
