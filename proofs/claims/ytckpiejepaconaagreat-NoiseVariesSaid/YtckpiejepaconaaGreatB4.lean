/-
  Unsigned arithmetic in the walk: values that are natural numbers.
-/
import Derived.Test.YtckpiejepaconaaGreatB3
import Derived.Test.YtckpiejepaconaaGreatB1
set_option linter.unusedSimpArgs false
set_option linter.unusedVariables false
set_option linter.unnecessarySimpa false
set_option maxHeartbeats 4000000
open BitVec renaming ofInt->Md,or_comm->xh
open Bool renaming and_eq_true->Pa
open Function renaming comp_def->ni
open Int renaming toNat_natCast->Qa,natAbs_mul->Eb,eq_ofNat_of_zero_le->Rc,natCast_mul->xd,natAbs_add_le->Ae,mul_le_mul_of_nonneg_left->lf,natCast_add->ff,mul_nonneg->Mf,mul_assoc->Af,mul_add->Og,natAbs_natCast->Eg,natAbs_neg->ah,mul_le_mul->Qh,mul_zero->Dh,mul_comm->Ch,add_zero->zi,neg_mul->vi
open List renaming getD_eq_getElem?_getD->za,replicate->ya,getElem?_set->xa,getElem?_eq_none->va,getElem?_of_mem->ua,drop_of_length_le->qa,getElem?_map->ga,length_take->ea,getElem?_range->La,drop_zero->Ja,length_set->Ia,length_cons->Ha,mem_cons_of_mem->Ga,getElem?_append_right->Ea,map_cons->Da,getElem?_append_left->ub,ext_getElem?->qb,take_append_drop->ob,getElem?_zipWith->nb,range->Rb,append_assoc->Qb,all_cons->Lb,zipWith_cons_cons->Db,mem_map->Ab,mem_cons_self->xc,length_append->wc,drop_eq_getElem_cons->tc,mem_cons->kc,getElem?_replicate->fc,length_map->Lc,length_replicate->Jc,take_add_one->Ic,map->Hc,drop_set_of_lt->Fc,nil_append->Ec,mem_singleton->yd,cons_append->od,mem_of_mem_take->dd,eq_nil_of_length_eq_zero->cd,replicate_succ->Kd,map_nil->Gd,getElem?_take->Ed,not_mem_nil->ze,getElem?_set_self->ue,mem_append->qe,append_nil->oe,length_singleton->de,mem_of_mem_drop->ae,drop_succ_cons->Re,zipWith->Ke,drop_append_of_le_length->zf,headD_cons->nf,cons.injEq->mf,tail_cons->bf,getElem?_zip_eq_some->Nf,length_eq_zero_iff->Cf,set_append_right->qg,mem_append_right->og,mem_append_left->kg,getElem?_set_ne->jg,take_succ_cons->eg,length_zipWith->Qg,getElem?_drop->Mg,flatMap_cons->Fg,length_drop->Cg,flatMap_nil->Ag,mapM_cons->eh,map_map->Oh,range'->Fh,take->ui,drop->qi
open Nat renaming le_refl->sa,mul_le_mul_left->Oa,pow_succ->Na,add_zero->yb,pow_le_pow_right->eb,mul_comm->Ob,lt_of_mul_lt_mul_left->Nb,lt_of_lt_of_le->Mb,mul_zero->Ib,mul_assoc->Hb,mul_add->Fb,pow_add->zc,one_le_two_pow->uc,two_pow_pos->oc,mul_le_mul->ec,zero_add->Pc,mod_lt->Oc,le_trans->Mc,min_eq_left->Kc,mod_eq_of_lt->Gc,gcd->Ac,lt_of_le_of_lt->ud,eq_of_beq_eq_true->pd,zero_le->Qd,eq_zero_or_pos->Cd,beq->Ad,div_eq_of_lt->xe,lt_or_ge->re,mod_add_div->ke,div_add_mod->ie,lt_trichotomy->Ee,add_comm->Ce,pow_pos->uf,add_mul->tf,mul_lt_mul_of_pos_right->ef,lt_of_mul_lt_mul_right->Qf,lt_irrefl->Ef,add_sub_cancel_left->zg,succ_mul->xg,le_of_lt->wg,gcd_comm->vg,div_div_eq_div_mul->ug,div_lt_iff_lt_mul->mg,pow_mul->ig,mul_pos->gg,add_mul_div_left->fg,gcd_zero_right->Jg,add_sub_cancel->Ig,lt_succ_of_lt->Dg,mul_add_mod->lh,mul_add_div->kh,div_le_self->fh,add_assoc->Ph,zero_mul->Mh,sub_self->Jh,mul_succ->Hh,one_mul->wi,blt->oi
open Option renaming some.inj->oa,some.injEq->Ka,map_some->Pb,toList_some->Hd,getD_some->Me,map_eq_some_iff->Gf
open Prod renaming mk.injEq->Kf
open Rat renaming div_def->Ma,add_zero->zb,zero_mul->Jb,mul_eq_zero->pc,mul_one->nc,div_mul_cancel->Qc,intCast_mul->Cc,mul_assoc->kd,intCast_natCast->Jd,pow_succ->te,natCast_mul->me,sub_eq_add_neg->Qe,mul_inv_cancel->Oe,zero_add->Ie,pow_zero->Ge,mul_zero->Fe,one_mul->yf,neg_mul->xf,mkRat_mul_right->Ng,divInt_ofNat->vh,num_intCast->uh,intCast_inj->qh,intCast_add->oh,den_intCast->mh,mul_nonneg->dh,mkRat_self->ch,mul_comm->Nh
namespace Go.c6
section
variable {K:AV->Prop} {a b:Nat} {k':IntKind}
theorem wrap_u32 (n:Nat):IntKind.u32.wrap (n:Int)=((n%4294967296:Nat):Int):=by rw[IntKind.wrap_u32];omega
theorem AnM (n:Nat):IntKind.u64.wrap (n:Int)=((n%18446744073709551616:Nat):Int):=by
 simp [IntKind.wrap,IntKind.bits,IntKind.signed]
theorem G5 (h:a+b<=18446744073709551615) (hk:K (.int .u64 ((a+b:Nat):Int))):AC .add .u64 (a:Int) .u64 (b:Int) K :=
 ⟨_,by simp only[DP,if_true];rw[IntWalk.u64_in _ O'],by simpa using hk⟩
theorem J8 (h:b<=a) (h2:a<=18446744073709551615) (hk:K (.int .u64 ((a-b:Nat):Int))):AC .sub .u64 (a:Int) .u64 (b:Int) K :=
 ⟨_,by simp only[DP,if_true];rw[IntWalk.u64_in _ O'],by rw[show (a:Int)-b=((a-b:Nat):Int) by omega];exact hk⟩
theorem cY (h:b<=18446744073709551616) (hk:K (.int .u64 ((E9 a b:Nat):Int))):AC .sub .u64 (a:Int) .u64 (b:Int) K :=
 cT (v := .int .u64 (IntKind.u64.wrap ((a:Int)-b))) (by simp only[DP,if_true]) (by
  have e:IntKind.u64.wrap ((a:Int)-b)=((E9 a b:Nat):Int):=by
   rw[XP];simp only[IntKind.wrap,IntKind.bits,IntKind.signed];simp;omega
  rw[e];exact hk)
theorem QC (h:a*b<=18446744073709551615) (hk:K (.int .u64 ((a*b:Nat):Int))):AC .mul .u64 (a:Int) .u64 (b:Int) K :=
 ⟨_,by simp only[DP,if_true];rw[<-xd,IntWalk.u64_in _ O'],hk⟩
theorem cW (h:0<b) (h2:a<=18446744073709551615) (hk:K (.int .u64 ((a/b:Nat):Int))):AC .quo .u64 (a:Int) .u64 (b:Int) K:=by
 refine ⟨_,by simp only[DP];rw[if_pos ⟨trivial,O'⟩],?_⟩;rw[IntWalk.u64_quo _ _ ⟨O',O',O'⟩,<-Int.natCast_ediv];exact hk
theorem ZP (h:0<b) (hk:K (.int .u64 ((a%b:Nat):Int))):AC .rem .u64 (a:Int) .u64 (b:Int) K:=by
 refine ⟨_,by simp only[DP];rw[if_pos ⟨trivial,O'⟩],?_⟩;rw[IntWalk.rem_in _ _ O',<-Int.natCast_emod];exact hk
theorem AmA {k:IntKind} {n:Nat} (hn:n<=k.bits):DP .shl k (a:Int) k' (n:Int)=some (.int k (k.wrap ((a*2^n:Nat):Int))):=by
 simp only[DP];rw[if_neg O',Qa,Kc hn];simp
theorem AmD {k:IntKind} {n:Nat} (hn:n<=k.bits):DP .shr k (a:Int) k' (n:Int)=some (.int k ((a/2^n:Nat):Int)):=by
 simp only[DP];rw[if_neg O',Qa,Kc hn,Int.fdiv_eq_ediv_of_nonneg _ (Int.le_of_lt (Int.pow_pos O'))];simp
theorem kA {k:IntKind} {n:Nat} (hn:n<=k.bits) (hk:K (.int k (k.wrap ((a*2^n:Nat):Int)))):AC .shl k (a:Int) k' (n:Int) K:=⟨_,AmA hn,hk⟩
theorem QE {k:IntKind} {n:Nat} (hn:n<=k.bits) (hk:K (.int k ((a/2^n:Nat):Int))):AC .shr k (a:Int) k' (n:Int) K:=⟨_,AmD hn,hk⟩
theorem N1 (h:a<=4294967295) (hk:K (.int .u64 ((a*4294967296:Nat):Int))):AC .shl .u64 (a:Int) k' 32 K:=by
 refine kA (n:=32) Y' ?_;rw[AnM,show a*2^32%18446744073709551616=a*4294967296 by omega];exact hk
theorem GH (hk:K (.int .u64 ((a/4294967296:Nat):Int))):AC .shr .u64 (a:Int) k' 32 K:=QE (n:=32) Y' hk
theorem cX (hk:K (.int .u64 ((a/9223372036854775808:Nat):Int))):AC .shr .u64 (a:Int) k' 63 K:=QE (n:=63) Y' hk
theorem Aed (hk:K (.int .u64 ((a/4:Nat):Int))):AC .shr .u64 (a:Int) k' 2 K:=QE (n:=2) Y' hk
theorem Aec (hk:K (.int .u32 ((a/65536:Nat):Int))):AC .shr .u32 (a:Int) k' 16 K:=QE (n:=16) Y' hk
theorem Aee (hk:K (.int .u32 ((a/256:Nat):Int))):AC .shr .u32 (a:Int) k' 8 K:=QE (n:=8) Y' hk
theorem Aeb (hk:K (.int .u32 ((a/2:Nat):Int))):AC .shr .u32 (a:Int) k' 1 K:=QE (n:=1) Y' hk
theorem pI (w n:Nat):(Md w (n:Int)).toNat=n%2^w:=by rw[BitVec.toNat_ofInt];omega
theorem Aln {n x y:Nat} (hx:x%2^n=0) (hy:y<2^n):x ||| y=x+y:=by
 have e:x=2^n*(x/2^n):=by have:=ke x (2^n);omega
 rw[e,<-Nat.two_pow_add_eq_or_of_lt hy]
theorem jZ {k:IntKind} (n:Nat) (hx:a%2^n=0) (hy:b<2^n) (h:a+b<2^k.bits) (hw:k.wrap ((a+b:Nat):Int)=((a+b:Nat):Int)) (hk:K (.int k ((a+b:Nat):Int))):AC .or k (a:Int) k (b:Int) K:=by
 refine cT (v := .int k (k.wrap (Md k.bits (a:Int) ||| Md k.bits (b:Int)).toNat)) (by simp only[DP,if_true]) ?_;rw[BitVec.toNat_or,pI,pI,Gc O',Gc O',Aln hx hy,hw];exact hk
theorem QD (h:a%4294967296=0/\b<4294967296/\a+b<=18446744073709551615) (hk:K (.int .u64 ((a+b:Nat):Int))):AC .or .u64 (a:Int) .u64 (b:Int) K :=
 jZ 32 h.1 h.2.1 (show a+b<18446744073709551616 by omega) (IntWalk.u64_in _ O') hk
theorem sH (h:a<=18446744073709551615) (hk:K (.int .u64 ((a%4294967296:Nat):Int))):AC .and .u64 (a:Int) .u64 4294967295 K:=by
 refine cT (v := .int .u64 (IntKind.u64.wrap (Md IntKind.u64.bits (a:Int) &&& Md IntKind.u64.bits 4294967295).toNat)) (by simp only[DP,if_true]) ?_;rw[BitVec.toNat_and,pI,show (Md IntKind.u64.bits 4294967295).toNat=2^32-1 by decide,Nat.and_two_pow_sub_one_eq_mod,show a%2^IntKind.u64.bits=a from Gc (show a<18446744073709551616 by omega),IntWalk.u64_in _ O'];exact hk
theorem sG (hk:K (.int .u32 (((a+b)%4294967296:Nat):Int))):AC .add .u32 (a:Int) .u32 (b:Int) K :=
 cT (v := .int .u32 (IntKind.u32.wrap ((a:Int)+b))) (by simp only[DP,if_true]) (by rw[<-ff,wrap_u32];exact hk)
end
section
variable {K:Int->Prop} {n:Nat}
theorem rY (h:n<=18446744073709551615) (hk:K (n:Int)):A5 .u64 (n:Int) K:=ZL (IntWalk.u64_in _ O') hk
theorem E0 (h:n<=4294967295) (hk:K (n:Int)):A5 .u32 (n:Int) K:=ZL (IntWalk.u32_in _ O') hk
theorem GV (hk:K ((n%4294967296:Nat):Int)):A5 .u32 (n:Int) K:=⟨by rw[wrap_u32];exact hk⟩
theorem Ad2 (h:n<=255) (hk:K (n:Int)):A5 .u8 (n:Int) K:=ZL (IntWalk.u8_in _ O') hk
end
theorem dF {tb:N'} {n v:Nat} {K:Nat->Prop} (hv:tb[n]? = some v) (hk:K v):V0 tb (n:Int) K:=⟨O',v,by rw[Qa];exact hv,hk⟩
abbrev AM (n:Nat):u_:=[.int .u32 (n:Int)]
theorem CP (l:N'):EZ (l.map AM):=QK (λ_=>by simp [B7,A3]) l
section
variable {l:N'} {K:u_->Prop}
theorem dB {n:Nat} (hD:A7 l) (hn:n<l.length) (h : ∀ e,l[n]? = some e->e<4294967296->K (AM e)):AW (l.map AM) (n:Int) 1 K :=
 LP hn (λ_=>rfl) λ e he=>h e he (hD.at he)
theorem RY {a:Int} (hD:A7 l) (hn:0<=a/\a<l.length) (h : ∀ e,l[a.toNat]? = some e->e<4294967296->K (AM e)):AW (l.map AM) a 1 K :=
 kC hn (λ_=>rfl) λ e he=>h e he (hD.at he)
theorem sF {i:Nat} (hD:A7 l) (hi:i<l.length) (h : ∀ e,l[i]? = some e->e<4294967296->K (AM e)):BA (l.map AM) (0+((i:Int)).toNat) 0 1 K :=
 GR (f:=AM) hi (λ_=>rfl) λ e he=>h e he (hD.at he)
theorem VZ {i:Int} (hD:A7 l) (hi:0<=i/\i<l.length) (h : ∀ e,l[i.toNat]? = some e->e<4294967296->K (AM e)):BA (l.map AM) (0+i.toNat) 0 1 K :=
 LO (f:=AM) hi (λ_=>rfl) λ e he=>h e he (hD.at he)
theorem F9 {i v:Nat} {KK:o_->Prop} (hi:i<l.length) (h:KK ((l.set i v).map AM)):A8 (l.map AM) (0+((i:Int)).toNat) 0 [.int .u32 (v:Int)] KK:=E5 (enc:=AM) v rfl (λ_=>rfl) hi h
theorem dE {i v:Nat} {KK:o_->Prop} (n:Nat) (hn:i=n) (hi:n<l.length) (h:KK ((l.set n v).map AM)):A8 (l.map AM) i 0 [.int .u32 (v:Int)] KK:=LQ (enc:=AM) n v hn rfl (λ_=>rfl) hi h
end
end Go.c6
namespace Go.c6
variable {L:Lib}
theorem Ev.xE {f:Nat} {fn:AFn} {vs:u_} {P:AV->Prop} (hL:L f=some fn) (hp:Ad vs.length fn.ay=true) (hd:LT vs=true) (h:AA L [.code fn.body] (C5 0 vs) [] (λ tm M => ∃ r,RZ fn r tm M/\P r)) (hs:fn.ry=false:=by rfl) : ∃ r,Ev L f vs r/\P r:=by
 obtain ⟨n,c,j5,hr,σ,tm,M,hR,r,hq,hP⟩:=h (λ_ _=>(0,0)) ⟨C5 0 vs,AJ.emp⟩ ⟨λ j=>Or.inr (by rw[LG];exact Z9 hd j),⟨(λ_ _ _ e=>by cases e),(λ_ _ _ e=>by simp [a9,b9]at e),(λ_ _ _ e=>by simp [a9,b9]at e),(λ_ _ _ _ _ _ e=>by simp [a9,b9]at e),(λ_ _ _ e=>by simp [a9,b9]at e)⟩⟩;exact ⟨r,Ev.fwd hL (B1.1 hp) ⟨n,c,j5,hr,sO hR hq⟩ hs,hP⟩
def Y0:EI->Bool
 | .v5 .. | .box .. | .alloc .. | .a7 .. | .st .. | .mk .. | .app .. | .c7 .. | .m9 .. | .pe .. | .n7 .. | .pg .. | .cg .. => false
 | _=>true
def JM:BK->Bool
 | .skip=>true
 | .ops l _=>l.all λ a=>Y0 a.op
 | .dr c _ ss=>JM c&&ss.isEmpty
 | .scope c=>JM c
 | .seq a b=>JM a&&JM b
 | .cond _ a b=>JM a&&JM b
 | .block _ c=>JM c
 | .loop c=>JM c
 | .exit _=>true
 | .ret=>true
def QY:It->Bool
 | .code c=>JM c
 | .kx _ ss=>ss.isEmpty
 | .c9 _=>true
 | .lp c=>JM c
theorem Ahd {C:Cl} {b7:N'} {ρ:AU->AV} {own:AJ} {op:EI} {E:CI} (ho:Y0 op=true) (h:c8 C b7 ρ own op=some E) : ∃ v,E = .val v:=by
 cases op<;>first|(simp [Y0]at ho;done)|skip
 all_goals simp only[c8]at h
 all_goals
  first
   | (simp only[Ka]at h;exact ⟨_,h.symm⟩)
   | (simp only[Gf]at h;obtain ⟨_,_,rfl⟩:=h;exact ⟨_,rfl⟩)
   | skip
 all_goals (repeat' split at h)
 all_goals
  first
   | (cases h;done)
   | (simp only[Ka]at h;exact ⟨_,h.symm⟩)
   | (simp only[Gf]at h;obtain ⟨_,_,rfl⟩:=h;exact ⟨_,rfl⟩)
theorem AmY {C:Cl} {a:AI} (ho:Y0 a.op=true) {s s':St} (h:DB C a s=some s'):s'.own=s.own:=by
 unfold DB at h;split at h
 ·cases he:c8 C a.b7 s.ev s.own a.op with
  | none=>rw[he]at h;cases h
  | some E =>
   rw[he]at h;obtain ⟨v,rfl⟩:=Ahd ho he;simp only[Pb,Ka]at h;subst h;simp only[St.app];cases a.dst<;>rfl
 ·simp only[Ka]at h
  subst h;cases a.dst<;>rfl
 ·cases h
theorem Xt {C:Cl} : ∀ {l:List AI},(l.all λ a=>Y0 a.op)=true -> ∀ {s s':St},DJ C l s=some s'->s'.own=s.own
 | [],_,s,s',h=>by simp only[DJ,Ka]at h;rw[h]
 | a::l,ho,s,s',h=>by
  simp only[Lb,Pa]at ho;simp only[DJ]at h;cases h1:DB C a s with
  | none=>rw[h1]at h;cases h
  | some s1 =>
   rw[h1]at h;rw[Xt ho.2 h,AmY ho.1 h1]
theorem aM {id:Nat} : ∀ {k k':List It},k.all QY=true->EG id k=some k'->k'.all QY=true
 | [],_,_,h=>by simp [EG]at h
 | it::k,k',hk,h=>by
  simp only[Lb,Pa]at hk;cases it with
  | c9 i =>
   simp only[EG]at h;split at h
   ·cases h;exact hk.2
   ·exact aM hk.2 h
  | code c=>simp only[EG]at h;exact aM hk.2 h
  | kx a b=>simp only[EG]at h;exact aM hk.2 h
  | lp c=>simp only[EG]at h;exact aM hk.2 h
theorem J2 {C:Cl} : ∀ (n:Nat) {k:List It},k.all QY=true -> ∀ {s s':St},run C n k s=some s'->s'.own=s.own
 | 0,k,_,s,s',h=>by simp [run]at h
 | n+1,[],_,s,s',h=>by
  simp only[run,Ka]at h;rw[h]
 | n+1,it::k,hk,s,s',h=>by
  have je:=hk;simp only[Lb,Pa]at hk;obtain ⟨hi,hk⟩:=hk;cases it with
  | c9 _=>simp only[run]at h;exact J2 n hk h
  | kx ts ss =>
   have:ss=[]:=by simpa [QY] using hi
   subst this;simp only[run]at h;rw[J2 n hk h];rfl
  | lp c=>simp only[run]at h;exact J2 n (by simp only[Lb,Pa];exact ⟨hi,hi,hk⟩) h
  | code c =>
   cases c with
   | skip=>simp only[run]at h;exact J2 n hk h
   | ops l d =>
    simp only[run]at h;cases h1:DJ C l s with
    | none=>rw[h1]at h;cases h
    | some s1 =>
     rw[h1]at h;rw[J2 n hk h,Xt (show (l.all λ a=>Y0 a.op)=true from hi) h1]
   | dr c ts ss =>
    simp only[run]at h;simp only[QY,JM,Pa]at hi;exact J2 n (by simp only[Lb,Pa];exact ⟨hi.1,hi.2,hk⟩) h
   | scope c=>simp only[run]at h;exact J2 n (by simp only[Lb,Pa];exact ⟨hi,hk⟩) h
   | seq a b =>
    simp only[run]at h;simp only[QY,JM,Pa]at hi;exact J2 n (by simp only[Lb,Pa];exact ⟨hi.1,hi.2,hk⟩) h
   | cond x a b =>
    simp only[QY,JM,Pa]at hi;simp only[run]at h;split at h
    ·exact J2 n (by simp only[Lb,Pa];exact ⟨hi.1,hk⟩) h
    ·exact J2 n (by simp only[Lb,Pa];exact ⟨hi.2,hk⟩) h
    ·cases h
   | block id c=>simp only[run]at h;exact J2 n (by simp only[Lb,Pa];exact ⟨hi,rfl,hk⟩) h
   | loop c=>simp only[run]at h;exact J2 n (by simp only[Lb,Pa];exact ⟨hi,hi,hk⟩) h
   | exit id =>
    simp only[run]at h;split at h
    ·rename_i k' he
     exact J2 n (aM hk he) h
    ·cases h
   | ret =>
    simp only[run,Ka]at h;rw[h]
def Aen (fn:AFn) (r:AV) (tm:Tm) (_M:Mem):Prop := ∃ rs,U7 tm fn.res=some rs/\JD rs=r
def eA:AV->Bool
 | .c5 vs=>LT vs
 | v=>SD v
theorem vD {σ:GA} {v:AV} (h:eA v=true):BM σ v=v:=by
 cases v with
 | c5 vs =>
  simp only[BM];congr 1;simp only[eA]at h;induction vs with
  | nil=>rfl
  | cons v r ih =>
   simp only[LT]at h;cases hv:SD v<;>simp only[hv,cond_true,cond_false]at h
   ·cases h
   ·rw[Da,ih h]
    congr 1;cases v<;>first|rfl|(simp [SD,vt]at hv;done)|skip
    rename_i cs;exact dZ (σ:=σ) (v := .agg cs) hv
 | _=>exact dZ (σ:=σ) h
def ZS (L:Lib) (f:Nat) (vs:u_) (r:AV):Prop:=eA r=true/\(∀ σ:GA,vs.map (BM σ)=vs) /\ ∀ own:AJ,HL L f vs own r own
theorem vB {σ:GA} : ∀ {vs:u_},LT vs=true->vs.map (BM σ)=vs
 | [],_=>rfl
 | v::r,h=>by
  simp only[LT]at h;cases hv:SD v<;>simp only[hv,cond_true,cond_false]at h
  ·cases h
  ·rw[Da,dZ hv,vB h]
theorem Aeo {f:Nat} {fn:AFn} {vs:u_} {r:AV} (hL:L f=some fn) (hp:Ad vs.length fn.ay=true) (hd:LT vs=true) (Au:JM fn.body=true) (j9:bM 100000 fn.res=true) (hr:eA r=true) (h:AA L [.code fn.body] (C5 0 vs) [] (Aen fn r)):ZS L f vs r:=by
 refine ⟨hr,λ σ=>vB hd,λ own => ?_⟩;obtain ⟨n,c,j5,o8,σ,tm,M,hR,rs,Qj,he⟩:=h (λ_ _=>(0,0)) ⟨C5 0 vs,own⟩ ⟨λ j=>Or.inr (by rw[LG];exact Z9 hd j),⟨(λ_ _ _ e=>by cases e),(λ_ _ _ e=>by simp [a9,b9]at e),(λ_ _ _ e=>by simp [a9,b9]at e),(λ_ _ _ _ _ _ e=>by simp [a9,b9]at e),(λ_ _ _ e=>by simp [a9,b9]at e)⟩⟩;have ho:=J2 n (by simp [QY,Au]) o8;obtain ⟨i1,i2⟩:=pV (N:=100000) (s:=j5) hR (λ_ _=>rfl) j9 Qj;refine HL.intro hL (B1.1 hp) ⟨n,c,j5,o8,?_,ho⟩;rw[i1,Pb,Vq i2,he,vD hr]
theorem LK {f:Nat} {vs:u_} {r:AV} {tm:Tm} {M:Mem} {K:AV->Mem->Prop} (h:ZS L f vs r) (hk:K r M):BG L f vs tm M K:=by
 intro σ own hs;refine ⟨r,own,σ,M,?_,hs,λ_=>rfl,hk⟩;rw[h.2.1 σ,vD h.1];exact h.2.2 own
end Go.c6
namespace Go.c6
variable {L:Lib}
def sN (fn:AFn) (z:Nat) (es:o_) (tm:Tm) (M:Mem):Prop:=match fn.res with
 | [.tmp t]=>match tg tm t with
  | .row k 0 z' 0 n=>match b9 M k with
   | some (_,.rw il es')=>z'=z/\il=z/\n=es.length/\es'=es/\EZ es
   | _=>False
  | _=>False
 | _=>False
theorem LM.x {f:Nat} {fn:AFn} {vs:u_} {z:Nat} {es:o_} (hL:L f=some fn) (hp:Ad vs.length fn.ay=true) (hd:LT vs=true) (h:AA L [.code fn.body] (C5 0 vs) [] (sN fn z es)):LM L f vs z es:=by
 obtain ⟨n,c,j5,hr,σ,tm,M,hR,hq⟩:=h (λ_ _=>(0,0)) ⟨C5 0 vs,AJ.emp⟩ ⟨λ j=>Or.inr (by rw[LG];exact Z9 hd j),⟨(λ_ _ _ e=>by cases e),(λ_ _ _ e=>by simp [a9,b9]at e),(λ_ _ _ e=>by simp [a9,b9]at e),(λ_ _ _ _ _ _ e=>by simp [a9,b9]at e),(λ_ _ _ e=>by simp [a9,b9]at e)⟩⟩;unfold sN at hq;split at hq
 ·rename_i t xo
  split at hq
  ·rename_i k z' m Fp
   split at hq
   ·rename_i s il es' hM
    obtain ⟨rfl,rfl,rfl,rfl,l9⟩:=hq;have hv:e9 j5.tm t = .row (σ k 0).1 (σ k 0).2 il 0 es'.length:=by
     rcases hR.tm t with e|e
     ·rw[Fp]at e;cases e
     ·rw[e,Fp];rfl
    have hb:=hR.sat.c9 k 0 (.rw il es') (by simp only[a9,hM]);obtain ⟨q,hq⟩:=HL.intro (r := .row (σ k 0).1 (σ k 0).2 il 0 es'.length) (o':=j5.own) hL (B1.1 hp) ⟨n,c,j5,hr,by simp [xo,F7,hv,JZ,JD],rfl⟩;refine ⟨q,?_⟩;simp only[hq,N7,AJ.get,hb];rw[if_pos (show (BF.c9 σ k (.rw il es')).es.length=es'.length/\EZ (BF.c9 σ k (.rw il es')).es from ⟨rfl,l9⟩)];rfl
   ·exact hq.elim
  ·exact hq.elim
 ·exact hq.elim
theorem rR {Q:Tm->Mem->Prop} {c:BK} {k:List It} {tm:Tm} {M:Mem} (n:Nat) (h:fT (ym 0 tm) λ tm=>YT M λ M=>XK L Q n (.code c::k) tm M):AA L (.code c::k) tm M Q:=by
 rw[YL,gB]at h;exact rO (kE h)
theorem LL {α:Type} {enc:α->u_} {l:List α} {f z:Nat} {vs:u_} {K:Nat->o_->Nat->Prop} (n:Nat) (h:LM L f vs z (l.map enc)) (hn:n=l.length) (hk:K z (l.map enc) n):CX L f vs K:=⟨z,_,n,h,by simpa using hn,hk⟩
end Go.c6

namespace Go.c6
def Y3 (N:Nat):List KW->Bool
 | []=>true
 | .tmp t::r=>oi t N&&Y3 N r
 | .cell t _ _::r=>oi t N&&Y3 N r
theorem pX {N:Nat} {s s':St} (ho:s.own=s'.own) (px : ∀ j,j<N->e9 s'.tm j=e9 s.tm j) : ∀ {res:List KW},Y3 N res=true->res.mapM (F7 s)=res.mapM (F7 s')
 | [],_=>rfl
 | .tmp t::r,h=>by
  simp only[Y3,Pa]at h;have:=pX ho px h.2
  simp only[eh,F7,px t (V3.1 h.1),this]
 | .cell t agg n::r,h=>by
  simp only[Y3,Pa]at h;have:=pX ho px h.2
  simp only[eh,F7,px t (V3.1 h.1),this,ho]
def Aem (N:Nat) (fn:AFn) (tm:Tm) (K:AV->Mem->Prop) (ax:Tm) (M':Mem):Prop:=gh N ax=tm/\iJ ax M' fn.res (λ rs=>rsv rs λ v=>K v M')
theorem FV {L:Lib} {f:Nat} {fn:AFn} {vs:u_} {tm:Tm} {M:Mem} {K:AV->Mem->Prop} (N:Nat) (hL:L f=some fn) (hp:Ad vs.length fn.ay=true) (hN:(Nat.ble fn.ay N&&(JL N fn.body&&Y3 N fn.res))=true)
  (h:AA L [.code fn.body] (C5 0 vs++HI N tm) M (Aem N fn tm K)):BG L f vs tm M K:=by
 intro σ own hs;simp only[Pa]at hN;obtain ⟨n1,n2,n3⟩:=hN;have n1:=Nat.le_of_ble_eq_true n1;have hp:vs.length=fn.ay:=pd hp;have Jf:RX σ (C5 0 vs++HI N tm) M ⟨NG (BM σ) (C5 0 vs++HI N tm),own⟩:=⟨λ j=>Or.inr (by rw[LG];exact LH (MX σ) j _),hs⟩;obtain ⟨n,c,s',hr,σ',ax,M',hR,hg,xo⟩:=h σ _ Jf;have Om:Gh N (NG (BM σ) (HI N tm)) (C5 0 (vs.map (BM σ))) (NG (BM σ) (C5 0 vs++HI N tm)):=by
  constructor
  ·intro j hj
   rw[oD,LH (MX σ),LH (MX σ)];rcases cF j (HI N tm) (C5 0 vs) with ⟨_,e⟩|⟨hn,e⟩
   ·rw[e]
   ·rw[e,rG hj,rE j 0 vs hn]
  ·intro j hj
   rw[LH (MX σ),LH (MX σ)];rcases cF j (HI N tm) (C5 0 vs) with ⟨hn,e⟩|⟨_,e⟩
   ·have:=oC j 0 vs hn
    omega
   ·rw[e]
 obtain ⟨s,r1,r2,r3⟩:=J1 n (by simp [S4,n2]) Om hr;obtain ⟨rs,i1,i2,i3⟩:=pW hR xo;rw[<-pX (s:=s) r2.symm r3.lo n3,i3]at i1;have key : ∃ r,JD (rs.map (BT σ'))=BM σ' r/\K r M':=by
  match rs,i2,i3 with
  | [],h,_=>exact ⟨.c5 [],rfl,h⟩
  | [v],h,e =>
   simp only[Da,Gd,mf,and_true]at e;exact ⟨v,by simp only[Da,Gd,JD];exact e.symm,h⟩
  | a::b::l,h,_=>exact ⟨.c5 (a::b::l),rfl,h⟩
 obtain ⟨r,k1,k2⟩:=key;refine ⟨r,s.own,σ',M',HL.intro hL (by simpa using hp) ⟨n,c,s,r1,?_,rfl⟩,?_,?_,k2⟩
 ·rw[i1,Pb,k1]
 ·rw[<-r2];exact hR.sat
 ·intro j
  have e1:tg tm j=tg ax (N+j):=by rw[LG,LG,<-hg,rD]
  rcases hR.tm (N+j) with e|e
  ·rw[e1,e];rfl
  ·rw[e1,<-e,r3.hi (N+j) O',LH (MX σ),rF,<-LG,e1]
theorem Si (σ:GA) (k:Nat) : ∀ (n i:Nat),CB σ k i (ya n none)=ya n [.nil]
 | 0,_=>rfl
 | n+1,i=>by
  rw[Kd,Kd];show [AV.nil]::CB σ k (i+1) (ya n none)=_;rw[Si σ k n (i+1)]
theorem jS {L:Lib} {kk:List It} {tm:Tm} {M:Mem} {Q:Tm->Mem->Prop} (k s n:Nat) (e:b9 M k=some (s,.mx (ya n none))) (h:AA L kk tm ((k,s,.rw 1 (ya n [.nil]))::M) Q):AA L kk tm M Q:=by
 intro σ st hr;have hg : ∀ j t c,a9 ((k,s,.rw 1 (ya n [.nil]))::M) j t=some c -> ∃ c0,a9 M j t=some c0/\c0.c9 σ j=c.c9 σ j:=by
  intro j t c g;by_cases hj:j=k
  ·subst hj
   cases t with
   | zero =>
    have h1:b9 ((j,s,BF.rw 1 (ya n [.nil]))::M) j=some (s,.rw 1 (ya n [.nil])):=by simp [b9]
    simp only[a9,h1,Ka]at g;subst g;refine ⟨.mx (ya n none),by simp only[a9,e],?_⟩;simp only[BF.c9,Si]
   | succ i =>
    have h1:b9 ((j,s,BF.rw 1 (ya n [.nil]))::M) j=some (s,.rw 1 (ya n [.nil])):=by simp [b9]
    simp only[a9,h1]at g;cases g
  ·have h1:b9 ((k,s,BF.rw 1 (ya n [.nil]))::M) j=b9 M j:=by
    have hb:Ad j k=false:=by
     cases jq:Ad j k with
     | false=>rfl
     | true=>exact absurd (pd jq) hj
    simp only[b9,hb,cond_false]
   refine ⟨c,?_,rfl⟩;simp only[a9,h1]at g ⊢;exact g
 refine h σ st ⟨hr.tm,⟨?_,?_,?_,?_,?_⟩⟩
 ·intro j s' c g
  by_cases hj:j=k
  ·subst hj
   have h1:b9 ((j,s,BF.rw 1 (ya n [.nil]))::M) j=some (s,.rw 1 (ya n [.nil])):=by simp [b9]
   rw[h1]at g;simp only[Ka,Kf]at g;obtain ⟨rfl,_⟩:=g;exact hr.sat.site _ _ _ e
  ·have h1:b9 ((k,s,BF.rw 1 (ya n [.nil]))::M) j=b9 M j:=by
    have hb:Ad j k=false:=by
     cases jq:Ad j k with
     | false=>rfl
     | true=>exact absurd (pd jq) hj
    simp only[b9,hb,cond_false]
   rw[h1]at g;exact hr.sat.site _ _ _ g
 ·intro j t c g
  obtain ⟨c0,q1,q2⟩:=hg j t c g;rw[<-q2];exact hr.sat.c9 _ _ _ q1
 ·intro j t c g
  obtain ⟨c0,q1,_⟩:=hg j t c g;exact hr.sat.old _ _ _ q1
 ·intro j t j' t' c c' g g' hσ
  obtain ⟨c0,q1,_⟩:=hg j t c g;obtain ⟨c1,q2,_⟩:=hg j' t' c' g';exact hr.sat.inj _ _ _ _ _ _ q1 q2 hσ
 ·intro j t c g hw
  cases t with
  | zero =>
   by_cases hj:j=k
   ·subst hj;exact hr.sat.low _ _ _ (EW e) rfl
   ·rw[L7 hj]at g;exact hr.sat.low _ _ _ g hw
  | succ t =>
   obtain ⟨c0,q1,_⟩:=hg _ _ _ g;exact hr.sat.low _ _ _ q1 (gH q1)
end Go.c6

namespace Go.c6
theorem Zv {A w C:N'} {i n:Nat} (hi:i=A.length+n) (hn:n<w.length):(A++w++C)[i]? = w[n]? := by
 subst hi;rw[Qb,Ea O',zg,ub hn]
theorem AnF {A w C:N'} {i n v:Nat} (hi:i=A.length+n) (hn:n<w.length):(A++w++C).set i v=A++w.set n v++C:=by
 subst hi;rw[Qb,qg _ _ O',zg,List.set_append_left _ _ hn,Qb]
theorem N5 {A w C:N'} {i v:Nat} {KK:o_->Prop} (n:Nat) (hi:i=A.length+n) (hn:n<w.length) (h:KK ((A++w.set n v++C).map AM)):A8 ((A++w++C).map AM) i 0 [.int .u32 (v:Int)] KK:=by
 have hl:i<(A++w++C).length:=by simp;omega
 refine LQ (enc:=AM) i v rfl rfl (λ_=>rfl) hl ?_;rw[AnF hi hn];exact h
theorem AkT {W X Vi p q u d c b pr t:Nat} (h:W+q*Vi=X+p*(c+b)) (ve:pr=q*d+c) (ht:t=E9 (E9 u (pr%4294967296)) b) (hu:u<4294967296) (hb:b<=1) :
  W+p*(t%4294967296)+q*(Vi+p*d)=X+p*u+p*4294967296*(pr/4294967296+t/9223372036854775808):=by
 obtain ⟨h1,_⟩:=jE hu (show pr%4294967296<4294967296 by omega) hb;rw[<-ht]at h1;have h2:=ke pr 4294967296;generalize t%4294967296=w at *;generalize t/9223372036854775808=b' at *;generalize pr%4294967296=pl at *;generalize pr/4294967296=ph at *;have e1:p*(w+pl+b)=p*(u+4294967296*b'):=by rw[h1]
 have e2:p*(pl+4294967296*ph)=p*(q*d+c):=by rw[h2,ve]
 grind
theorem Sg {q d c pr:Nat} (hq:q<4294967296) (hd:d<4294967296) (hc:c<4294967296) (ve:pr=q*d+c):pr/4294967296<4294967296/\pr<=18446744073709551615/\q*d<=18446744065119617025:=by
 have:=YW hq hd
 omega
theorem AkR {W X V p q u c b t:Nat} (h:W+q*V=X+p*(c+b)) (ht:t=E9 (E9 u c) b) (hu:u<4294967296) (hc:c<4294967296) (hb:b<=1) :
  W+p*(t%4294967296)+q*V=X+p*u+p*4294967296*(t/9223372036854775808):=by
 obtain ⟨h1,_⟩:=jE hu hc hb;rw[<-ht]at h1;generalize t%4294967296=w at *;generalize t/9223372036854775808=b' at *;have e1:p*(w+c+b)=p*(u+4294967296*b'):=by rw[h1]
 grind
theorem AkU {W X Vi p q u d c b pr w take have' cz:Nat} (h:W+q*Vi=X+p*(c+b)) (ve:pr=c+q*d) (h1:take=pr%4294967296+b) (h2:(have'=u/\cz=0/\take<=u)\/(have'=u+4294967296/\cz=1/\u<take)) (h3:w+take=have') :
  W+p*w+q*(Vi+p*d)=X+p*u+p*4294967296*(pr/4294967296+cz):=by
 have h4:=ke pr 4294967296;have h5:w+pr%4294967296+b=u+4294967296*cz:=O'
 generalize pr%4294967296=pl at *;generalize pr/4294967296=ph at *;have e1:p*(w+pl+b)=p*(u+4294967296*cz):=by rw[h5]
 have e2:p*(pl+4294967296*ph)=p*(c+q*d):=by rw[h4,ve]
 grind
theorem AkS {W X V p q u c b w take have' cz:Nat} (h:W+q*V=X+p*(c+b)) (h1:take=c+b) (h2:(have'=u/\cz=0/\take<=u)\/(have'=u+4294967296/\cz=1/\u<take)) (h3:w+take=have') :
  W+p*w+q*V=X+p*u+p*4294967296*cz:=by
 have h5:w+c+b=u+4294967296*cz:=O'
 have e1:p*(w+c+b)=p*(u+4294967296*cz):=by rw[h5]
 grind
theorem sV {W X Vi p w d c t:Nat} (h:W+p*c=X+Vi) (ht:t=w+d+c):W+p*(t%4294967296)+p*4294967296*(t/4294967296)=X+p*w+(Vi+p*d):=by
 have h1:=QI W p t;have e:p*t=p*w+p*d+p*c:=by rw[ht];grind
 omega
theorem sU {W X V R p w c:Nat} (h:W+p*c=X+V) (hX:X+p*w+V=R+p*4294967296) (hR:R<p*4294967296) (hW:W<p):W+p*((w+c)%4294967296)=R:=by
 have h1:W+p*(w+c)=R+p*4294967296:=by
  rw[Fb];omega
 have h2:=ke (w+c) 4294967296;have h3:p*(w+c)=p*((w+c)%4294967296)+p*4294967296*((w+c)/4294967296):=by
  rw[Hb,<-Fb,h2]
 have h4:(w+c)%4294967296<4294967296:=Oc _ O';generalize (w+c)%4294967296=m at *;generalize (w+c)/4294967296=k at *;have h5:W+p*m<p*4294967296:=by
  have:p*m+p<=p*4294967296:=by rw[<-Hh];exact Oa p O'
  omega
 have h6:k=1:=by
  rcases Ee k 1 with hk|hk|hk
  ·have:k=0:=O'
   subst this;omega
  ·exact hk
  ·have:p*4294967296*2<=p*4294967296*k:=Oa _ O'
   omega
 subst h6;omega
theorem Anf {U V UL VL p u2 v2 v1 top:Nat} (hU:U=UL+p*(u2+4294967296*top)) (hV:V=VL+p*(v2+4294967296*v1)) (Dd:VL<p) (h2:v2<4294967296) (h:U<4294967296*V):top<4294967296*(v1+1):=by
 have h3:V<p*(4294967296*(v1+1)):=by
  have:p*(v2+4294967296*v1)+p<=p*(4294967296*(v1+1)):=by
   rw[<-Hh];exact Oa p O'
  omega
 have h4:p*(4294967296*top)<=U:=by
  have:p*(4294967296*top)<=p*(u2+4294967296*top):=Oa p O'
  omega
 have h5:p*(4294967296*top)<p*(4294967296*(4294967296*(v1+1))):=by
  have:p*(4294967296*(4294967296*(v1+1)))=4294967296*(p*(4294967296*(v1+1))):=A'
  omega
 have:=Nb h5
 omega
structure Gs (U V v1 v2 u2 top q r:Nat):Prop where
 hq:q*v1+r=top
 hr:r<4294967296
 ge:U/V<=q
theorem Gs.next {U V UL VL p v1 v2 u2 top q r:Nat} (g:Gs U V v1 v2 u2 top q r) (hU:U=UL+p*(u2+4294967296*top)) (hV:V=VL+p*(v2+4294967296*v1)) (Bm:UL<p) (ag:0<V) (Kh:U<4294967296*V)
  (h:4294967296<=q\/r*4294967296+u2<q*v2):1<=q/\(q-1)*v1+(r+v1)=top/\U/V<=q-1:=by
 have h1:U/V<q:=by
  rcases h with h|h
  ·exact Ajo Kh h ag
  ·exact Ajp hU hV Bm g.hq h ag
 have hq:=g.hq;clear h g hU hV Kh;generalize U/V=Q at *;obtain ⟨k,rfl⟩ : ∃ k,q=k+1:=⟨q-1,O'⟩;refine ⟨O',?_,O'⟩;rw[Ig,<-hq,tf];omega
theorem Gs.start {U V UL VL p v1 v2 u2 top:Nat} (hU:U=UL+p*(u2+4294967296*top)) (hV:V=VL+p*(v2+4294967296*v1)) (Bm:UL<p) (h2:u2<4294967296) (ag:0<V) (h1:0<v1) (h1b:v1<4294967296):Gs U V v1 v2 u2 top (top/v1) (top%v1):=by
 refine ⟨by rw[Ob];exact ie _ _,?_,?_⟩
 ·have:=Oc top h1
  omega
 ·rw[Nat.le_div_iff_mul_le h1]
  exact Ajq hU hV Bm h2 ag
theorem YN {U V UL VL p v1 v2 u2 top q r:Nat} (hU:U=UL+p*(u2+4294967296*top)) (hV:V=VL+p*(v2+4294967296*v1)) (Dd:VL<p) (Lf:2147483648<=v1) (Lg:v2<4294967296) (Kh:U<4294967296*V) (hq:q*v1+r=top)
  (h:(q<4294967296/\q*v2<=r*4294967296+u2)\/4294967296<=r):q<4294967296/\q<=U/V+1:=by
 rcases h with ⟨h1,h2⟩|h
 ·exact ⟨h1,zY hU hV Dd Lf hq h2 h1⟩
 ·have ht:=Anf hU hV Dd Lg Kh
  have qt:q<4294967296:=by
   have h3:q*v1<4294967296*v1:=O'
   exact Qf h3
  refine ⟨qt,zY hU hV Dd Lf hq ?_ qt⟩;have:=YW qt Lg
  omega
theorem XN (a:N') (k:Nat):val a=val (a.take k)+4294967296^k*val (a.drop k):=by
 rcases re a.length k with h|h
 ·rw[zT O',qa O',J7];omega
 ·exact LI a k h
theorem XM (a:N') (k:Nat):val (a.drop k)=a.getD k 0+4294967296*val (a.drop (k+1)):=by
 rcases re k a.length with h|h
 ·rw[II (zE h),za,zE h];rfl
 ·rw[qa h,qa O',za,va h];rfl
theorem SZ {a:N'} (h:A7 a) (k:Nat):a.getD k 0<4294967296:=by
 rw[za];cases e:a[k]? with
 | none=>simp
 | some d=>simpa using h.at e
theorem getD_some {a:N'} {k d:Nat} (h:a[k]? = some d):d=a.getD k 0:=by rw[za,h];rfl
theorem getD_none {a:N'} {k:Nat} (h:a.length<=k):0=a.getD k 0:=by rw[za,va h];rfl
theorem jO {a:N'} (hD:A7 a) {n:Nat} (hn:3<=n) (hl:a.length<=n) : ∃ r,r<4294967296^(n-3)/\val a=r+4294967296^(n-3)*(a.getD (n-3) 0+4294967296*(a.getD (n-2) 0+4294967296*a.getD (n-1) 0)):=by
 refine ⟨val (a.take (n-3)),?_,?_⟩
 ·refine Mb (FZ (hD.take _)) (eb O' ?_)
  rw[ea];omega
 ·have h1:=XN a (n-3)
  have h2:=XM a (n-3);have h3:=XM a (n-3+1);have h4:=XM a (n-3+1+1);rw[qa (show a.length<=n-3+1+1+1 by omega),J7]at h4;rw[show n-3+1=n-2 by omega]at *;rw[show n-2+1=n-1 by omega]at *;rw[h4,Ib,yb]at h3;rw[h3]at h2;rw[h2]at h1;exact h1
theorem Zn {a:N'} (hD:A7 a) {n:Nat} (hn:2<=n) (hl:a.length<=n) : ∃ r,r<4294967296^(n-2)/\val a=r+4294967296^(n-2)*(a.getD (n-2) 0+4294967296*a.getD (n-1) 0):=by
 refine ⟨val (a.take (n-2)),?_,?_⟩
 ·refine Mb (FZ (hD.take _)) (eb O' ?_)
  rw[ea];omega
 ·have h1:=XN a (n-2)
  have h2:=XM a (n-2);have h3:=XM a (n-2+1);rw[qa (show a.length<=n-2+1+1 by omega),J7]at h3;rw[show n-2+1=n-1 by omega]at *;rw[h3,Ib,yb]at h2;rw[h2]at h1;exact h1
theorem SE {a b:Nat} (h:a<=b):(dg a).length<=(dg b).length:=by
 rcases re (dg b).length (dg a).length with h1|h1
 ·have:=ZG h1;omega
 ·exact h1
theorem lS {p:Nat} (h:p<18446744073709551616):val [p%4294967296,p/4294967296]=p/\A7 [p%4294967296,p/4294967296]:=by
 refine ⟨by simp [val];omega,λ x hx => ?_⟩;simp at hx;omega
theorem HO {a:N'} {k d:Nat} (h:a[k]? = some d):a.getD k 0=d:=(getD_some h).symm
theorem oK {y:N'} {s yt:Nat} (hD:A7 y) (Az:y[y.length-1]? = some yt) (hl:1<=y.length) (hs:s<=31) (b3:2147483648<=yt*2^s) (b4:yt*2^s<4294967296):val y*2^s<4294967296^y.length/\4294967296^(y.length-1)*2147483648<=val y*2^s:=by
 have h1:=LI y (y.length-1) O';have h2:=II Az;rw[qa (show y.length<=y.length-1+1 by omega),J7,Ib,yb]at h2;rw[h2]at h1;have h3:=FZ (hD.take (y.length-1));rw[ea,Kc O']at h3;have e:4294967296^y.length=4294967296^(y.length-1)*4294967296:=by rw[<-Na,Nat.succ_eq_add_one,show y.length-1+1=y.length by omega]
 rw[e];generalize 4294967296^(y.length-1)=p at *;have hk:(yt+1)*2^s<=4294967296:=by
  have e2:4294967296=2^s*2^(32-s):=by rw[<-zc,show s+(32-s)=32 by omega]
  rw[e2,Ob]at b4;have:=Nb b4
  rw[e2,Ob];exact Oa _ this
 have h4:val y+1<=p*(yt+1):=by rw[Fb];omega
 have h5:=zR (2^s) h4;have h6:p*((yt+1)*2^s)<=p*4294967296:=Oa p hk;rw[<-Hb]at h6;have h7:p*2147483648<=p*(yt*2^s):=Oa p b3;have h8:p*(yt*2^s)<=val y*2^s:=by rw[<-Hb];exact zR _ O'
 have h9:=oc s;rw[tf]at h5;exact ⟨O',O'⟩
theorem Ym {v:N'} {k c d:Nat} (hD:A7 v) (hl:v.length=k+1) (h:4294967296^k*c<=val v) (hd:v[k]? = some d):c<=d:=by
 have h1:=LI v k O';have h2:=II hd;rw[qa (show v.length<=k+1 by omega),J7,Ib,yb]at h2;rw[h2]at h1;have h3:=FZ (hD.take k);rw[ea,Kc O']at h3;generalize 4294967296^k=p at *;have h4:p*c<p*(d+1):=by rw[Fb];omega
 have:=Nb h4
 omega
theorem wD (o:N') (j n:Nat) (h:j+n<=o.length) : ∃ A W C,A.length=j/\W.length=n/\o=A++W++C:=by
 refine ⟨o.take j,(o.drop j).take n,(o.drop j).drop n,by simp;omega,by simp;omega,?_⟩;rw[Qb,ob,ob]
theorem vF {A W C:N'} (h:A7 (A++W++C)):A7 A/\A7 W/\A7 C:=by
 refine ⟨λ x hx=>h x (by simp [hx]),λ x hx=>h x (by simp [hx]),λ x hx=>h x (by simp [hx])⟩
theorem wF {A W C:N'} {j l V:Nat} (hA:A.length=j) (hW:W.length=l+1) (hD:A7 (A++W++C)) (h:val ((A++W++C).drop (j+1))<V) (hV:V<4294967296^l) :
  val C=0/\val W<4294967296*V/\val ((A++W++C).take (j+1))+4294967296^(j+1)*val ((A++W++C).drop (j+1))=val A+4294967296^j*val W:=by
 have h1:=XN (A++W++C) (j+1);have h2:val (A++W++C)=val A+4294967296^j*(val W+4294967296^(l+1)*val C):=by
  rw[Qb,ZF,ZF,hA,hW]
 have h3:=XM (A++W++C) j;have h4:(A++W++C).drop j=W++C:=by
  rw[Qb,zf O',qa O'];rfl
 have h5:=SZ hD j;rw[h4,ZF,hW]at h3;rw[Na]at h3;have h6:val C=0:=by
  rcases Cd (val C) with h0|h0
  ·exact h0
  ·have:4294967296^l*4294967296*1<=4294967296^l*4294967296*val C:=Oa _ h0
   omega
 rw[h6,Ib,yb]at h3;refine ⟨h6,O',?_⟩;rw[<-h1,h2,h6,Ib,yb]
theorem mI {A W C:N'} {j:Nat} (hA:A.length=j) (hC:val C=0):val ((A++W++C).drop j)=val W/\val ((A++W++C).take j)=val A:=by
 rw[Qb,zf O',qa O',List.take_append_of_le_length O',zT O',Ec,ZF,hC];simp
theorem wE {U VA P Q q V W R:Nat} (h:U=VA+P*W+P*4294967296*(Q*V)) (h2:W=q*V+R):U=VA+P*((q+4294967296*Q)*V+R):=by
 rw[h,h2];grind
section
variable {a b:Nat} {K:AV->Prop}
theorem sI (n:Nat) (hx:a%2^n=0) (hy:b<2^n) (h:a+b<=18446744073709551615) (hk:K (.int .u64 ((a+b:Nat):Int))):AC .or .u64 (a:Int) .u64 (b:Int) K :=
 jZ n hx hy (show a+b<18446744073709551616 by omega) (IntWalk.u64_in _ O') hk
theorem cV (n:Nat) (hx:b%2^n=0) (hy:a<2^n) (h:a+b<=18446744073709551615) (hk:K (.int .u64 ((a+b:Nat):Int))):AC .or .u64 (a:Int) .u64 (b:Int) K:=by
 have e:DP .or .u64 (a:Int) .u64 (b:Int)=DP .or .u64 (b:Int) .u64 (a:Int):=by
  simp only[DP,if_true,xh]
 rw[Ce]at hk h;have hh:=sI (K:=K) n hx hy h hk;unfold AC at hh ⊢;rw[e];exact hh
end
theorem cU {a:Nat} {K:AV->Prop} (h:a<=18446744069414584319) (hk:K (.int .u64 ((a+4294967296:Nat):Int))):AC .add .u64 (a:Int) .u64 4294967296 K :=
 G5 (b:=4294967296) O' hk
theorem K2 {l:N'} {i e:Nat} {K:u_->Prop} (he:l[i]? = some e) (h:K (AM e)):BA (l.map AM) (0+((i:Int)).toNat) 0 1 K :=
 XZ (e:=e) (by rw[Pc,Qa];exact he) rfl h
theorem Aea {l:N'} {i:Int} {e:Nat} {K:u_->Prop} (he:l[i.toNat]? = some e) (h:K (AM e)):BA (l.map AM) (0+i.toNat) 0 1 K :=
 XZ (e:=e) (by rw[Pc];exact he) rfl h
theorem RW {A w C:N'} {i e:Nat} {K:u_->Prop} (n:Nat) (he:w[n]? = some e) (hi:i=A.length+n) (h:K (AM e)):BA ((A++w++C).map AM) i 0 1 K:=by
 have hn:=(zS he).1;exact XZ (e:=e) (by rw[Zv hi hn];exact he) rfl h
end Go.c6

namespace Go.c6
def YP (n s:Nat):Nat:=4294967296^(n-3)*(2^(32-s)*4)
theorem Akx (n s:Nat):0<YP n s:=gg (uf O') (gg (oc _) O')
theorem Um {a:N'} (hD:A7 a) {n s d1 d2 d3:Nat} (hn:3<=n) (hl:a.length<=n) (hs:s<=31) (h1:d1=a.getD (n-1) 0) (h2:d2=a.getD (n-2) 0) (h3:d3=a.getD (n-3) 0) :
  ((d1*4294967296+d2)*2^s+d3*2^s/4294967296)/4=val a/YP n s:=by
 obtain ⟨r,hr,hv⟩:=jO hD hn hl;rw[<-h1,<-h2,<-h3]at hv;unfold YP;rw[hv,<-ug,fg _ _ (uf O'),xe hr,Pc,<-ug];congr 1;have e:d3+4294967296*(d2+4294967296*d1)=d3+2^(32-s)*(2^s*(d1*4294967296+d2)):=by
  rw[<-Hb,<-zc,show 32-s+s=32 by omega];omega
 rw[e,fg _ _ (oc _)];have:=Yq (d:=d3) (s:=s) O'
 rw[XD]at this;rw[this,Ob (2^s)];omega
theorem Un {a:N'} (hD:A7 a) {n s d1 d2:Nat} (hn:3<=n) (hl:a.length<=n) (h1:d1=a.getD (n-1) 0) (h2:d2=a.getD (n-2) 0) (j9:val a*2^s<4294967296^n) :
  (d1*4294967296+d2)*2^s<=18446744073709551615:=by
 obtain ⟨r,hr,hv⟩:=jO hD hn hl;rw[<-h1,<-h2]at hv;generalize a.getD (n-3) 0=d3 at *;have e:4294967296^n=4294967296^(n-3)*(4294967296*18446744073709551616):=by
  rw[show n=n-3+3 by omega,zc,show n-3+3-3=n-3 by omega]
 rw[e,hv]at j9;generalize 4294967296^(n-3)=p at *;have h3:p*(4294967296*((d1*4294967296+d2)*2^s))<p*(4294967296*18446744073709551616):=by
  refine ud ?_ j9;rw[<-Hb,<-Hb];refine zR _ ?_;have h5:p*(4294967296*(d2+4294967296*d1))<=p*(d3+4294967296*(d2+4294967296*d1)):=Oa p O';rw[Hb,show d1*4294967296+d2=d2+4294967296*d1 by omega];omega
 have:=Nb (Nb h3)
 omega
theorem gI {k s:Nat} (hs:s<=64) (h:k*2^s<=18446744073709551615):k*2^s+2^s<=18446744073709551616:=by
 have e:18446744073709551616=2^(64-s)*2^s:=by rw[<-zc,show 64-s+s=64 by omega]
 have h1:k<2^(64-s):=by
  refine Qf (a:=2^s) ?_;rw[<-e];omega
 have h2:=zR (2^s) h1;rw[xg,<-e]at h2;exact h2
theorem Uo {a:N'} (hD:A7 a) {n s:Nat} (hn:3<=n) (hl:a.length<=n) (hs:s<=31) (j9:val a*2^s<4294967296^n):val a/YP n s<=4611686018427387904:=by
 rw[<-Um hD hn hl hs rfl rfl rfl];have h1:=Un hD hn hl rfl rfl j9;have b3:=SZ hD (n-3);have h2:=gI (show s<=64 by omega) h1;obtain ⟨_,h3,_,_⟩:=XF (s:=s) b3 O';rw[XD]at h3;generalize (a.getD (n-1) 0*4294967296+a.getD (n-2) 0)*2^s=T at *;generalize a.getD (n-3) 0*2^s=U at *;omega
theorem Sj {V K:Nat} (hK:0<K) : ∃ e:Int,(V:Int)=(K:Int)*((V/K:Nat):Int)+e/\0<=e/\e<=K:=by
 refine ⟨((V%K:Nat):Int),?_,O',?_⟩
 ·have:=ie V K
  have h2:((K*(V/K)+V%K:Nat):Int)=(V:Int):=by rw[this]
  rw[<-h2];simp
 ·have:=Oc V hK
  omega
def Z6 (t:Int):Nat:=(t%4294967296).toNat
theorem uM (t:Int):Z6 t<4294967296:=by unfold Z6;omega
theorem lD (t:Int):(Z6 t:Int)=t%4294967296:=by unfold Z6;omega
def RS (f g:Int):Prop:=(0<=f/\f<=2147483647 /\ -2147483647<=g/\g<=0)\/(-2147483647<=f/\f<=0/\0<=g/\g<=2147483647)
theorem Yo {f:Int} {d:Nat} (hd:d<4294967296):(0<=f->f<=2147483647->0<=f*d/\f*d<=9223372030412324865)/\(f<=0 -> -2147483647<=f->f*d<=0 /\ -9223372030412324865<=f*d):=by
 constructor
 ·intro h0 h1
  refine ⟨Mf h0 O',?_⟩;have:f*d<=2147483647*4294967295:=Qh h1 O' O' O'
  omega
 ·intro h0 h1
  have a1:0<=(-f)*d:=Mf O' O';have a2:(-f)*d<=2147483647*4294967295:=Qh O' O' O' O';rw[vi]at a1 a2;omega
theorem RS.rng {f g:Int} (h:RS f g) {d e:Nat} (hd:d<4294967296) (he:e<4294967296):(-9223372030412324865<=f*d/\f*d<=9223372030412324865)/\(-9223372030412324865<=g*e/\g*e<=9223372030412324865) /\ -9223372030412324865<=f*d+g*e/\f*d+g*e<=9223372030412324865:=by
 obtain ⟨a1,a2⟩:=Yo (f:=f) hd;obtain ⟨b1,b2⟩:=Yo (f:=g) he;rcases h with ⟨h1,h2,h3,h4⟩|⟨h1,h2,h3,h4⟩
 ·have:=a1 h1 h2;have:=b2 h4 h3;omega
 ·have:=a2 h2 h1;have:=b1 h3 h4;omega
theorem uN {V X Y p c f g d e t:Int} (h:V+p*c=f*X+g*Y) (ht:t=f*d+c+g*e):V+p*(t%4294967296)+p*4294967296*(t/4294967296)=f*(X+p*d)+g*(Y+p*e):=by
 have h1:=Int.emod_add_mul_ediv t 4294967296;have h2:p*(t%4294967296)+p*4294967296*(t/4294967296)=p*t:=by
  rw[Af,<-Og,h1]
 have h3:p*t=f*(p*d)+p*c+g*(p*e):=by rw[ht];grind
 have h4:f*(X+p*d)=f*X+f*(p*d):=by rw[Og]
 have h5:g*(Y+p*e)=g*Y+g*(p*e):=by rw[Og]
 omega
theorem Afv {V P:Nat} {c R:Int} (hV:V<P) (h:(V:Int)+P*c=R) (h0:0<=R) (h1:R<P):(V:Int)=R:=by
 have hc:c=0:=by
  rcases Int.lt_trichotomy c 0 with hc|hc|hc
  ·have:(P:Int)*c<=P*(-1):=lf O' O'
   omega
  ·exact hc
  ·have:(P:Int)*1<=P*c:=lf O' O'
   omega
 subst hc;omega
theorem aQ (x y:Nat):Ac y (x%y)=Ac x y:=by
 rw[vg x y,Nat.gcd_rec y x];exact vg _ _
def zv (neg:Bool) (m:N'):Int:=bif neg then -(val m:Int) else (val m:Int)
abbrev rZ (q neg:Bool) (m:N'):u_:=[.bool neg,.sl q (m.map AM)]
abbrev eZ (z:Int):u_:=rZ false (decide (z<0)) (dg z.natAbs)
theorem FU (neg:Bool) (m:N'):(zv neg m).natAbs=val m:=by cases neg<;>simp [zv]
theorem F2 (z:Int):zv (decide (z<0)) (dg z.natAbs)=z:=by
 unfold zv;rw[B2];by_cases h:z<0
 ·simp [h];omega
 ·simp [h];omega
def Sm (n:Nat) (m:N'):Prop:=A7 m/\m.length<=n
theorem Sm.dg {n V:Nat} (h:V<4294967296^n):Sm n (dg V):=⟨EF V,OH.2 h⟩
theorem Sm.le {n n':Nat} {m:N'} (h:Sm n m) (hn:n<=n'):Sm n' m:=⟨h.1,by have:=h.2;omega⟩
theorem Sm.val {n:Nat} {m:N'} (h:Sm n m):val m<4294967296^n:=Mb (FZ h.1) (eb O' h.2)
theorem Sm.zq {n:Nat} {m:N'} (h:Sm n m):Sm n (Go.c6.dg (Go.c6.val m)):=Sm.dg h.val
theorem FF {z:Int} {b:Bool} {n:Nat} (h1:n=z.natAbs) (h2:b=decide (z<0)):AV.agg [.bool b,.sl false ((dg n).map AM)] = .agg (eZ z):=by rw[h1,h2]
theorem D6 (z:Int):A3 (.agg (eZ z)):=by
 simp only[A3,B7,and_true,true_and];exact CP _
theorem NP {z:Int} (h:z<0):true=decide (z<0):=by simp [h]
theorem HH {z:Int} (h:0<=z):false=decide (z<0):=by simp;omega
theorem VE (n:Nat):Sm n []:=⟨X8,Qd _⟩
theorem qL {n d:Nat} (hn:1<=n) (hd:d<4294967296):Sm n [d]:=⟨IP hd,hn⟩
theorem Adq (b:Bool):zv b []=0:=by cases b<;>rfl
theorem Sm.low {n V:Nat} {m:N'} (h:Sm n m) (hV:V<=Go.c6.val m):Sm n (Go.c6.dg V):=Sm.dg (ud hV h.val)
theorem Sm.mul {n k:Nat} {a b:N'} (ha:Sm n a) (hb:Sm k b) {V:Nat} (hV:V=Go.c6.val a*Go.c6.val b):Sm (n+k) (Go.c6.dg V):=by
 refine Sm.dg ?_;rw[hV,zc];exact Nat.mul_lt_mul_of_le_of_lt (wg ha.val) hb.val (uf O')
theorem Sm.add {n:Nat} {a b:N'} (ha:Sm n a) (hb:Sm n b) {V:Nat} (hV:V<=Go.c6.val a+Go.c6.val b):Sm (n+1) (Go.c6.dg V):=by
 refine Sm.dg ?_;have h1:=ha.val;have h2:=hb.val;rw[Na];omega
theorem JR (V:Nat):(dg V).length=0↔V=0:=by rw[Cf,lT]
theorem FA (m:N'):zv false m=(val m:Int):=rfl
theorem QA (m:N'):zv true m = -(val m:Int):=rfl
def o3 (z:Int):Int:=if z<0 then -1 else if 0<z then 1 else 0
theorem qH {z:Int} (h:z<0) : -1=o3 z:=by unfold o3;rw[if_pos h]
theorem qI {z:Int} (h:0<z):1=o3 z:=by unfold o3;rw[if_neg O',if_pos h]
theorem iU {z:Int} (h:z=0):0=o3 z:=by unfold o3;rw[if_neg O',if_neg O']
theorem Add {n:Nat} (h:n<18446744073709551616):val [n%4294967296,n/4294967296]=n:=(by simp [val];omega)
abbrev rQ (q1 q2 n:Bool) (m d:N'):u_:=[.bool n,.sl q1 (m.map AM),.sl q2 (d.map AM)]
abbrev eQ (x:Rat):u_:=rQ false false (decide (x.num<0)) (dg x.num.natAbs) (dg x.den)
def qv (n:Bool) (m d:N'):Rat:=mkRat (zv n m) (val d)
theorem EL (x:Rat):qv (decide (x.num<0)) (dg x.num.natAbs) (dg x.den)=x:=by
 unfold qv;rw[F2,B2,ch]
theorem zQ {d:Nat} (z:Nat) (hd:d≠0):0<Ac d z:=Nat.gcd_pos_of_pos_left z O'
theorem oZ {z:Int} {d:Nat} (hd:d≠0):(mkRat z d).num.natAbs=z.natAbs/Ac d z.natAbs/\(mkRat z d).den=d/Ac d z.natAbs/\decide ((mkRat z d).num<0)=decide (z<0):=by
 have hg:=zQ z.natAbs hd;have h1:=Rat.num_mkRat z d;have h2:=Rat.den_mkRat z d;rw[if_neg hd]at h1 h2;rw[h1,h2];obtain ⟨k,hk⟩:=Nat.gcd_dvd_right d z.natAbs;generalize hG:Ac d z.natAbs=g at *;have hz:z=(g:Int)*(z.sign*k):=by
  rw[<-Af,Ch (g:Int),Af,<-xd,<-hk,Int.sign_mul_natAbs]
 have e1:z/(g:Int)=z.sign*k:=by
  rw[hz,Int.mul_ediv_cancel_left _ O',<-hz]
 refine ⟨?_,rfl,?_⟩
 ·rw[e1,Eb,hk,Nat.mul_div_cancel_left _ hg]
  by_cases h0:z=0
  ·subst h0
   have:k=0:=by
    have h5:g*k=0:=hk.symm;rcases Nat.mul_eq_zero.1 h5 with h|h
    ·omega
    ·exact h
   subst this;simp
  ·rw[Int.natAbs_sign_of_ne_zero h0,wi];simp
 ·congr 1
  rw[eq_iff_iff];rw[Int.ediv_lt_iff_lt_mul O',Int.zero_mul]
theorem DK (x:Rat):A3 (.agg (eQ x)):=by
 simp only[A3,B7,and_true,true_and];exact ⟨CP _,CP _⟩
theorem Z3 (b w:Bool) (m d:N'):A3 (.agg [.bool b,.sl false (m.map AM),.sl false (d.map AM),.bool w]):=by
 simp only[A3,B7,and_true,true_and];exact ⟨CP _,CP _⟩
theorem uA (b:Bool) (m:N'):A3 (.agg [.bool b,.sl false (m.map AM)]):=by
 simp only[A3,B7,and_true,true_and];exact CP _
theorem dP (b:Bool) (m d:N'):A3 (.agg [.bool b,.sl false (m.map AM),.sl false (d.map AM)]):=by
 simp only[A3,B7,and_true,true_and];exact ⟨CP _,CP _⟩
theorem aO (q:Bool) (l:N'):ZN (.sl q (l.map AM)):=by
 intro e he c hc;obtain ⟨x,_,rfl⟩:=Ab.1 he;simp at hc;subst hc;rfl
theorem jV {r:AV} {K:AV->Prop} (h:KY r) (hk:K (Bc r)):BU r K:=⟨Or.inl h,by rw[oP h];exact hk⟩
theorem Ad4 {r:AV} {K:AV->Prop} (h : ¬ KY r) (hd:VT r) (hk:K (L4 r)):BU r K:=⟨Or.inr hd,by rw[oO h];exact hk⟩
theorem HY {b w q1 q2:Bool} {m d:N'} {K:AV->Prop} (hk:K (.agg [.bool b,.sl true (m.map AM),.sl true (d.map AM),.bool w])):BU (.agg [.bool b,.sl q1 (m.map AM),.sl q2 (d.map AM),.bool w]) K:=by
 refine jV ?_ hk;intro c hc;simp only[kc,ze,or_false]at hc;rcases hc with rfl|rfl|rfl|rfl
 ·trivial
 ·exact aO _ _
 ·exact aO _ _
 ·trivial
theorem sC {b q1 q2:Bool} {m d:N'} {K:AV->Prop} (hk:K (.agg [.bool b,.sl true (m.map AM),.sl true (d.map AM)])):BU (.agg [.bool b,.sl q1 (m.map AM),.sl q2 (d.map AM)]) K:=by
 refine jV ?_ hk;intro c hc;simp only[kc,ze,or_false]at hc;rcases hc with rfl|rfl|rfl
 ·trivial
 ·exact aO _ _
 ·exact aO _ _
theorem VW {b q1:Bool} {m:N'} {K:AV->Prop} (hk:K (.agg [.bool b,.sl true (m.map AM)])):BU (.agg [.bool b,.sl q1 (m.map AM)]) K:=by
 refine jV ?_ hk;intro c hc;simp only[kc,ze,or_false]at hc;rcases hc with rfl|rfl
 ·trivial
 ·exact aO _ _
theorem oL : ∀ l:N',OR (l.map AM)=l.map AM
 | []=>by simp [OR]
 | x::l=>by rw[Da,OR,oL l];rfl
theorem VX {b b2 q1 q2:Bool} {m d:N'} {K:AV->Prop} (hk:K (.c5 [.agg [.bool b,.sl true (m.map AM)],.agg [.bool b2,.sl true (d.map AM)]])):BU (.c5 [.agg [.bool b,.sl q1 (m.map AM)],.agg [.bool b2,.sl q2 (d.map AM)]]) K:=by
 refine Ad4 (λ h=>h) (λ v hv => ?_) ?_
 ·simp only[kc,ze,or_false]at hv
  rcases hv with rfl|rfl<;>trivial
 ·have e:L4 (.c5 [.agg [.bool b,.sl q1 (m.map AM)],.agg [.bool b2,.sl q2 (d.map AM)]]) = .c5 [.agg [.bool b,.sl true (OR (m.map AM))],.agg [.bool b2,.sl true (OR (d.map AM))]]:=rfl
  rw[e,oL,oL];exact hk
theorem gF {a b:Int} {d e:Nat} (hd:d≠0) (he:e≠0):mkRat a d+mkRat b e=mkRat (a*e+b*d) (d*e):=Rat.mkRat_add_mkRat a b hd he
theorem Sb {a b:Int} {d:Nat} (hd:d≠0):mkRat a d+mkRat b d=mkRat (a+b) d:=by
 rw[gF hd hd,<-Int.add_mul,Ng hd]
theorem oX (a b:Int) (d e:Nat):mkRat a d*mkRat b e=mkRat (a*b) (d*e):=Rat.mkRat_mul_mkRat a b d e
theorem Sd (a:Int):mkRat a 1=(a:Rat):=by
 have h:=ch (a:Rat);rw[uh,mh]at h;exact h
theorem oY {z:Int} {d:Nat} (hd:d≠0):mkRat z d=0↔z=0:=Rat.mkRat_eq_zero hd
theorem pA {z:Int} {d:Nat} (hd:d≠0):o3 (mkRat z d).num=o3 z:=by
 obtain ⟨_,_,h⟩:=oZ (z:=z) hd;have h0:(mkRat z d).num=0↔z=0:=by rw[Rat.num_eq_zero,oY hd]
 have h1:(mkRat z d).num<0↔z<0:=by simpa using h
 unfold o3;by_cases a:z<0
 ·rw[if_pos a,if_pos (h1.2 a)]
 ·rw[if_neg a,if_neg (λ h=>a (h1.1 h))]
  by_cases b:z=0
  ·rw[if_neg O',if_neg (by have:=h0.2 b;omega)]
  ·rw[if_pos O',if_pos (by have:=mt h0.1 b;have:=mt h1.1 a;omega)]
theorem AkO {a b:Int} {d e:Nat} (hd:d≠0) (he:e≠0) (hb:b≠0):mkRat a d/mkRat b e=mkRat (b.sign*(a*e)) (d*b.natAbs):=by
 have hbn:b.natAbs≠0:=O'
 have h1:mkRat b e≠0:=λ h=>hb ((oY he).1 h)
 have key:mkRat (b.sign*(a*e)) (d*b.natAbs)*mkRat b e=mkRat a d:=by
  rw[oX];have e1:b.sign*(a*e)*b=a*((b.natAbs*e:Nat):Int):=by
   have:=Int.sign_mul_self b
   rw[xd,<-this];grind
  rw[e1,show d*b.natAbs*e=d*(b.natAbs*e) by rw[Hb]];exact Ng (Nat.mul_ne_zero hbn he)
 rw[<-key,Rat.mul_div_cancel h1]
theorem Adr {x y:Int} (hy:y≠0):zv (decide (x<0) != decide (y<0)) (dg x.natAbs)=y.sign*x:=by
 unfold zv;rw[B2];rcases Int.lt_or_gt_of_ne hy with h|h
 ·rw[Int.sign_eq_neg_one_of_neg h]
  by_cases hx:x<0
  ·simp [hx,h];omega
  ·simp [hx,h];omega
 ·rw[Int.sign_eq_one_of_pos h]
  by_cases hx:x<0
  ·simp [hx,show ¬ y<0 by omega];omega
  ·simp [hx,show ¬ y<0 by omega];omega
def Bt (k:Nat) (x:Rat):Prop:=x.num.natAbs<=2^k/\x.den<=2^k
theorem Bt.le {k l:Nat} {x:Rat} (h:Bt k x) (hl:k<=l):Bt l x:=by
 have:=eb (show 0<2 by omega) hl
 exact ⟨Mc h.1 this,Mc h.2 this⟩
theorem Bt.mk {k:Nat} {z:Int} {d:Nat} (hz:z.natAbs<=2^k) (hd:d<=2^k):Bt k (mkRat z d):=by
 by_cases h0:d=0
 ·subst h0
  rw[Rat.mkRat_zero];exact ⟨Z',by simp;exact uc⟩
 ·obtain ⟨e1,e2,_⟩:=oZ (z:=z) h0
  unfold Bt;rw[e1,e2];exact ⟨Mc (fh _ _) hz,Mc (fh _ _) hd⟩
theorem Bt.add {k l:Nat} {x y:Rat} (hx:Bt k x) (hy:Bt l y):Bt (k+l+1) (x+y):=by
 rw[Rat.add_def'];refine Bt.mk ?_ ?_
 ·have h1:(x.num*y.den).natAbs<=2^k*2^l:=by rw[Eb,Eg];exact ec hx.1 hy.2
  have h2:(y.num*x.den).natAbs<=2^l*2^k:=by rw[Eb,Eg];exact ec hy.1 hx.2
  rw[Ob (2^l)]at h2;rw[Na,zc];have h3:=Ae (x.num*y.den) (y.num*x.den);omega
 ·rw[Na,zc]
  have:=ec hx.2 hy.2
  omega
theorem Bt.mul {k l:Nat} {x y:Rat} (hx:Bt k x) (hy:Bt l y):Bt (k+l) (x*y):=by
 rw[Rat.mul_def'];refine Bt.mk ?_ ?_
 ·rw[Eb,zc];exact ec hx.1 hy.1
 ·rw[zc];exact ec hx.2 hy.2
theorem Bt.zero (k:Nat):Bt k 0:=⟨Z',by simp;exact uc⟩
theorem Bt.one (k:Nat):Bt k 1:=⟨by simp;exact uc,by simp;exact uc⟩
theorem Bt.dig {k n:Nat} {x:Rat} (h:Bt k x) (hn:k<32*n):Sm n (dg x.num.natAbs)/\Sm n (dg x.den):=by
 have e:2^k<4294967296^n:=by
  rw[show 4294967296=2^32 from rfl,<-ig];exact (Nat.pow_lt_pow_iff_right O').2 hn
 exact ⟨Sm.dg (ud h.1 e),Sm.dg (ud h.2 e)⟩
def Bs (k:Nat) (l:K'):Prop := ∀ x∈l,Bt k x
theorem Bs.at {k:Nat} {l:K'} (h:Bs k l) {i:Nat} {x:Rat} (hx:l[i]? = some x):Bt k x:=h x (zM hx)
theorem Bs.le {k j:Nat} {l:K'} (h:Bs k l) (hj:k<=j):Bs j l:=λ x hx=>(h x hx).le hj
theorem Bs.take {k:Nat} {l:K'} (h:Bs k l) (n:Nat):Bs k (l.take n):=λ x hx=>h x (dd hx)
def AZ:K'->K'->Rat
 | x::xs,y::ys=>x*y+AZ xs ys
 | _,_=>0
theorem SH (l:K'):AZ l []=0:=by cases l<;>rfl
theorem vX : ∀ {a b:K'} {x y:Rat},a.length=b.length->AZ (a++[x]) (b++[y])=AZ a b+x*y
 | [],[],x,y,_=>by show x*y+0=0+x*y;rw[zb,Ie]
 | p::a,q::b,x,y,h=>by
  show p*q+AZ (a++[x]) (b++[y])=p*q+AZ a b+x*y;rw[vX (by simpa using h),Rat.add_assoc]
theorem YA {a b:K'} {i:Nat} {x y:Rat} (hx:a[i]? = some x) (hy:b[i]? = some y):AZ (a.take (i+1)) (b.take (i+1))=AZ (a.take i) (b.take i)+x*y:=by
 have h1:=(zS hx).1;have h2:=(zS hy).1;rw[Ic,Ic,hx,hy,Hd,Hd,vX (by rw[ea,ea];omega)]
theorem V9 {a b:K'} {n:Nat} (h:a.length=n):AZ (a.take n) (b.take n)=AZ a b:=by
 subst h;rw[zT (sa _)];induction a generalizing b with
 | nil=>cases b<;>rfl
 | cons x a ih=>cases b with
  | nil=>rfl
  | cons y b=>simp only[Ha,eg,AZ,ih]
theorem Bs.dot {k l:Nat} : ∀ {a b:K'},Bs k a->Bs l b->Bt (a.length*(k+l+1)) (AZ a b)
 | [],b,_,_=>by cases b<;>exact Bt.zero _
 | x::a,[],_,_=>Bt.zero _
 | x::a,y::b,ha,hb=>by
  have h1:=(ha x Z').mul (hb y Z');have h2:=Bs.dot (a:=a) (b:=b) (λ z hz=>ha z (by simp [hz])) (λ z hz=>hb z (by simp [hz]));refine (h1.add h2).le ?_;rw[Ha,xg];omega
def R6 (a b:K'):K':=Ke (· + ·) a b
theorem mE : ∀ {a u v:K'},u.length=v.length->AZ a (R6 u v)=AZ a u+AZ a v
 | [],_,_,_=>by simp only[AZ];rw[zb]
 | x::a,[],[],_=>by simp only[R6,List.zipWith_nil_left,AZ];rw[zb]
 | x::a,p::u,q::v,h=>by
  show x*(p+q)+AZ a (R6 u v)=_;rw[mE (by simpa using h)];simp only[AZ];grind
structure G7 where
 a:J'
 b:K'
 c:K'
 d:Rat
structure G7.Ok (S:G7) (n k:Nat):Prop where
 la:S.a.length=n
 lr : ∀ r∈S.a,r.length=n
 lb:S.b.length=n
 lc:S.c.length=n
 ba : ∀ r∈S.a,Bs k r
 bb:Bs k S.b
 bc:Bs k S.c
 bd:Bt k S.d
def B9 (n:Nat) (j:Int):K':=(Rb n).map λ i:Nat=>if (i:Int)=j then 1 else 0
theorem NW (n:Nat) (j:Int):(B9 n j).length=n:=by simp [B9]
theorem Anp (n:Nat) (j:Int):B9 (n+1) j=B9 n j++[if (n:Int)=j then 1 else 0]:=by simp [B9,List.range_succ]
theorem Ano (n:Nat):B9 n (-1)=ya n 0:=by
 refine qb λ i => ?_
 simp only[B9,ga,fc,La];by_cases h:i<n
 ·rw[La h,if_pos h]
  simp
 ·rw[va G',if_neg h];rfl
abbrev eO:Option Rat->u_
 | none=>[.bool false,.nil,.nil]
 | some x=>eQ x
def FH (l:K') (m:Nat):List (Option Rat):=l.map some++ya (m-l.length) none
theorem SP (m:Nat):FH [] m=ya m none:=by simp [FH]
theorem QU {l:K'} {m:Nat} (h:l.length<=m):(FH l m).length=m:=by simp [FH];omega
theorem SR {l:K'} {m:Nat} {x:Rat} (h:l.length<m):(FH l m).set l.length (some x)=FH (l++[x]) m:=by
 unfold FH;have e:m-l.length=(m-(l++[x]).length)+1:=by simp;omega
 rw[e,Kd,qg _ _ Z'];simp
theorem SN {l:K'} {m:Nat} (h:l.length=m):(FH l m).map eO=l.map eQ:=by
 unfold FH;rw[h,Jh];simp [ni]
abbrev eS (S:G7):u_:=[.sl false (S.a.map λ r=>[AV.sl false (r.map eQ)]),.sl false (S.b.map eQ),.sl false (S.c.map eQ)]++eQ S.d
theorem KA (l:K'):EZ (l.map eQ):=QK (λ x=>by simp only[B7,A3,and_true,true_and];exact ⟨CP _,CP _⟩) l
theorem XJ {l:K'} {i:Nat} {x:Rat} (h:l[i]? = some x):l.take (i+1)=l.take i++[x]:=by
 rw[Ic,h];rfl
theorem V6 (S:G7):A3 (.agg (eS S)):=by
 have h:EZ (S.a.map λ r=>[AV.sl false (r.map eQ)]):=QK (λ r=>by simp only[B7,A3,and_true,true_and];exact KA r) S.a;simp only[A3,od,Ec,B7,and_true,true_and];exact ⟨h,KA _,KA _,CP _,CP _⟩
def E4 (vals:K'):List (Int × Int)->Rat
 | []=>0
 | t::ts=>(t.2:Rat)*vals.getD t.1.toNat 0+E4 vals ts
theorem Ya (vals:K') (t:Int × Int) : ∀ ts,E4 vals (ts++[t])=E4 vals ts+(t.2:Rat)*vals.getD t.1.toNat 0
 | []=>by simp only[Ec,E4];grind
 | u::ts=>by simp only[od,E4];rw[Ya vals t ts];grind
theorem Yb {vals:K'} {ts:List (Int × Int)} {i:Nat} {t:Int × Int} (h:ts[i]? = some t):E4 vals (ts.take (i+1))=E4 vals (ts.take i)+(t.2:Rat)*vals.getD t.1.toNat 0:=by
 rw[Ic,h,Hd,Ya]
def GK (u:Rat) (ex:Int):Nat->K'->List (List (Int × Int))->K'
 | _,vals,[]=>vals
 | k,vals,ts::r=>GK u ex (k+1) (vals++[E4 vals ts/u+(if (k:Int)=ex then 1 else 0)]) r
theorem fH (u:Rat) (ex:Int) : ∀ (k:Nat) (vals:K') (l:List (List (Int × Int))),(GK u ex k vals l).length=vals.length+l.length
 | _,_,[]=>rfl
 | k,vals,ts::r=>by rw[GK,fH u ex (k+1)];simp;omega
theorem Bs.getD {k:Nat} {l:K'} (h:Bs k l) (i:Nat):Bt k (l.getD i 0):=by
 rw[za];cases e:l[i]? with
 | none=>exact Bt.zero k
 | some x=>exact h.at e
theorem Bs.sum {k j:Nat} {vals:K'} (hv:Bs k vals) : ∀ (ts:List (Int × Int)),(∀ t∈ts,Bt j ((t.2:Int):Rat))->Bt (ts.length*(j+k+1)) (E4 vals ts)
 | [],_=>Bt.zero _
 | t::ts,h=>by
  have h1:=(h t Z').mul (hv.getD t.1.toNat);have h2:=Bs.sum hv ts (λ u hu=>h u (by simp [hu]));refine (h1.add h2).le ?_;rw[Ha,xg];omega
theorem Ajd {l:K'} {x:Rat} {m:Nat} (h:m<l.length):(l++[x]).getD m 0=l.getD m 0:=by
 rw[za,za,ub h]
theorem Ajc {l:K'} {x:Rat} {m:Nat} (h:m=l.length):(l++[x]).getD m 0=x:=by
 subst h;rw[za,Ea (sa _)];simp
def gS:Nat->Nat
 | 0=>0
 | i+1=>5*gS i+150
theorem Ai8 (i:Nat):gS i<=gS (i+1):=by rw[gS];omega
theorem Bt.ofInt {k:Nat} {z:Int} (h:z.natAbs<=2^k):Bt k ((z:Int):Rat):=⟨by rw[uh];exact h,by rw[mh];exact uc⟩
theorem Bt.vu {k j:Nat} {x:Rat} {z:Int} (h:Bt k x) (hz:1<=z) (hj:z.natAbs<=2^j):Bt (k+j) (x/(z:Rat)):=by
 obtain ⟨d,rfl⟩:=Rc (show 0<=z by omega);have e:x/((d:Int):Rat)=x*mkRat 1 d:=by
  rw[Ma,Rat.mkRat_eq_div,Ma];congr 1;rw[show ((1:Int):Rat)=1 from rfl,yf];rfl
 rw[e];exact h.mul (Bt.mk (by simp;exact uc) (by simpa using hj))
structure K3 (l:List (List (Int × Int))):Prop where
 len : ∀ ts∈l,ts.length<=5
 cf : ∀ ts∈l,∀ t∈ts,t.2.natAbs<=2^24
theorem Ak9 {ts:List (Int × Int)} {vals:K'} {k:Nat} {z:Int} (h1:ts.length<=5) (h2 : ∀ t∈ts,t.2.natAbs<=2^24) (hv:Bs k vals) (hz:1<=z) (mu:z.natAbs<=2^24) (b:Bool):Bt (5*k+150) (E4 vals ts/(z:Rat)+(if b=true then 1 else 0)):=by
 have a1:=hv.sum ts (j:=24) (λ t ht=>Bt.ofInt (h2 t ht));have a2:Bt (5*(24+k+1)) (E4 vals ts):=a1.le (zR _ h1);have a3:=a2.vu hz mu;have a4:Bt 0 (if b=true then (1:Rat) else 0):=by cases b<;>first|exact Bt.zero 0|exact Bt.one 0
 exact (a3.add a4).le O'
theorem fG {z ex:Int} (hz:1<=z) (mu:z.natAbs<=2^24) : ∀ (l:List (List (Int × Int))) (k:Nat) (vals:K'),K3 l->Bs (gS k) vals->Bs (gS (k+l.length)) (GK (z:Rat) ex k vals l)
 | [],k,vals,_,hv=>hv
 | ts::l,k,vals,h,hv=>by
  have h1:=Ak9 (h.len ts Z') (h.cf ts Z') hv hz mu (decide ((k:Int)=ex));simp only[decide_eq_true_eq]at h1;rw[GK,Ha,show k+(l.length+1)=k+1+l.length by omega];refine fG hz mu l (k+1) _ ⟨λ t ht=>h.len t (by simp [ht]),λ t ht=>h.cf t (by simp [ht])⟩ ?_;intro x hx;rcases qe.1 hx with hx|hx
  ·exact (hv x hx).le (Ai8 k)
  ·simp only[yd]at hx
   rw[hx];exact h1
theorem yR (u:Rat) (ex:Int) (vals:K') (l:List (List (Int × Int))) (i:Nat) (ts:List (Int × Int)) (h:l[i]? = some ts):GK u ex 0 vals (l.take (i+1))=GK u ex 0 vals (l.take i)++[E4 (GK u ex 0 vals (l.take i)) ts/u+(if (i:Int)=ex then 1 else 0)]:=by
 have key : ∀ (l:List (List (Int × Int))) (k:Nat) (vals:K') (ts:List (Int × Int)),GK u ex k vals (l++[ts])=GK u ex k vals l++[E4 (GK u ex k vals l) ts/u+(if ((k+l.length:Nat):Int)=ex then 1 else 0)]:=by
  intro l;induction l with
  | nil=>intro k vals ts;simp [GK]
  | cons a l ih =>
   intro k vals ts;rw[od,GK,ih,GK,Ha,show k+1+l.length=k+(l.length+1) by omega]
 have hi:=(zS h).1;rw[Ic,h,Hd,key,ea,Kc O',Pc]
def DI (m:J') (j:Nat):K':=m.map λ r=>r.getD j 0
def EX (r:K') (m:J') (n:Nat):K':=(Rb n).map λ j=>AZ r (DI m j)
def HB (a m:J') (n:Nat):J':=a.map λ r=>EX r m n
def oB (n:Nat):J':=(Rb n).map λ i:Nat=>B9 n i
def EK (m:J') (b:K'):K':=m.map λ r=>AZ r b
theorem AfC (m:J') (j:Nat):(DI m j).length=m.length:=by simp [DI]
theorem Sh (r:K') (m:J') (n:Nat):(EX r m n).length=n:=by simp [EX]
theorem AkV (a m:J') (n:Nat):(HB a m n).length=a.length:=by simp [HB]
theorem gJ (m:J') (b:K'):(EK m b).length=m.length:=by simp [EK]
structure Sq (n:Nat) (m:J'):Prop where
 l:m.length=n
 r : ∀ r∈m,r.length=n
theorem Sq.at {n:Nat} {m:J'} (h:Sq n m) {i:Nat} {r:K'} (hr:m[i]? = some r):r.length=n:=h.r r (zM hr)
theorem Sq.mul {n:Nat} {a:J'} (h:a.length=n) (m:J'):Sq n (HB a m n):=by
 refine ⟨by rw[AkV,h],λ r hr => ?_⟩;obtain ⟨x,_,rfl⟩:=Ab.1 hr;exact Sh _ _ _
def Ms (k:Nat) (m:J'):Prop := ∀ r∈m,Bs k r
theorem Ms.at {k:Nat} {m:J'} (h:Ms k m) {i:Nat} {r:K'} (hr:m[i]? = some r):Bs k r:=h r (zM hr)
theorem Ms.getD {k:Nat} {m:J'} (h:Ms k m) (i j:Nat):Bt k ((m.getD i []).getD j 0):=by
 rw[za,za];cases e:m[i]? with
 | none=>exact Bt.zero k
 | some r =>
  simp only[Me];cases e2:r[j]? with
  | none=>exact Bt.zero k
  | some x=>exact (h.at e).at e2
theorem Ms.le {k j:Nat} {m:J'} (h:Ms k m) (hj:k<=j):Ms j m:=λ r hr=>(h r hr).le hj
theorem Ms.Lu {k:Nat} {m:J'} (h:Ms k m) (j:Nat):Bs k (DI m j):=by
 intro x hx;obtain ⟨r,hr,rfl⟩:=Ab.1 hx;rw[za];cases e:r[j]? with
 | none=>exact Bt.zero k
 | some x=>exact (h r hr).at e
theorem HN : ∀ a b:K',AZ a b=AZ b a
 | [],[]=>rfl
 | [],_::_=>rfl
 | _::_,[]=>rfl
 | x::a,y::b=>by simp only[AZ,HN a b,Nh]
theorem YB : ∀ (v:K') (n:Nat),AZ (ya n 0) v=0
 | [],n=>SH _
 | y::v,0=>rfl
 | y::v,n+1=>by rw[Kd];simp only[AZ,YB v n];grind
theorem WC (v:K') (n:Nat):AZ v (ya n 0)=0:=by rw[HN,YB]
theorem X9 (x:Rat) : ∀ a b:K',AZ (a.map (x * ·)) b=x*AZ a b
 | [],_=>by simp [AZ]
 | _::_,[]=>by simp [AZ]
 | p::a,q::b=>by simp only[Da,AZ,X9 x a b];grind
theorem AkY (u:K') (n:Nat):EX u [] n=ya n 0:=by
 refine qb λ j => ?_
 simp only[EX,DI,Gd,SH,ga,fc];by_cases h:j<n
 ·rw[La h,if_pos h];rfl
 ·rw[va G',if_neg h];rfl
theorem AkZ (m:J') (n:Nat):EX [] m n=ya n 0:=by
 refine qb λ j => ?_
 simp only[EX,AZ,ga,fc];by_cases h:j<n
 ·rw[La h,if_pos h];rfl
 ·rw[va G',if_neg h];rfl
theorem AkX (x:Rat) (u r:K') (m:J') (n:Nat) (hr:r.length=n):EX (x::u) (r::m) n=R6 (r.map (x * ·)) (EX u m n):=by
 refine qb λ j => ?_
 simp only[EX,R6,ga,nb];by_cases h:j<n
 ·rw[La h]
  obtain ⟨y,hy⟩:=H' r j;rw[hy];simp only[Pb,DI,Da,AZ,za,hy,Me]
 ·rw[va G',va (l:=r) O']
  rfl
theorem vV {n:Nat} {v:K'} : ∀ (m:J') (u:K'),(∀ r∈m,r.length=n)->AZ (EX u m n) v=AZ u (EK m v)
 | [],u,_=>by rw[AkY,YB,EK,Gd,SH]
 | r::m,[],_=>by rw[AkZ,YB];rfl
 | r::m,x::u,h=>by
  have hr:=h r Z';rw[AkX x u r m n hr,HN,mE (by rw[Lc,Sh];exact hr),HN v,HN v,X9,vV m u λ r hr=>h r (by simp [hr])];rfl
theorem Ak2 {n:Nat} (a m:J') (v:K') (h : ∀ r∈m,r.length=n):EK (HB a m n) v=EK a (EK m v):=by
 simp only[EK,HB,Oh];exact List.map_congr_left λ r _=>vV m r h
theorem Ak1 {n:Nat} {b:K'} (hb:b.length=n):EK (oB n) b=b:=by
 have unit : ∀ (k n i:Nat) (b:K'),b.length=n->AZ ((Fh k n).map λ a:Nat=>if (a:Int)=((k+i:Nat):Int) then 1 else 0) b=b.getD i 0:=by
  intro k n;induction n generalizing k with
  | zero=>intro i b hb;obtain rfl:=cd hb;simp [AZ]
  | succ n ih =>
   intro i b hb;cases b with
   | nil=>simp at hb
   | cons y b =>
    rw[List.range'_succ,Da,AZ];cases i with
    | zero =>
     have hz:((Fh (k+1) n).map λ a:Nat=>if (a:Int)=((k+0:Nat):Int) then (1:Rat) else 0)=ya n 0:=by
      rw[List.eq_replicate_iff];refine ⟨Z',λ x hx => ?_⟩;obtain ⟨a,ha,rfl⟩:=Ab.1 hx;rw[if_neg];have:=(List.mem_range'_1.1 ha).1
      omega
     rw[hz,YB,if_pos Z'];simp [zb]
    | succ i =>
     have:=ih (k+1) i b (by simpa using hb)
     rw[show k+1+i=k+(i+1) by omega]at this;rw[this,if_neg O',List.getD_cons_succ];grind
 refine qb λ r => ?_
 simp only[EK,oB,ga];by_cases h:r<n
 ·rw[La h]
  have:=unit 0 n r b hb
  rw[Pc]at this;simp only[Pb,B9,List.range_eq_range']at this ⊢;rw[this,za,zE O'];rfl
 ·rw[va G',va O']
  rfl
def wQ (S:G7):Nat->K'
 | 0=>S.b
 | j+1=>EK S.a (wQ S j)
def conv (A h:Nat->Rat) (K:Nat):Nat->Rat
 | 0=>0
 | a+1=>conv A h K a+A a*h (K-a)
def FK (m:J') (X:K'):Prop := ∀ r∈m,AZ r X=0
def comb (p f l:Rat) (r t:K'):K':=Ke (λ x y=>(x*p-y*f)/l) r t
theorem lI {p f l:Rat} {r t:K'} (h:r.length=t.length):(comb p f l r t).length=r.length:=by simp [comb,h]
theorem dU (p f l:Rat) : ∀ (r t X:K'),r.length=t.length->AZ (comb p f l r t) X=(p*AZ r X-f*AZ t X)/l
 | [],[],X,_=>by
  show AZ [] X=_;simp only[AZ,Ma];grind
 | x::r,y::t,[],_=>by
  simp only[comb,Db,AZ,Ma];grind
 | x::r,y::t,z::X,h=>by
  have ih:=dU p f l r t X (by simpa using h);simp only[comb]at ih;simp only[comb,Db,AZ,ih,Ma];grind
theorem AfL {p f l:Rat} {r t:K'} {j:Nat} {x y:Rat} (hx:r[j]? = some x) (hy:t[j]? = some y):(comb p f l r t)[j]? = some ((x*p-y*f)/l):=by
 simp [comb,nb,hx,hy]
theorem OS {m:J'} {i:Nat} {x r:K'} (h:r∈m.set i x):r=x \/ ∃ j,j≠i/\m[j]? = some r:=by
 obtain ⟨j,hj⟩:=ua h;rw[xa]at hj;by_cases e:i=j
 ·subst e
  rw[if_pos rfl]at hj;split at hj
  ·exact Or.inl (oa hj).symm
  ·cases hj
 ·rw[if_neg e]at hj
  exact Or.inr ⟨j,Ne.symm e,hj⟩
theorem Aks {m:J'} {i k:Nat} {r t:K'} {p f l:Rat} (hi:m[i]? = some r) (hk:m[k]? = some t) (ou:k≠i) (hl:r.length=t.length) (hp:p≠0) (h0:l≠0) (X:K'):FK (m.set i (comb p f l r t)) X↔FK m X:=by
 have hc:=dU p f l r t X hl;have w9:=(zS hi).1;constructor
 ·intro h r' ja
  have ht:AZ t X=0:=h t (by
   refine zM (i:=k) ?_;rw[xa,if_neg (Ne.symm ou)];exact hk)
  have hn:AZ (comb p f l r t) X=0:=h _ (zM (i:=i) (by rw[xa,if_pos rfl,if_pos w9]));rw[hc,ht]at hn;have s8:AZ r X=0:=by
   have e1:=Qc h0 (a:=p*AZ r X-f*0);rw[hn]at e1;have e2:p*AZ r X=0:=A'
   rcases pc.1 e2 with h|h
   ·exact absurd h hp
   ·exact h
  obtain ⟨j,hj⟩:=ua ja;by_cases e:j=i
  ·subst e
   obtain rfl:=oa (hi.symm.trans hj);exact s8
  ·exact h r' (zM (i:=j) (by rw[xa,if_neg (Ne.symm e)];exact hj))
 ·intro h r' ja
  rcases OS ja with rfl|⟨j,_,hj⟩
  ·rw[hc,h r (zM hi),h t (zM hk),Ma];grind
  ·exact h r' (zM hj)
theorem Akr {m:J'} {i k:Nat} {a b:K'} (hi:m[i]? = some a) (hk:m[k]? = some b) (X:K'):FK ((m.set i b).set k a) X↔FK m X:=by
 have w9:=(zS hi).1;have pq:=(zS hk).1;constructor
 ·intro h r hr
  obtain ⟨j,hj⟩:=ua hr;by_cases e1:j=k
  ·subst e1
   obtain rfl:=oa (hk.symm.trans hj);by_cases e2:i=j
   ·subst e2
    obtain rfl:=oa (hi.symm.trans hk);exact h _ (zM (i:=i) (by rw[xa,if_pos rfl,Ia,if_pos w9]))
   ·exact h _ (zM (i:=i) (by rw[xa,if_neg (Ne.symm e2),xa,if_pos rfl,if_pos w9]))
  ·by_cases e2:j=i
   ·subst e2
    obtain rfl:=oa (hi.symm.trans hj);exact h _ (zM (i:=k) (by rw[xa,if_pos rfl,Ia,if_pos pq]))
   ·exact h _ (zM (i:=j) (by rw[xa,if_neg (Ne.symm e1),xa,if_neg (Ne.symm e2)];exact hj))
 ·intro h r hr
  rcases OS hr with rfl|⟨j,_,hj⟩
  ·exact h _ (zM hi)
  ·rcases OS (zM hj) with rfl|⟨q,_,hq⟩
   ·exact h _ (zM hk)
   ·exact h _ (zM hq)
structure ES (m:J') (W c:Nat) (P:N'):Prop where
 lr : ∀ r∈m,r.length=W
 pl:P.length<=m.length
 inc : ∀ i j p q:Nat,i<j->P[i]? = some p->P[j]? = some q->p<q
 pb : ∀ p∈P,p<c
 nz : ∀ (i p:Nat) (r:K'),P[i]? = some p->m[i]? = some r->r.getD p 0≠0 /\ ∀ j,j<p->r.getD j 0=0
 zr : ∀ (i:Nat) (r:K'),P.length<=i->m[i]? = some r -> ∀ j,j<c->r.getD j 0=0
theorem ES.start {m:J'} {W:Nat} (h : ∀ r∈m,r.length=W):ES m W 0 [] :=
 ⟨h,Qd _,λ i j p q _ h=>by simp at h,(λ p h=>by cases h),(λ i p r h=>by simp at h),λ i r _ _ j hj=>absurd hj O'⟩
theorem ES.skip {m:J'} {W c:Nat} {P:N'} (h:ES m W c P) (hz : ∀ i r,P.length<=i->m[i]? = some r->r.getD c 0=0):ES m W (c+1) P :=
 ⟨h.lr,h.pl,h.inc,λ p hp=>Dg (h.pb p hp),h.nz,λ i r hi hr j hj=>by
  by_cases e:j=c
  ·subst e;exact hz i r hi hr
  ·exact h.zr i r hi hr j O'⟩
theorem ES.swap {m:J'} {W c i k:Nat} {P:N'} {a b:K'} (h:ES m W c P) (hi:m[i]? = some a) (hk:m[k]? = some b) (h1:P.length<=i) (h2:P.length<=k):ES ((m.set i b).set k a) W c P:=by
 have hg : ∀ q,q<P.length->((m.set i b).set k a)[q]? = m[q]? := λ q hq=>by
  rw[xa,if_neg O',xa,if_neg O']
 have hm : ∀ q r,P.length<=q->((m.set i b).set k a)[q]? = some r -> ∃ q',P.length<=q'/\m[q']? = some r:=λ q r hq hr=>by
  rw[xa]at hr;split at hr
  ·split at hr
   ·obtain rfl:=oa hr;exact ⟨i,h1,hi⟩
   ·cases hr
  ·rw[xa]at hr
   split at hr
   ·split at hr
    ·obtain rfl:=oa hr;exact ⟨k,h2,hk⟩
    ·cases hr
   ·exact ⟨q,hq,hr⟩
 refine ⟨λ r hr => ?_,by simpa using h.pl,h.inc,h.pb,λ q p r hp hr => ?_,λ q r hq hr j hj => ?_⟩
 ·rcases OS hr with rfl|⟨j,_,hj⟩
  ·exact h.lr _ (zM hi)
  ·rcases OS (zM hj) with rfl|⟨q,_,hq⟩
   ·exact h.lr _ (zM hk)
   ·exact h.lr _ (zM hq)
 ·rw[hg q (zS hp).1]at hr
  exact h.nz q p r hp hr
 ·obtain ⟨q',h3,h4⟩:=hm q r hq hr
  exact h.zr q' r h3 h4 j hj
theorem ES.Jv {m:J'} {W c:Nat} {P:N'} {t:K'} (h:ES m W c P) (ht:m[P.length]? = some t) (hn:t.getD c 0≠0) (hz : ∀ i r,P.length<i->m[i]? = some r->r.getD c 0=0):ES m W (c+1) (P++[c]):=by
 have ov:=(zS ht).1;refine ⟨h.lr,by simp;omega,λ i j p q fm hp hq => ?_,λ p hp => ?_,λ i p r hp hr => ?_,λ i r hi hr j hj => ?_⟩
 ·have db:=(zS hq).1
  rw[wc,de]at db;rw[ub O']at hp;by_cases e:j<P.length
  ·rw[ub e]at hq
   exact h.inc i j p q fm hp hq
  ·rw[Ea O',show j-P.length=0 by omega]at hq
   obtain rfl:=oa hq;exact h.pb p (zM hp)
 ·rcases qe.1 hp with hp|hp
  ·exact Dg (h.pb p hp)
  ·obtain rfl:=yd.1 hp;omega
 ·by_cases e:i<P.length
  ·rw[ub e]at hp
   exact h.nz i p r hp hr
  ·have w9:=(zS hp).1
   rw[wc,de]at w9;rw[Ea O',show i-P.length=0 by omega]at hp;obtain rfl:=oa hp;obtain rfl:i=P.length:=O'
   obtain rfl:=oa (ht.symm.trans hr);exact ⟨hn,λ j hj=>h.zr P.length _ (sa _) ht j hj⟩
 ·rw[wc,de]at hi
  by_cases e:j=c
  ·subst e;exact hz i r O' hr
  ·exact h.zr i r O' hr j O'
theorem ES.diag {m:J'} {W c:Nat} {P:N'} (h:ES m W c P) (hP:P.length=c) : ∀ i p:Nat,P[i]? = some p->p=i:=by
 have up : ∀ d i p:Nat,P[i]? = some p->i+d<c->p+d<c:=by
  intro d;induction d with
  | zero=>intro i p hp _;exact h.pb p (zM hp)
  | succ d ih =>
   intro i p hp hi;obtain ⟨q,hq⟩:=H' P (i+1);have h1:=h.inc i (i+1) p q O' hp hq;have h2:=ih (i+1) q hq O';omega
 have dn : ∀ i p:Nat,P[i]? = some p->i<=p:=by
  intro i;induction i with
  | zero=>intro p _;omega
  | succ i ih =>
   intro p hp;have w9:=(zS hp).1;obtain ⟨q,hq⟩:=H' P i;have h1:=h.inc i (i+1) q p O' hq hp;have h2:=ih q hq;omega
 intro i p hp;have w9:=(zS hp).1;have h1:=dn i p hp;have h2:=up (c-1-i) i p hp O';omega
def A6 (f:Nat->Rat):Nat->Rat
 | 0=>0
 | n+1=>A6 f n+f n
theorem E8 {f g:Nat->Rat} : ∀ n,(∀ j,j<n->f j=g j)->A6 f n=A6 g n
 | 0,_=>rfl
 | n+1,h=>by rw[A6,A6,E8 n λ j hj=>h j O',h n O']
theorem RL {f:Nat->Rat} : ∀ n,(∀ j,j<n->f j=0)->A6 f n=0
 | 0,_=>rfl
 | n+1,h=>by rw[A6,RL n λ j hj=>h j O',h n O',zb]
theorem Xy {f:Nat->Rat} {n:Nat} : ∀ d,(∀ j,n<=j->f j=0)->A6 f (n+d)=A6 f n
 | 0,_=>rfl
 | d+1,h=>by rw[<-Ph,A6,Xy d h,h (n+d) O',zb]
theorem cC {f:Nat->Rat} {k:Nat} : ∀ n,k<n->(∀ j,j<n->j≠k->f j=0)->A6 f n=f k
 | n+1,hk,h=>by
  by_cases e:k=n
  ·subst e
   rw[A6,RL k λ j hj=>h j O' O',Ie]
  ·rw[A6,cC n O' λ j hj=>h j O',h n O' (Ne.symm e),zb]
theorem Xz (R y:Nat->Rat) (v:Rat) (k:Nat) : ∀ n,A6 (λ j=>R j*(if j=k then v else y j)) n=A6 (λ j=>R j*y j) n+if k<n then R k*(v-y k) else 0
 | 0=>by simp [A6,zb]
 | n+1=>by
  rw[A6,A6,Xz R y v k n];by_cases e:n=k
  ·subst e
   rw[if_pos rfl,if_neg (Ef n),if_pos (Nat.lt_succ_self n)];grind
  ·rw[if_neg e]
   by_cases h:k<n
   ·rw[if_pos h,if_pos O'];grind
   ·rw[if_neg h,if_neg O'];grind
theorem Xx (f:Nat->Rat) : ∀ n,A6 f (n+1)=f 0+A6 (λ j=>f (j+1)) n
 | 0=>by simp only[A6];grind
 | n+1=>by rw[A6,Xx f n,A6];grind
theorem SI : ∀ (r X:K') (n:Nat),r.length<=n->AZ r X=A6 (λ j=>r.getD j 0*X.getD j 0) n
 | [],X,n,_=>by rw[RL n λ j _=>Z'];rfl
 | x::r,[],n,_=>by rw[SH,RL n λ j _=>Z']
 | x::r,y::X,0,h=>by simp at h
 | x::r,y::X,n+1,h=>by
  rw[Xx,AZ,SI r X n (by simpa using h)];simp
def A2 (m:J') (i j:Nat):Rat:=(m.getD i []).getD j 0
theorem J9 {m:J'} {i:Nat} {r:K'} (h:m[i]? = some r) (j:Nat):A2 m i j=r.getD j 0:=by
 rw[A2,show m.getD i []=r by rw[za,h];rfl]
def X1 (R:Nat->Nat->Rat) (c:Nat):Prop := ∀ i,i<c->R i i≠0 /\ ∀ j,j<i->R i j=0
theorem Xf {R:Nat->Nat->Rat} {c:Nat} (h:X1 R c) (f:Nat->Rat) : ∀ d,d<=c -> ∃ y:Nat->Rat,∀ i,c-d<=i->i<c->A6 (λ j=>R i j*y j) c=f i
 | 0,_=>⟨λ_=>0,λ i h1 h2=>absurd h2 O'⟩
 | d+1,hd=>by
  obtain ⟨y,hy⟩:=Xf h f d O';obtain ⟨k,hk⟩ : ∃ k,k=c-(d+1):=⟨_,rfl⟩;have Pg:k<c:=O'
  refine ⟨λ j=>if j=k then y k+(f k-A6 (λ j=>R k j*y j) c)/R k k else y j,λ i h1 h2 => ?_⟩;rw[Xz (R i) y _ k c,if_pos Pg];by_cases e:i=k
  ·subst e
   have h0:=(h i Pg).1;have:=Qc h0 (a:=f i-A6 (λ j=>R i j*y j) c)
   grind
  ·rw[hy i O' h2,(h i h2).2 k O'];grind
theorem Xg {R:Nat->Nat->Rat} {c:Nat} (h:X1 R c) {y:Nat->Rat} (hy : ∀ i,i<c->A6 (λ j=>R i j*y j) c=0) : ∀ d,d<=c -> ∀ j,c-d<=j->j<c->y j=0
 | 0,_=>λ j h1 h2=>absurd h2 O'
 | d+1,hd=>λ j h1 h2=>by
  have ih:=Xg h hy d O';by_cases e:c-d<=j
  ·exact ih j e h2
  ·have h3:=hy j h2
   rw[cC c h2 λ q hq hn=>by
    by_cases e2:q<j
    ·rw[(h j h2).2 q e2,Jb]
    ·rw[ih q O' hq,Fe]]at h3
   rcases pc.1 h3 with h4|h4
   ·exact absurd h4 (h j h2).1
   ·exact h4
theorem ES.low {m:J'} {W c:Nat} {P:N'} (h:ES m W c P) : ∀ i p:Nat,P[i]? = some p->i<=p
 | 0,p,_=>Qd p
 | i+1,p,hp=>by
  have w9:=(zS hp).1;obtain ⟨q,hq⟩:=H' P i;have h1:=h.inc i (i+1) q p O' hq hp;have h2:=h.low i q hq;omega
theorem ES.le {m:J'} {W c:Nat} {P:N'} (h:ES m W c P):P.length<=c:=by
 cases e:P.length with
 | zero=>exact Qd c
 | succ k =>
  obtain ⟨q,hq⟩:=H' P k;have h1:=h.low k q hq;have h2:=h.pb q (zM hq);omega
theorem ES.wide {m:J'} {W c n:Nat} {P:N'} (h:ES m W c P) (hP:P.length=m.length) (hn:c<=n):ES m W n P :=
 ⟨h.lr,h.pl,h.inc,λ p hp=>Mb (h.pb p hp) hn,h.nz,λ i r hi hr=>by
  have:=(zS hr).1
  omega⟩
theorem Vw {m:J'} {W i n:Nat} {r X:K'} (hr:m[i]? = some r) (hl:r.length=W) (hn:n<=W) (hX : ∀ j,n<=j->X.getD j 0=0):AZ r X=A6 (λ j=>A2 m i j*X.getD j 0) n:=by
 obtain ⟨d,rfl⟩:=Nat.exists_eq_add_of_le hn;rw[SI r X (n+d) O',Xy d λ j hj=>by rw[hX j hj,Fe]];exact E8 n λ j _=>by rw[J9 hr]
theorem ES.Ry {m:J'} {W n c:Nat} {P:N'} (h:ES m W n P) (hc : ∀ i,i<c->P[i]? = some i):X1 (A2 m) c:=λ i hi=>by
 have h1:=(zS (hc i hi)).1;obtain ⟨r,hr⟩:=H' m i (Mb h1 h.pl);have:=h.nz i i r (hc i hi) hr
 rw[J9 hr];exact ⟨this.1,λ j hj=>by rw[J9 hr];exact this.2 j hj⟩
theorem ES.full {m:J'} {W n:Nat} {P:N'} (h:ES m W n P) (hP:P.length=n) (hW:n<=W) {X:K'} (hk:FK m X) (hX : ∀ j,n<=j->X.getD j 0=0) (j:Nat):X.getD j 0=0:=by
 have hd : ∀ i,i<n->P[i]? = some i:=λ i hi=>by
  obtain ⟨q,hq⟩:=H' P i;rw[hq,h.diag hP i q hq]
 have ht:=h.Ry hd;by_cases e:j<n
 ·refine Xg ht (y:=λ j=>X.getD j 0) (λ i hi => ?_) n (sa n) j O' e
  obtain ⟨r,hr⟩:=H' m i (by have:=h.pl;omega);rw[<-Vw hr (h.lr r (zM hr)) hW hX];exact hk r (zM hr)
 ·exact hX j O'
theorem ES.gap {m:J'} {W n:Nat} {P:N'} (h:ES m W n P) : ∀ c:Nat,c<=P.length->(∀ i:Nat,i<c->P[i]? = some i) \/ ∃ k,(∀ i,i<k->P[i]? = some i) /\ ∃ p:Nat,P[k]? = some p/\k<p
 | 0,_=>Or.inl λ i hi=>absurd hi O'
 | c+1,hc=>by
  rcases h.gap c O' with h1|h1
  ·obtain ⟨q,hq⟩:=H' P c
   have h2:=h.low c q hq;by_cases e:q=c
   ·subst e
    exact Or.inl λ i hi=>by
     by_cases e:i=q
     ·subst e;exact hq
     ·exact h1 i O'
   ·exact Or.inr ⟨c,h1,q,hq,O'⟩
  ·exact Or.inr h1
theorem YM (f:Nat->Rat) (W j:Nat):((Rb W).map f).getD j 0=if j<W then f j else 0:=by
 rw[za,ga];by_cases h:j<W
 ·rw[La h,if_pos h];rfl
 ·rw[va G',if_neg h];rfl
theorem ES.less {m:J'} {W n:Nat} {P:N'} (h:ES m W n P) (hP:P.length<n) (hW:n<=W) : ∃ X:K',X.length=W/\FK m X/\(∀ j,n<=j->X.getD j 0=0) /\ ∃ j,X.getD j 0≠0:=by
 obtain ⟨c,lg,hc,hz⟩ : ∃ c,c<n/\(∀ i,i<c->P[i]? = some i) /\ ∀ i r,c<=i->m[i]? = some r -> ∀ j,j<=c->r.getD j 0=0:=by
  rcases h.gap P.length (sa _) with h1|⟨k,h1,p,h2,h3⟩
  ·exact ⟨P.length,hP,h1,λ i r hi hr j hj=>h.zr i r hi hr j O'⟩
  ·refine ⟨k,Nat.lt_trans h3 (h.pb p (zM h2)),h1,λ i r hi hr j hj => ?_⟩
   by_cases e:i<P.length
   ·obtain ⟨q,hq⟩:=H' P i e
    refine (h.nz i q r hq hr).2 j ?_;by_cases e2:i=k
    ·subst e2
     obtain rfl:=oa (h2.symm.trans hq);omega
    ·have:=h.inc k i p q O' h2 hq
     omega
   ·exact h.zr i r O' hr j (by have:=h.pb p (zM h2);omega)
 obtain ⟨y,hy⟩:=Xf (h.Ry hc) (λ i=>A2 m i c) c (sa c);have hg : ∀ j,((Rb W).map λ j=>if j<c then y j else if j=c then (-1:Rat) else 0).getD j 0=if j<c then y j else if j=c then (-1:Rat) else 0:=λ j=>by
  rw[YM];by_cases e:j<W
  ·rw[if_pos e]
  ·rw[if_neg e,if_neg O',if_neg O']
 refine ⟨(Rb W).map λ j=>if j<c then y j else if j=c then (-1:Rat) else 0,Z',λ r hr => ?_,λ j hj => ?_,c,?_⟩
 ·obtain ⟨i,hi⟩:=ua hr
  rw[Vw hi (h.lr r hr) (show c+1<=W by omega) λ j hj=>by rw[hg,if_neg O',if_neg O'],A6,hg,if_neg (Ef c),if_pos rfl];by_cases e:i<c
  ·rw[E8 c (g:=λ j=>A2 m i j*y j) λ j hj=>by rw[hg,if_pos hj],hy i O' e];grind
  ·rw[RL c λ j hj=>by rw[J9 hi,hz i r O' hi j O',Jb],J9 hi,hz i r O' hi c (sa c),Jb,zb]
 ·rw[hg,if_neg O',if_neg O']
 ·rw[hg,if_neg (Ef c),if_pos rfl]
  decide
def ZT (m a:J'):Prop:=m.length=a.length /\ ∀ (i:Nat) (r:K'),a[i]? = some r -> ∃ s:Rat,s≠0/\m[i]? = some (r.map (· * s))
theorem WB (x:Rat) : ∀ a b:K',AZ (a.map (· * x)) b=AZ a b*x
 | [],b=>by simp [AZ]
 | a::l,[]=>by rw[SH,SH,Jb]
 | a::l,b::k=>by
  simp only[Da,AZ,WB x l k];grind
theorem ZT.ku {m a:J'} (h:ZT m a) (X:K'):FK m X↔FK a X:=by
 constructor
 ·intro hk r hr
  obtain ⟨i,hi⟩:=ua hr;obtain ⟨s,hs,hm⟩:=h.2 i r hi;have:=hk _ (zM hm)
  rw[WB]at this;rcases pc.1 this with h|h
  ·exact h
  ·exact absurd h hs
 ·intro hk r hr
  obtain ⟨i,hi⟩:=ua hr;obtain ⟨q,hq⟩:=H' a i (by have:=(zS hi).1;have:=h.1;omega);obtain ⟨s,hs,hm⟩:=h.2 i q hq;obtain rfl:=oa (hi.symm.trans hm);rw[WB,hk q (zM hq),Jb]
def C1 (a b:J'):J':=Ke (· ++ ·) a b
def NS (n:Nat) (a:J'):Prop := ∀ X:K',X.length=n->FK a X -> ∀ j,X.getD j 0=0
theorem M9 : ∀ (u y v z:K'),u.length=y.length->AZ (u++v) (y++z)=AZ u y+AZ v z
 | [],[],v,z,_=>by simp [AZ,Ie]
 | x::u,w::y,v,z,h=>by
  simp only[od,AZ,M9 u y v z (by simpa using h)];grind
theorem WU {a b:J'} {i:Nat} {r s:K'} (hr:a[i]? = some r) (hs:b[i]? = some s):(C1 a b)[i]? = some (r++s):=by
 simp [C1,nb,hr,hs]
theorem oJ {n:Nat} {a b:J'} (hl:a.length=b.length) (ha : ∀ r∈a,r.length=n) (y z:K') (hy:y.length=n):FK (C1 a b) (y++z) ↔ ∀ (i:Nat) (r s:K'),a[i]? = some r->b[i]? = some s->AZ r y+AZ s z=0:=by
 constructor
 ·intro h i r s hr hs
  rw[<-M9 r y s z (by rw[ha r (zM hr),hy])];exact h _ (zM (WU hr hs))
 ·intro h q hq
  obtain ⟨i,hi⟩:=ua hq;have w9:=(zS hi).1;simp only[C1,Qg]at w9;obtain ⟨r,hr⟩:=H' a i;obtain ⟨s,hs⟩:=H' b i;obtain rfl:=oa ((WU hr hs).symm.trans hi);rw[M9 r y s z (by rw[ha r (zM hr),hy])];exact h i r s hr hs
theorem AgW {X:K'} (h : ∀ j,X.getD j 0=0) (r:K'):AZ r X=0:=by
 rw[SI r X r.length (sa _)];exact RL _ λ j _=>by rw[h,Fe]
theorem AlT {m a b:J'} {w n:Nat} {P:N'} (h:ES m (n+w) n P) (hk : ∀ X,FK m X↔FK (C1 a b) X) (hl:a.length=b.length) (ha : ∀ r∈a,r.length=n):P.length=n↔NS n a:=by
 constructor
 ·intro hP X hX hka j
  have h1:FK m (X++ya w 0):=(hk _).2 ((oJ hl ha X _ hX).2 λ i r s hr hs=>by
   rw[hka r (zM hr),WC,zb])
  by_cases e:j<n
  ·have h2:=h.full hP O' h1 (λ j hj=>by
    rw[za,Ea O',fc];split<;>rfl) j
   rw[za,ub O']at h2;rw[za];exact h2
  ·rw[za,va O'];rfl
 ·intro z9
  have h1:=h.le;rcases re P.length n with hP|hP
  ·exfalso
   obtain ⟨X,hX,hX1,hX2,j,hj⟩:=h.less hP O';have h2:=(hk _).1 hX1;rw[<-ob n X]at h2;have ct:(X.take n).length=n:=by simp;omega
   have h3:=(oJ hl ha _ _ ct).1 h2;have hz : ∀ q,(X.drop n).getD q 0=0:=λ q=>by
    have:=hX2 (n+q) O'
    rw[za]at this;rw[za,Mg];exact this
   have h4:=z9 (X.take n) ct (λ r hr=>by
    obtain ⟨i,hi⟩:=ua hr;obtain ⟨s,hs⟩:=H' b i (by have:=(zS hi).1;omega);have:=h3 i r s hi hs
    rw[AgW hz,zb]at this;exact this) j
   by_cases e:j<n
   ·rw[za,List.getElem?_take_of_lt e,<-za]at h4
    exact hj h4
   ·exact hj (hX2 j O')
  ·omega
def gP (w c:Nat):K':=(Rb w).map λ q=>if q=c then -1 else 0
theorem vY {r:K'} {w c:Nat} (hr:r.length=w) (hc:c<w):AZ r (gP w c) = - r.getD c 0:=by
 rw[SI r _ w O',cC w hc λ j hj hn=>by rw[gP,YM,if_pos hj,if_neg hn,Fe],gP,YM,if_pos hc,if_pos rfl];grind
theorem AfE {m a b:J'} {w n c:Nat} {y:K'} (hk : ∀ X,FK m X↔FK (C1 a b) X) (hl:a.length=b.length) (ha : ∀ r∈a,r.length=n) (hb : ∀ r∈b,r.length=w) (hc:c<w) (hy:y.length=n) (hm : ∀ r∈m,r.length=n+w) (hs : ∀ r∈m,AZ (r.take n) y=r.getD (n+c) 0) {i:Nat} {r s:K'} (hr:a[i]? = some r) (hi:b[i]? = some s):AZ r y=s.getD c 0:=by
 have h1:FK m (y++gP w c):=λ q hq=>by
  have zl:=hm q hq;have e:q=q.take n++q.drop n:=(ob n q).symm;rw[e,M9 _ _ _ _ (by rw[ea,hy];omega),hs q hq,vY (by rw[Cg];omega) hc];have:(q.drop n).getD c 0=q.getD (n+c) 0:=by rw[za,Mg,<-za]
  rw[this];grind
 have h2:=(oJ hl ha y _ hy).1 ((hk _).1 h1) i r s hr hi;rw[vY (hb s (zM hi)) hc]at h2;grind
theorem Am2 {a:J'} {n:Nat} (ha : ∀ r∈a,r.length=n) {X Y:K'} (hX:X.length=n) (hY:Y.length=n) (h:EK a X=EK a Y) (z9:NS n a):X=Y:=by
 have h1:=z9 ((Rb n).map λ j=>X.getD j 0-Y.getD j 0) Z' (λ r hr=>by
  obtain ⟨i,hi⟩:=ua hr;have e:AZ r X=AZ r Y:=by
   have:=congrArg (·[i]?) h
   simp only[EK,ga,hi,Pb,Ka]at this;exact this
  have hs : ∀ k,A6 (λ j=>r.getD j 0*((Rb n).map λ j=>X.getD j 0-Y.getD j 0).getD j 0) k=A6 (λ j=>r.getD j 0*X.getD j 0) k-A6 (λ j=>r.getD j 0*Y.getD j 0) k:=by
   intro k;induction k with
   | zero=>simp only[A6];grind
   | succ k ih =>
    rw[A6,A6,A6,ih,YM];by_cases e:k<n
    ·rw[if_pos e];grind
    ·rw[if_neg e,za,za,za,va (show X.length<=k by omega),va (show Y.length<=k by omega)]
     simp only[Option.getD_none];grind
  rw[SI r _ r.length (sa _),hs,<-SI r X _ (sa _),<-SI r Y _ (sa _),e];grind)
 refine qb λ j => ?_
 by_cases e:j<n
 ·have:=h1 j
  rw[YM,if_pos e]at this;have h2:X.getD j 0=Y.getD j 0:=A'
  rw[za,za,zE O',zE O']at h2;rw[zE O',zE O'];exact congrArg some h2
 ·rw[va O',va O']
end Go.c6

namespace Go.c6
theorem Bt.Rr {k:Nat} {y:Rat} (h:Bt k y):Bt k y⁻¹:=by
 rw[Rat.inv_def];rcases Int.natAbs_eq y.num with e|e
 ·rw[e,vh]
  exact Bt.mk (by simpa using h.2) h.1
 ·rw[e,Rat.divInt_neg',vh]
  exact Bt.mk (by simpa using h.2) h.1
theorem Bt.Aa {k l:Nat} {x y:Rat} (hx:Bt k x) (hy:Bt l y):Bt (k+l) (x/y):=by
 rw[Ma];exact hx.mul hy.Rr
theorem Bt.yl {k:Nat} {x:Rat} (h:Bt k x):Bt k (-x):=⟨by rw[Rat.neg_num,ah];exact h.1,by rw[Rat.neg_den];exact h.2⟩
theorem Bt.pf {k l:Nat} {x y:Rat} (hx:Bt k x) (hy:Bt l y):Bt (k+l+1) (x-y):=by
 rw[Qe];exact hx.add hy.yl
theorem Bt.Gg {k:Nat} {x p y f l:Rat} (hx:Bt k x) (hp:Bt k p) (hy:Bt k y) (hf:Bt k f) (hl:Bt k l):Bt (5*k+1) ((x*p-y*f)/l) :=
 (((hx.mul hp).pf (hy.mul hf)).Aa hl).le O'
theorem lJ {p f l:Rat} : ∀ {r t:K'} {z:Rat},z∈comb p f l r t -> ∃ x∈r,∃ y∈t,z=(x*p-y*f)/l
 | [],_,z,h=>by simp [comb]at h
 | _::_,[],z,h=>by simp [comb]at h
 | x::r,y::t,z,h=>by
  simp only[comb,Db,kc]at h;rcases h with h|h
  ·exact ⟨x,xc,y,xc,h⟩
  ·obtain ⟨a,ha,b,hb,e⟩:=lJ (r:=r) (t:=t) h
   exact ⟨a,Ga _ ha,b,Ga _ hb,e⟩
theorem Bs.comb {k:Nat} {r t:K'} {p f l:Rat} (hr:Bs k r) (ht:Bs k t) (hp:Bt k p) (hf:Bt k f) (hl:Bt k l):Bs (5*k+1) (comb p f l r t):=λ z hz=>by
 obtain ⟨x,hx,y,hy,rfl⟩:=lJ hz;exact Bt.Gg (hr x hx) hp (ht y hy) hf hl
theorem lH {p f l:Rat} : ∀ {r t:K'},r.length=t.length -> ∀ j,(comb p f l r t).getD j 0=(r.getD j 0*p-t.getD j 0*f)/l
 | [],[],_,j=>by simp [comb,Ma,Jb,Qe,Rat.neg_zero,zb]
 | x::r,y::t,_,0=>by simp [comb]
 | x::r,y::t,h,j+1=>by
  have:=lH (p:=p) (f:=f) (l:=l) (r:=r) (t:=t) (by simpa using h) j
  simp only[comb]at this;simpa [comb] using this
def P1 (s x:Rat):Rat:=s*(((s*x).den:Nat):Rat)
def C7 (r:K'):Rat:=r.foldl P1 1
theorem Uy (r:K') (x:Rat):C7 (r++[x])=P1 (C7 r) x:=by rw[C7,List.foldl_append];rfl
theorem Amu {s x:Rat} (h:s≠0):P1 s x≠0:=by
 intro e;rcases pc.1 e with e|e
 ·exact h e
 ·have:=(s*x).den_pos
  have:((s*x).den:Rat)=((0:Nat):Rat):=e
  have:=Rat.natCast_inj.1 this
  omega
theorem Amv (r:K'):C7 r≠0:=by
 have : ∀ (r:K') (s:Rat),s≠0->r.foldl P1 s≠0:=by
  intro r;induction r with
  | nil=>intro s h;exact h
  | cons x r ih=>intro s h;exact ih _ (Amu h)
 exact this r 1 Y'
def whole (m:J'):J':=m.map λ r=>r.map (· * C7 r)
theorem AnE (m:J'):ZT (whole m) m:=⟨by simp [whole],λ i r hr=>⟨C7 r,Amv r,by simp [whole,hr]⟩⟩
theorem AnD {m:J'} {W:Nat} (h : ∀ r∈m,r.length=W) : ∀ r∈whole m,r.length=W:=λ r hr=>by
 obtain ⟨q,hq,rfl⟩:=Ab.1 hr;simpa using h q hq
def JW:J'->N'->Rat
 | r::m,p::P=>r.getD p 0*JW m P
 | _,_=>1
theorem bC : ∀ m,JW m []=1
 | []=>rfl
 | _::_=>rfl
theorem hJ : ∀ (m:J') (P:N') (i:Nat) (x:K'),P.length<=i->JW (m.set i x) P=JW m P
 | [],_,_,_,_=>rfl
 | _::_,[],_,_,_=>by rw[bC,bC]
 | r::m,p::P,0,x,h=>by simp at h
 | r::m,p::P,i+1,x,h=>by
  rw[List.set_cons_succ,JW,JW,hJ m P i x (by simpa using h)]
theorem Wz (c:Nat) (t:K') : ∀ (m:J') (P:N'),m[P.length]? = some t->JW m (P++[c])=JW m P*t.getD c 0
 | [],_,h=>by simp at h
 | r::m,[],h=>by
  obtain rfl:r=t:=by simpa using h
  rw[Ec,JW,bC,bC,nc,yf]
 | r::m,p::P,h=>by
  rw[od,JW,JW,Wz c t m P (by simpa using h),kd]
structure sA (n W:Nat) (u:Rat) (D:J'->Rat):Prop where
 sw : ∀ (m:J') (i k:Nat) (a b:K'),m.length=n->(∀ r∈m,r.length=W)->m[i]? = some a->m[k]? = some b->i≠k->D ((m.set i b).set k a) = -D m
 ad : ∀ (m:J') (i k:Nat) (r t:K') (p f l:Rat),m.length=n->(∀ r∈m,r.length=W)->m[i]? = some r->m[k]? = some t->i≠k->l≠0->D (m.set i (comb p f l r t))=D m*(p/l)
 sc : ∀ (m:J') (i:Nat) (r:K') (s:Rat),m.length=n->(∀ r∈m,r.length=W)->m[i]? = some r->D (m.set i (r.map (· * s)))=D m*s
 tr : ∀ m:J',m.length=n->(∀ r∈m,r.length=W)->X1 (A2 m) n->D m=JW m (Rb n)*u
def bS (b:Bool):Rat:=bif b then -1 else 1
theorem Amy (b:Bool):bS (!b) = -bS b:=by cases b<;>decide
theorem Wq : ∀ n:Nat,(1:Rat)^n=1
 | 0=>Ge 1
 | n+1=>by rw[te,Wq n,nc]
theorem Ve {l:Rat} (h:l≠0) : ∀ n:Nat,l^n≠0
 | 0=>by rw[Ge];decide
 | n+1=>by
  rw[te];intro e;rcases pc.1 e with e|e
  ·exact Ve h n e
  ·exact h e
theorem Ak0 {a b c:Rat} (h:c≠0) (e:a*c=b*c):a=b:=by
 have h1:=Oe c h;have:a*c*c⁻¹=b*c*c⁻¹:=by rw[e]
 rwa [kd,kd,h1,nc,nc]at this
structure HX (m0:J') (K W cj:Nat) (m:J') (P:N') (c:Nat) (odd:Bool) (l:Rat):Prop where
 z7:ES m W c P
 len:m.length=m0.length
 cc:c<=cj
 l0:l≠0
 ku : ∀ X,FK m X↔FK m0 X
 ms:Ms (6^P.length*K) m
 bl:Bt (6^P.length*K) l
 dt : ∀ (u:Rat) (D:J'->Rat),sA m0.length W u D->D m*l=bS odd*D m0*JW m P*l^(m0.length-P.length)
theorem HX.start {m0:J'} {K W cj:Nat} (h : ∀ r∈m0,r.length=W) (hb:Ms K m0):HX m0 K W cj m0 [] 0 false 1 :=
 ⟨ES.start h,rfl,Qd _,Y',λ_=>Iff.rfl,by simpa using hb,Bt.one _,λ u D _=>by rw[bC,Wq,nc,nc,nc];exact (yf _).symm⟩
section
variable {m0 m:J'} {K W cj c:Nat} {P:N'} {odd:Bool} {l:Rat}
theorem HX.skip (h:HX m0 K W cj m P c odd l) (hc:c<cj) (hz : ∀ (i:Nat) (r:K'),P.length<=i->m[i]? = some r->r.getD c 0=0):HX m0 K W cj m P (c+1) odd l :=
 ⟨h.z7.skip hz,h.len,hc,h.l0,h.ku,h.ms,h.bl,h.dt⟩
theorem HX.swap {i k:Nat} {a b:K'} (h:HX m0 K W cj m P c odd l) (hi:m[i]? = some a) (hk:m[k]? = some b) (h1:P.length<=i) (h2:P.length<=k) (hn:i≠k):HX m0 K W cj ((m.set i b).set k a) P c (!odd) l :=
 ⟨h.z7.swap hi hk h1 h2,by simpa using h.len,h.cc,h.l0,λ X=>(Akr hi hk X).trans (h.ku X),λ r hr=>by
  rcases OS hr with rfl|⟨j,_,hj⟩
  ·exact h.ms.at hi
  ·rcases OS (zM hj) with rfl|⟨q,_,hq⟩
   ·exact h.ms.at hk
   ·exact h.ms.at hq,h.bl,λ u D hD=>by
  rw[hD.sw m i k a b h.len h.z7.lr hi hk hn,Amy,hJ _ _ _ _ h2,hJ _ _ _ _ h1,xf,h.dt u D hD,xf,xf,xf]⟩
structure QG (m0:J') (K W cj:Nat) (P:N') (c:Nat) (odd:Bool) (l:Rat) (t:K') (m:J') (i:Nat):Prop where
 z7:ES m W c P
 len:m.length=m0.length
 cc:c<cj
 l0:l≠0
 ku : ∀ X,FK m X↔FK m0 X
 ht:m[P.length]? = some t
 nt:t.getD c 0≠0
 lo : ∀ q r,q<i->m[q]? = some r->Bs (5*(6^P.length*K)+1) r
 hi : ∀ q r,i<=q->m[q]? = some r->Bs (6^P.length*K) r
 bt:Bs (6^P.length*K) t
 bl:Bt (6^P.length*K) l
 z : ∀ q r,P.length<q->q<i->m[q]? = some r->r.getD c 0=0
 dt : ∀ (u:Rat) (D:J'->Rat),sA m0.length W u D->D m*l*l^(i-P.length-1)=bS odd*D m0*JW m P*l^(m0.length-P.length)*t.getD c 0^(i-P.length-1)
theorem HX.swp {t:K'} (h:HX m0 K W cj m P c odd l) (hc:c<cj) (ht:m[P.length]? = some t) (hn:t.getD c 0≠0):QG m0 K W cj P c odd l t m (P.length+1) :=
 ⟨h.z7,h.len,hc,h.l0,h.ku,ht,hn,λ q r _ hr=>(h.ms.at hr).le O',λ q r _ hr=>h.ms.at hr,h.ms.at ht,h.bl,λ q r h1 h2 _=>absurd h1 O',λ u D hD=>by
  rw[show P.length+1-P.length-1=0 by omega,Ge,Ge,nc,nc];exact h.dt u D hD⟩
theorem QG.step {t r:K'} {i:Nat} (h:QG m0 K W cj P c odd l t m i) (hi:P.length<i) (hr:m[i]? = some r):QG m0 K W cj P c odd l t (m.set i (comb (t.getD c 0) (r.getD c 0) l r t)) (i+1):=by
 have w9:=(zS hr).1;have hl:r.length=t.length:=by rw[h.z7.lr r (zM hr),h.z7.lr t (zM h.ht)]
 have hg : ∀ j,(comb (t.getD c 0) (r.getD c 0) l r t).getD j 0=(r.getD j 0*t.getD c 0-t.getD j 0*r.getD c 0)/l:=lH hl;have az : ∀ (q:Nat) (x:K'),(m.set i (comb (t.getD c 0) (r.getD c 0) l r t))[q]? = some x->(q=i/\x=comb (t.getD c 0) (r.getD c 0) l r t)\/(q≠i/\m[q]? = some x):=λ q x hx=>by
  rw[xa]at hx;by_cases e:i=q
  ·rw[if_pos e,if_pos w9]at hx
   exact Or.inl ⟨e.symm,(oa hx).symm⟩
  ·rw[if_neg e]at hx
   exact Or.inr ⟨Ne.symm e,hx⟩
 have Hk:=h.hi i r (sa i) hr;have htc:Bt (6^P.length*K) (t.getD c 0):=by
  have:Ms (6^P.length*K) [t]:=λ x hx=>by obtain rfl:=yd.1 hx;exact h.bt
  exact this.getD 0 c
 have Fk:Bt (6^P.length*K) (r.getD c 0):=by
  have:Ms (6^P.length*K) [r]:=λ x hx=>by obtain rfl:=yd.1 hx;exact Hk
  exact this.getD 0 c
 have bu : ∀ j,j<=c->(comb (t.getD c 0) (r.getD c 0) l r t).getD j 0=0:=λ j hj=>by
  rw[hg];by_cases e:j=c
  ·subst e;rw[Ma];grind
  ·rw[h.z7.zr i r O' hr j O',h.z7.zr P.length t (sa _) h.ht j O',Ma];grind
 refine ⟨⟨λ x hx => ?_,by simpa using h.z7.pl,h.z7.inc,h.z7.pb,λ q p x hp hx => ?_,λ q x hq hx j hj => ?_⟩,by simpa using h.len,h.cc,h.l0,λ X=>(Aks hr h.ht O' hl h.nt h.l0 X).trans (h.ku X),?_,h.nt,λ q x hq hx => ?_,λ q x hq hx => ?_,h.bt,h.bl,λ q x h1 h2 hx => ?_,λ u D hD => ?_⟩
 ·rcases OS hx with rfl|⟨j,_,hj⟩
  ·rw[lI hl];exact h.z7.lr r (zM hr)
  ·exact h.z7.lr x (zM hj)
 ·have xn:=(zS hp).1
  rcases az q x hx with ⟨rfl,_⟩|⟨_,hx⟩
  ·omega
  ·exact h.z7.nz q p x hp hx
 ·rcases az q x hx with ⟨rfl,rfl⟩|⟨_,hx⟩
  ·exact bu j O'
  ·exact h.z7.zr q x hq hx j hj
 ·rw[xa,if_neg O'];exact h.ht
 ·rcases az q x hx with ⟨rfl,rfl⟩|⟨k7,hx⟩
  ·exact Hk.comb h.bt htc Fk h.bl
  ·exact h.lo q x O' hx
 ·rcases az q x hx with ⟨rfl,rfl⟩|⟨k7,hx⟩
  ·omega
  ·exact h.hi q x O' hx
 ·rcases az q x hx with ⟨rfl,rfl⟩|⟨k7,hx⟩
  ·exact bu c (sa c)
  ·exact h.z q x h1 O' hx
 ·have hd:=h.dt u D hD
  have Hr:=Qc h.l0 (a:=t.getD c 0);rw[hD.ad m i P.length r t _ _ l h.len h.z7.lr hr h.ht O' h.l0,hJ _ _ _ _ O',show i+1-P.length-1=(i-P.length-1)+1 by omega,te,te];rw[show D m*(t.getD c 0/l)*l*(l^(i-P.length-1)*l)=D m*l*l^(i-P.length-1)*(t.getD c 0/l*l) by grind,hd,Hr,kd]
theorem Vc (hK:1<=K) (p:Nat):5*(6^p*K)+1<=6^(p+1)*K:=by
 have h1:1<=6^p*K:=gg (uf O') hK;have e:6^(p+1)*K=6*(6^p*K):=by rw[Na,Ob (6^p) 6,Hb]
 omega
theorem iF {p n B:Nat} (h:6^n*K<=B) (hp:p<=n):6^p*K<=B :=
 Mc (zR K (eb O' hp)) h
theorem QG.done {t:K'} {i:Nat} (hK:1<=K) (h:QG m0 K W cj P c odd l t m i) (hi:i=m.length):HX m0 K W cj m (P++[c]) (c+1) odd (t.getD c 0):=by
 have e:(P++[c]).length=P.length+1:=Z'
 have h6:=Vc hK P.length;refine ⟨h.z7.Jv h.ht h.nt λ q r hq hr=>h.z q r hq (hi ▸ (zS hr).1) hr,h.len,h.cc,h.nt,h.ku,?_,?_,λ u D hD => ?_⟩
 ·rw[e]
  intro r hr;obtain ⟨q,hq⟩:=ua hr;exact (h.lo q r (hi ▸ (zS hq).1) hq).le h6
 ·rw[e]
  have:Ms (6^P.length*K) [t]:=λ x hx=>by obtain rfl:=yd.1 hx;exact h.bt
  exact (this.getD 0 c).le O'
 ·have hd:=h.dt u D hD
  have ov:=(zS h.ht).1;have hlen:=h.len;rw[Wz c t m P h.ht,e];rw[hi,hlen,show m0.length-P.length=(m0.length-P.length-1)+1 by omega,te,Ig]at hd;rw[show m0.length-(P.length+1)=m0.length-P.length-1 by omega];have hp:=Ve h.l0 (m0.length-P.length-1);generalize l^(m0.length-P.length-1)=x at *;generalize t.getD c 0=p at *;generalize p^(m0.length-P.length-1)=y at *;have h0:=h.l0;have h1:D m=bS odd*D m0*JW m P*y:=Ak0 (c:=l*x) (λ e=>by
   rcases pc.1 e with e|e
   ·exact h0 e
   ·exact hp e) A'
  rw[h1];grind
end
def ET (c:Nat) (l:Rat):J'->Nat->K'
 | [],_=>[]
 | r::m,i=>(r.getD c 0*l-AZ (r.drop (i+1)) (ET c l m (i+1)))/r.getD i 0::ET c l m (i+1)
theorem QH (c:Nat) (l:Rat) : ∀ (m:J') (i:Nat),(ET c l m i).length=m.length
 | [],_=>rfl
 | r::m,i=>by rw[ET,Ha,QH c l m (i+1),Ha]
theorem Ag1 (r:K') (i:Nat) (h:i<r.length):r.drop i=r.getD i 0::r.drop (i+1):=by
 rw[tc h,za,zE h];rfl
theorem tT (c:Nat) (l:Rat) : ∀ (m:J') (i k:Nat) (r:K'),m[k]? = some r->i+k<r.length->r.getD (i+k) 0≠0->AZ (r.drop (i+k)) ((ET c l m i).drop k)=r.getD c 0*l
 | q::m,i,0,r,h,hl,h0=>by
  obtain rfl:q=r:=by simpa using h
  rw[yb]at hl h0 ⊢;rw[Ag1 q i hl,ET,Ja,AZ];have:=Qc h0 (a:=q.getD c 0*l-AZ (q.drop (i+1)) (ET c l m (i+1)))
  grind
 | q::m,i,k+1,r,h,hl,h0=>by
  rw[ET,Re,show i+(k+1)=i+1+k by omega];exact tT c l m (i+1) k r (by simpa using h) O' (by rw[show i+1+k=i+(k+1) by omega];exact h0)
 | [],_,_,_,h,_,_=>by simp at h
theorem vW : ∀ (i:Nat) (r x:K'),(∀ j,j<i->r.getD j 0=0)->AZ r x=AZ (r.drop i) (x.drop i)
 | 0,_,_,_=>rfl
 | i+1,[],x,_=>by simp [AZ]
 | i+1,r::rs,[],_=>by rw[SH,List.drop_nil,SH]
 | i+1,r::rs,x::xs,h=>by
  have h0:r=0:=by simpa using h 0 O'
  rw[AZ,h0,Jb,Ie,Re,Re];exact vW i rs xs λ j hj=>by simpa using h (j+1) O'
theorem Afj {c n:Nat} {l:Rat} {m:J'} (hn : ∀ r∈m,n<=r.length) (hm:m.length=n) (ht:X1 (A2 m) n) (r:K') (hr:r∈m):AZ r (ET c l m 0)=r.getD c 0*l:=by
 obtain ⟨k,hk⟩:=ua hr;have pq:=(zS hk).1;have h1:=ht k O';have h2:=tT c l m 0 k r hk (by have:=hn r hr;omega) (by rw[Pc,<-J9 hk];exact h1.1);rw[vW k r _ λ j hj=>by rw[<-J9 hk];exact h1.2 j hj,<-h2,Pc]
theorem AgX {k l:Nat} {a b:K'} (ha:Bs k a) (hb:Bs l b) {n:Nat} (hn:b.length<=n):Bt (n*(k+l+1)) (AZ a b):=by
 rw[HN];exact (hb.dot ha).le (Mc (zR _ hn) (Nat.le_of_eq (by rw[Ce l k])))
end Go.c6

namespace Go.c6
structure Pt where
 x:Rat
 y:Rat
 w:Rat
def Am5 (g:List Pt) (f:Pt->Rat):Rat:=g.foldl (λ s p=>s+f p) 0
theorem jB (x:Rat):0<=x*x:=by
 rcases Rat.le_total (a:=0) (b:=x) with h|h
 ·exact dh h h
 ·have:=dh (show 0 <= -x by grind) (show 0 <= -x by grind)
  grind
def rhs (g:List Pt) (k:Nat):Rat:=Am5 g λ p=>p.w*p.x^k*p.y
def Wh (k:Nat) (x:Rat):Prop := ∃ z:Int,x=(z:Rat)/\z.natAbs<=2^k
theorem Wh.le {k l:Nat} {x:Rat} (h:Wh k x) (hl:k<=l):Wh l x:=by
 obtain ⟨z,e,b⟩:=h;exact ⟨z,e,Mc b (eb O' hl)⟩
theorem Wh.mul {k l:Nat} {x y:Rat} (hx:Wh k x) (hy:Wh l y):Wh (k+l) (x*y):=by
 obtain ⟨z,rfl,b⟩:=hx;obtain ⟨u,rfl,c⟩:=hy;exact ⟨z*u,by rw[Cc],by rw[Eb,zc];exact ec b c⟩
theorem Wh.add {k:Nat} {x y:Rat} (hx:Wh k x) (hy:Wh k y):Wh (k+1) (x+y):=by
 obtain ⟨z,rfl,b⟩:=hx;obtain ⟨u,rfl,c⟩:=hy;refine ⟨z+u,by rw[oh],?_⟩;rw[Na];have:=Ae z u
 omega
theorem Wh.neg {k:Nat} {x:Rat} (hx:Wh k x):Wh k (-x):=by
 obtain ⟨z,rfl,b⟩:=hx;exact ⟨-z,by rw[Rat.intCast_neg],by rw[ah];exact b⟩
theorem Wh.sub {k:Nat} {x y:Rat} (hx:Wh k x) (hy:Wh k y):Wh (k+1) (x-y):=by
 rw[Qe];exact hx.add hy.neg
theorem Wh.zero (k:Nat):Wh k 0:=⟨0,rfl,Qd _⟩
theorem Wh.one (k:Nat):Wh k 1:=⟨1,rfl,uc⟩
theorem Wh.bt {k:Nat} {x:Rat} (h:Wh k x):Bt k x:=by
 obtain ⟨z,rfl,b⟩:=h;exact Bt.ofInt b
theorem Wh.dot {k l:Nat} : ∀ {a b:K'},(∀ x∈a,Wh k x)->(∀ x∈b,Wh l x)->Wh (k+l+a.length) (AZ a b)
 | [],b,_,_=>by cases b<;>exact Wh.zero _
 | x::a,[],_,_=>Wh.zero _
 | x::a,y::b,ha,hb=>by
  rw[AZ,Ha,<-Ph];exact (((ha x xc).mul (hb y xc)).le O').add (Wh.dot (λ z hz=>ha z (Ga _ hz)) λ z hz=>hb z (Ga _ hz))
theorem TH (y:Rat):y*(y.den:Rat)=(y.num:Rat):=by
 have h:=Rat.num_divInt_den y;rw[Rat.divInt_eq_div]at h;have h0:((y.den:Int):Rat)≠0:=λ e=>by
  have:((y.den:Int):Rat)=((0:Int):Rat):=e
  have:=qh.1 this
  have:=y.den_pos
  omega
 have h2:=Qc h0 (a:=(y.num:Rat));rw[h,Jd]at h2;exact h2
theorem eB {y:Rat} {T:Nat} {z:Int} (h:(T:Rat)*y=(z:Rat)):y.den ∣ T:=by
 have h1:y*(y.den:Rat)=(y.num:Rat):=TH y;have h2:(((T:Int)*y.num:Int):Rat)=((z*(y.den:Int):Int):Rat):=by
  rw[Cc,Cc,<-h1,<-h,Jd,Jd,kd]
 have h3:=qh.1 h2;have h4:(y.den:Int) ∣ (T:Int)*y.num:=⟨z,by rw[h3,Ch]⟩;have h5:y.den ∣ T*y.num.natAbs:=by
  have:=Int.natAbs_dvd_natAbs.2 h4
  simpa [Eb] using this
 exact Nat.Coprime.dvd_of_dvd_mul_right (Nat.Coprime.symm y.reduced) h5
theorem Amt {S M:Nat} {x:Rat} (hS:S ∣ M) (hM : ∃ z:Int,(M:Rat)*x=(z:Rat)) : ∃ S':Nat,P1 (S:Rat) x=(S':Rat)/\S' ∣ M/\S ∣ S' /\ ∃ z:Int,(S':Rat)*x=(z:Rat):=by
 obtain ⟨T,rfl⟩:=hS;obtain ⟨z,hz⟩:=hM;have h1:((S:Rat)*x).den ∣ T:=eB (z:=z) (by rw[<-hz,me];grind);have h2:((S:Rat)*x)*((((S:Rat)*x).den:Nat):Rat)=(((S:Rat)*x).num:Rat):=TH _;generalize ((S:Rat)*x).num=u at h2;refine ⟨S*((S:Rat)*x).den,?_,Nat.mul_dvd_mul_left S h1,Nat.dvd_mul_right _ _,u,?_⟩
 ·rw[P1,me]
 ·rw[me];grind
theorem Uv {M:Nat} : ∀ (l:K') (S:Nat),S ∣ M->(∀ x∈l,∃ z:Int,(M:Rat)*x=(z:Rat)) -> ∃ S':Nat,l.foldl P1 (S:Rat)=(S':Rat)/\S' ∣ M/\S ∣ S' /\ ∀ x∈l,∃ z:Int,(S':Rat)*x=(z:Rat)
 | [],S,hS,_=>⟨S,rfl,hS,Nat.dvd_refl S,λ x hx=>by cases hx⟩
 | x::l,S,hS,h=>by
  obtain ⟨S1,e1,d1,d2,z,hz⟩:=Amt hS (h x xc);obtain ⟨S2,e2,d3,d4,h2⟩:=Uv l S1 d1 λ y hy=>h y (Ga _ hy)
  refine ⟨S2,by rw[List.foldl_cons,e1,e2],d3,Nat.dvd_trans d2 d4,λ y hy => ?_⟩;rcases kc.1 hy with rfl|hy
  ·obtain ⟨k,rfl⟩:=d4
   exact ⟨z*(k:Int),by rw[me,Cc,<-hz,Jd];grind⟩
  ·exact h2 y hy
theorem Amw {M:Nat} {l:K'} (h : ∀ x∈l,∃ z:Int,(M:Rat)*x=(z:Rat)) : ∃ S:Nat,C7 l=(S:Rat)/\S ∣ M /\ ∀ x∈l,∃ z:Int,x*C7 l=(z:Rat):=by
 obtain ⟨S,e,d,_,h2⟩:=Uv l 1 (Nat.one_dvd M) h;refine ⟨S,e,d,λ x hx => ?_⟩;obtain ⟨z,hz⟩:=h2 x hx;exact ⟨z,by rw[Nh,<-hz];congr 1⟩
def KI:Nat->Nat->Nat
 | 0,_=>0
 | n+1,k=>KI n (2*k+1)+k+n+1
theorem Ue : ∀ (n k:Nat) (l:List (List Rat × Rat)),l.length=n->(∀ p∈l,p.1.length=n/\(∀ x∈p.1,Wh k x)/\Wh k p.2)->(∀ X:K',X.length=n->(∀ p∈l,AZ p.1 X=0) -> ∀ z∈X,z=0) ->
  ∃ (N:Rat) (v:K'),N≠0/\Wh (KI n k) N/\v.length=n/\(∀ x∈v,Wh (KI n k) x) /\ ∀ p∈l,AZ p.1 v=N*p.2
 | 0,k,l,hl,_,_=>⟨1,[],Y',Wh.one _,rfl,(λ x hx=>by cases hx),(λ p hp=>by rw[Cf.1 hl]at hp;cases hp)⟩
 | n+1,k,l,hl,hb,z9=>by
  have jy : ∀ p∈l,∃ (a:Rat) (t:K'),p.1=a::t/\t.length=n/\Wh k a/\(∀ x∈t,Wh k x):=λ p hp=>by
   obtain ⟨h1,h2,_⟩:=hb p hp;obtain ⟨p1,p2⟩:=p;cases p1 with
   | nil=>simp at h1
   | cons a t=>exact ⟨a,t,rfl,by simpa using h1,h2 a xc,λ x hx=>h2 x (Ga _ hx)⟩
  obtain ⟨p,hp,Fj⟩ : ∃ p∈l,p.1.headD 0≠0:=Classical.byContradiction λ Ca=>by
   have:=z9 (1::ya n 0) Z' (λ p hp=>by
    obtain ⟨a,t,e,ht,_,_⟩:=jy p hp;have ha:a=0:=Classical.byContradiction λ h=>Ca ⟨p,hp,by rw[e];exact h⟩
    rw[e,AZ,WC,ha];grind) 1 xc
   exact absurd this Y'
  obtain ⟨l1,l2,rfl⟩:=List.append_of_mem hp;obtain ⟨a,t,ep,ht,az,Le⟩:=jy p hp;have uz:a≠0:=by rw[ep]at Fj;exact Fj
  have Is:=(hb p hp).2.2;have ew : ∀ q,q∈l1++l2->q∈l1++p::l2:=λ q hq=>by
   rcases qe.1 hq with h|h
   ·exact kg _ h
   ·exact og _ (Ga _ h)
  have Bp : ∀ q,q∈l1++p::l2->q=p\/q∈l1++l2:=λ q hq=>by
   rcases qe.1 hq with h|h
   ·exact Or.inr (kg _ h)
   ·rcases kc.1 h with h|h
    ·exact Or.inl h
    ·exact Or.inr (og _ h)
  obtain ⟨N,v,n1,n2,n3,n4,n5⟩:=Ue n (2*k+1) ((l1++l2).map λ q=>(comb a (q.1.headD 0) 1 q.1.tail t,a*q.2-q.1.headD 0*p.2)) (by
   rw[Lc,wc];rw[wc,Ha]at hl;omega) (λ q' Cb=>by
    obtain ⟨q,hq,rfl⟩:=Ab.1 Cb;obtain ⟨c,s,eq,hs,hc,Ax⟩:=jy q (ew q hq);have qt:=(hb q (ew q hq)).2.2;simp only[eq,nf,bf];refine ⟨by rw[lI O'];exact hs,λ x hx => ?_,?_⟩
    ·obtain ⟨y,hy,w,hw,rfl⟩:=lJ hx
     rw[show (y*a-w*c)/1=y*a-w*c by rw[Ma];grind];exact ((((Ax y hy).mul az).sub ((Le w hw).mul hc))).le O'
    ·exact (((az.mul qt).sub (hc.mul Is))).le O') (λ X hX hk=>by
    have hz:=z9 (-(AZ t X)/a::X) (by rw[Ha,hX]) (λ q hq=>by
     have po:=Qc uz (a := -(AZ t X));rcases Bp q hq with rfl|xm
     ·rw[ep,AZ];grind
     ·obtain ⟨c,s,eq,hs,_,_⟩:=jy q hq
      have h1:=hk _ (Ab.2 ⟨q,xm,rfl⟩);simp only[eq,nf,bf]at h1;rw[dU a c 1 s t X O',show (a*AZ s X-c*AZ t X)/1=a*AZ s X-c*AZ t X by rw[Ma];grind]at h1;rw[eq,AZ];generalize -(AZ t X)/a=u at *;generalize AZ t X=w at *;generalize AZ s X=y at *;have h2:a*(c*u+y)=0:=A'
      rcases pc.1 h2 with h|h
      ·exact absurd h uz
      ·exact h)
    intro z mu;exact hz z (Ga _ mu))
  refine ⟨a*N,(N*p.2-AZ t v)::v.map (a * ·),?_,?_,by rw[Ha,Lc,n3],λ x hx => ?_,λ q hq => ?_⟩
  ·intro e
   rcases pc.1 e with e|e
   ·exact uz e
   ·exact n1 e
  ·exact (az.mul n2).le (by rw[KI];omega)
  ·rcases kc.1 hx with rfl|hx
   ·refine (((n2.mul Is).le (show KI n (2*k+1)+k<=KI n (2*k+1)+k+n by omega)).sub ((Wh.dot Le n4).le O')).le (by rw[KI];omega)
   ·obtain ⟨y,hy,rfl⟩:=Ab.1 hx
    exact (az.mul (n4 y hy)).le (by rw[KI];omega)
  ·have hm : ∀ s:K',AZ s (v.map (a * ·))=a*AZ s v:=λ s=>by rw[HN,X9,HN]
   rcases Bp q hq with rfl|xm
   ·rw[ep,AZ,hm];grind
   ·obtain ⟨c,s,eq,hs,_,_⟩:=jy q hq
    have h1:=n5 _ (Ab.2 ⟨q,xm,rfl⟩);simp only[eq,nf,bf]at h1;rw[dU a c 1 s t v O',show (a*AZ s v-c*AZ t v)/1=a*AZ s v-c*AZ t v by rw[Ma];grind]at h1;rw[eq,AZ,hm];grind
theorem AmP {n k:Nat} {a:J'} {b c:K'} (y9:a.length=n) (km : ∀ r∈a,r.length=n) (da:b.length=n) (ha : ∀ r∈a,∀ x∈r,Wh k x) (hb : ∀ x∈b,Wh k x) (z9:NS n a) (hc:c.length=n) (h : ∀ (i:Nat) (r:K') (s:Rat),a[i]? = some r->b[i]? = some s->AZ r c=s):Bs (2*KI n k) c:=by
 obtain ⟨N,v,n1,n2,n3,n4,n5⟩:=Ue n k (a.zip b) (by rw[List.length_zip];omega) (λ p hp=>by
  obtain ⟨h1,h2⟩:=List.of_mem_zip (a:=p.1) (b:=p.2) hp;exact ⟨km _ h1,ha _ h1,hb _ h2⟩) (λ X hX hk=>by
  have hz:=z9 X hX λ r hr=>by
   obtain ⟨i,hi⟩:=ua hr;obtain ⟨s,hs⟩:=H' b i (by have:=(zS hi).1;omega);exact hk (r,s) (zM (i:=i) (by rw[Nf];exact ⟨hi,hs⟩))
  intro z mu;obtain ⟨j,hj⟩:=ua mu;have:=hz j
  rw[za,hj]at this;exact this)
 have hNi:=Oe N n1;have e:c=v.map (· * N⁻¹):=Am2 km hc (by rw[Lc];exact n3) (by
  refine qb λ i => ?_
  simp only[EK,ga];cases hi:a[i]? with
  | none=>rfl
  | some r =>
   obtain ⟨s,hs⟩:=H' b i (by have:=(zS hi).1;omega);have h5:=n5 (r,s) (zM (i:=i) (by rw[Nf];exact ⟨hi,hs⟩));rw[Pb,Pb,h i r s hi hs,HN,WB,HN,h5];congr 1;grind) z9
 rw[e];intro x hx;obtain ⟨y,hy,rfl⟩:=Ab.1 hx;rw[<-Ma];exact ((n4 y hy).bt.Aa n2.bt).le O'
def ki (f:Rat) (r t:K'):K':=Ke (λ x y=>x-f*y) r t
theorem lF {f:Rat} {r t:K'} (h:r.length=t.length):(ki f r t).length=r.length:=by simp [ki,h]
theorem uO {f:Rat} {r t:K'} {j:Nat} {x y:Rat} (hx:r[j]? = some x) (hy:t[j]? = some y):(ki f r t)[j]? = some (x-f*y):=by
 simp [ki,nb,hx,hy]
theorem uQ {f:Rat} : ∀ {r t:K'} {z:Rat},z∈ki f r t -> ∃ x∈r,∃ y∈t,z=x-f*y
 | [],_,z,h=>by simp [ki]at h
 | _::_,[],z,h=>by simp [ki]at h
 | x::r,y::t,z,h=>by
  simp only[ki,Db,kc]at h;rcases h with rfl|h
  ·exact ⟨x,Z',y,Z',rfl⟩
  ·obtain ⟨a,ha,b,qk,e⟩:=uQ h
   exact ⟨a,by simp [ha],b,by simp [qk],e⟩
theorem lE (f:Rat) : ∀ (r t X:K'),r.length=t.length->AZ (ki f r t) X=AZ r X-f*AZ t X
 | [],[],X,_=>by
  show AZ [] X=_;simp only[AZ];grind
 | x::r,y::t,[],_=>by
  simp only[ki,Db,AZ];grind
 | x::r,y::t,z::X,h=>by
  have ih:=lE f r t X (by simpa using h);simp only[ki]at ih;simp only[ki,Db,AZ,ih];grind
theorem uP {f:Rat} {r t:K'} (h:r.length=t.length) (j:Nat):(ki f r t).getD j 0=r.getD j 0-f*t.getD j 0:=by
 rw[za,za,za];cases hx:r[j]? with
 | none =>
  have h1:=List.getElem?_eq_none_iff.1 hx;rw[va (by rw[lF h];exact h1),va (l:=t) O'];show (0:Rat)=0-f*0;grind
 | some x =>
  have h1:=(zS hx).1;obtain ⟨y,hy⟩:=H' t j;rw[uO hx hy,hy];rfl
theorem vI (l:K') (p:Rat) (j:Nat):(l.map (· / p)).getD j 0=l.getD j 0/p:=by
 rw[za,za,ga];cases l[j]? with
 | none=>show (0:Rat)=0/p;rw[Ma,Jb]
 | some x=>rfl
theorem lZ (p:Rat) : ∀ (r X:K'),AZ (r.map (· / p)) X=AZ r X/p
 | [],X=>by
  show AZ [] X=AZ [] X/p;simp only[AZ,Ma];grind
 | x::r,[]=>by simp only[Da,AZ,Ma];grind
 | x::r,z::X=>by
  have ih:=lZ p r X;simp only[Ma]at ih;simp only[Da,AZ,ih,Ma];grind
theorem eH {n i:Nat} {v:K'} (hv:v.length=n) (hi:i<n):AZ (B9 n i) v=v.getD i 0:=by
 have e:=congrArg (λ l=>l.getD i 0) (Ak1 hv);simp only[EK,oB,Oh]at e;rw[YM,if_pos hi]at e;exact e
structure E1 (T B:J') (n W:Nat) (m:J') (k c:Nat):Prop where
 len:m.length=n
 wid : ∀ r∈m,r.length=n+W
 ku : ∀ w:K',FK (C1 T B) w->FK m w
 kr : ∀ w:K',FK m w->FK (C1 T B) w
 le:k<=c
 cn:c<=n
 z7:k=c -> ∀ (i:Nat) (r:K'),m[i]? = some r -> ∀ j,j<c->r.getD j 0=if i=j then 1 else 0
 sk:k<c -> ¬ NS n T
theorem E1.start {T B:J'} {n W:Nat} (hT:Sq n T) (hB:B.length=n) (hW : ∀ r∈B,r.length=W):E1 T B n W (C1 T B) 0 0:=by
 refine ⟨?_,?_,λ_ h=>h,λ_ h=>h,sa _,Qd _,λ_ _ _ _ j h=>absurd h O',λ h=>absurd h O'⟩
 ·rw[C1,Qg,hT.l,hB,Nat.min_self]
 ·intro r hr
  obtain ⟨i,hi⟩:=ua hr;rw[C1,nb]at hi;cases ht:T[i]? with
  | none=>rw[ht]at hi;cases hi
  | some t =>
   cases hb:B[i]? with
   | none=>rw[ht,hb]at hi;cases hi
   | some b =>
    rw[ht,hb]at hi;obtain rfl:=oa hi;rw[wc,hT.at ht,hW b (zM hb)]
theorem E1.ns {T B:J'} {W:Nat} {n c:Nat} {m:J'} (h:E1 T B n W m c c) (hT:Sq n T) (Jz:B.length=n) (hc:c<n) (hz : ∀ (q:Nat) (r:K'),c<=q->m[q]? = some r->r.getD c 0=0) : ¬ NS n T:=by
 intro z9;have cq:=h.len;have lv:((m.take c).map λ r => -1*r.getD c 0).length=c:=by rw[Lc,ea];omega
 have Rh : ∀ (i:Nat) (r:K'),i<c->m[i]? = some r->((m.take c).map λ r => -1*r.getD c 0).getD i 0 = -1*r.getD c 0:=λ i r hi hr=>by
  rw[za,ga,Ed,if_pos hi,hr];rfl
 generalize ((m.take c).map λ r => -1*r.getD c 0)=x at *;have gd:(x++1::ya (n-c-1) (0:Rat)).length=n:=by simp [lv];omega
 have hK:FK m ((x++1::ya (n-c-1) (0:Rat))++ya W 0):=by
  intro r hr;obtain ⟨i,hi⟩:=ua hr;have w9:=(zS hi).1;have bh:=h.wid r hr;have e1:r=(r.take c++r.getD c 0::(r.drop (c+1)).take (n-c-1))++r.drop n:=by
   have e3:r.take n=r.take c++r.getD c 0::(r.drop (c+1)).take (n-c-1):=by
    have e4:(r.drop c).take (n-c)=r.getD c 0::(r.drop (c+1)).take (n-c-1):=by
     rw[tc (show c<r.length by omega),show n-c=(n-c-1)+1 by omega,eg,za,zE O'];simp
    rw[<-e4,<-List.take_add,show c+(n-c)=n by omega]
   rw[<-e3,ob]
  rw[e1,M9 _ _ _ _ (by simp [lv];omega),WC,M9 _ _ _ _ (by rw[ea,lv];omega),AZ,WC];by_cases hic:i<c
  ·have e2:r.take c=B9 c i:=by
    refine qb λ j => ?_
    by_cases hj:j<c
    ·obtain ⟨y,hy⟩:=H' r j
     have h3:=h.z7 rfl i r hi j hj;rw[za,hy]at h3;rw[Ed,if_pos hj,hy,B9,ga,La hj];show some y=some (if (j:Int)=(i:Int) then (1:Rat) else 0);rw[show y=(if i=j then 1 else 0:Rat) from h3];by_cases h5:i=j
     ·rw[if_pos h5,if_pos O']
     ·rw[if_neg h5,if_neg O']
    ·rw[va F',va (by rw[NW];omega)]
   rw[e2,eH lv hic,Rh i r hic hi];grind
  ·have e2:r.take c=ya c 0:=by
    refine qb λ j => ?_
    by_cases hj:j<c
    ·obtain ⟨y,hy⟩:=H' r j
     have h3:=h.z7 rfl i r hi j hj;rw[za,hy,if_neg O']at h3;rw[Ed,if_pos hj,hy,fc,if_pos hj];exact congrArg some h3
    ·rw[va F',va G']
   rw[e2,YB,hz i r O' hi];grind
 have yo:=h.kr _ hK;have hKT:FK T (x++1::ya (n-c-1) (0:Rat)):=by
  intro t ht;obtain ⟨i,hi⟩:=ua ht;have w9:=(zS hi).1;rw[hT.l]at w9;obtain ⟨b,hb⟩:=H' B i;have h1:=yo (t++b) (zM (i:=i) (by
   rw[C1,nb,hi,hb]))
  rw[M9 _ _ _ _ (by rw[hT.at hi,gd]),WC,zb]at h1;exact h1
 have h1:=z9 _ gd hKT c;rw[za,Ea O',lv,Jh]at h1;exact absurd (show (1:Rat)=0 from h1) Y'
theorem E1.skip {T B:J'} {W:Nat} {n k c:Nat} {m:J'} (h:E1 T B n W m k c) (hT:Sq n T) (Jz:B.length=n) (hc:c<n) (hz : ∀ (q:Nat) (r:K'),k<=q->m[q]? = some r->r.getD c 0=0):E1 T B n W m k (c+1):=by
 refine ⟨h.len,h.wid,h.ku,h.kr,Nat.le_succ_of_le h.le,hc,λ e=>absurd h.le O',λ_ => ?_⟩;by_cases e:k<c
 ·exact h.sk e
 ·have hle:=h.le
  obtain rfl:k=c:=O'
  exact h.ns hT Jz hc hz
theorem E1.swap {T B:J'} {W:Nat} {n k c i:Nat} {m:J'} {r t:K'} (h:E1 T B n W m k c) (hi:m[i]? = some r) (hk:m[k]? = some t) (Ff:k<=i):E1 T B n W ((m.set i t).set k r) k c:=by
 have w9:=(zS hi).1;have pq:=(zS hk).1;have az : ∀ (q:Nat) (x:K'),((m.set i t).set k r)[q]? = some x->(q=k/\x=r)\/(q≠k/\q=i/\x=t)\/(q≠k/\q≠i/\m[q]? = some x):=λ q x hx=>by
  rw[xa,xa,Ia]at hx;by_cases e1:k=q
  ·rw[if_pos e1,if_pos O']at hx
   exact Or.inl ⟨e1.symm,(oa hx).symm⟩
  ·rw[if_neg e1]at hx
   by_cases e2:i=q
   ·rw[if_pos e2,if_pos O']at hx
    exact Or.inr (Or.inl ⟨Ne.symm e1,e2.symm,(oa hx).symm⟩)
   ·rw[if_neg e2]at hx
    exact Or.inr (Or.inr ⟨Ne.symm e1,Ne.symm e2,hx⟩)
 have ew : ∀ x,x∈(m.set i t).set k r->x∈m:=λ x hx=>by
  obtain ⟨q,hq⟩:=ua hx;rcases az q x hq with ⟨_,rfl⟩|⟨_,_,rfl⟩|⟨_,_,h3⟩
  ·exact zM hi
  ·exact zM hk
  ·exact zM h3
 refine ⟨by rw[Ia,Ia];exact h.len,λ x hx=>h.wid x (ew x hx),λ v hv x hx=>h.ku v hv x (ew x hx),λ w hw=>h.kr w λ x hx => ?_,h.le,h.cn,?_,h.sk⟩
 ·obtain ⟨q,hq⟩:=ua hx
  have z0:AZ r w=0:=hw r (zM (i:=k) (by rw[xa,if_pos rfl,if_pos (by rw[Ia];exact pq)]));by_cases e1:q=i
  ·subst e1
   cases hi.symm.trans hq;exact z0
  ·by_cases e2:q=k
   ·subst e2
    cases hk.symm.trans hq;exact hw t (zM (i:=i) (by rw[xa,if_neg (Ne.symm (Ne.symm e1)),xa,if_pos rfl,if_pos w9]))
   ·exact hw x (zM (i:=q) (by rw[xa,if_neg (Ne.symm e2),xa,if_neg (Ne.symm e1)];exact hq))
 intro e q x hx j hj;rcases az q x hx with ⟨e1,rfl⟩|⟨_,e2,rfl⟩|⟨_,_,h3⟩
 ·rw[if_neg O',h.z7 e i x hi j hj,if_neg O']
 ·rw[if_neg O',h.z7 e k x hk j hj,if_neg O']
 ·exact h.z7 e q x h3 j hj
theorem E1.scale {T B:J'} {W:Nat} {n k c:Nat} {m:J'} {t:K'} (p:Rat) (h:E1 T B n W m k c) (hk:m[k]? = some t) (hp:p≠0):E1 T B n W (m.set k (t.map (· / p))) k c:=by
 refine ⟨by rw[Ia];exact h.len,?_,?_,λ w hw=>h.kr w λ x hx => ?_,h.le,h.cn,?_,h.sk⟩
 ·intro x hx
  rcases OS hx with rfl|⟨j,_,hj⟩
  ·rw[Lc];exact h.wid t (zM hk)
  ·exact h.wid x (zM hj)
 ·intro v hv x hx
  rcases OS hx with rfl|⟨j,_,hj⟩
  ·rw[lZ,h.ku v hv t (zM hk),Ma,Jb]
  ·exact h.ku v hv x (zM hj)
 ·obtain ⟨q,hq⟩:=ua hx
  have pq:=(zS hk).1;by_cases e:q=k
  ·subst e
   cases hk.symm.trans hq;have h1:=hw (t.map (· / p)) (zM (i:=q) (by rw[xa,if_pos rfl,if_pos pq]));rw[lZ]at h1;have h2:AZ t w=AZ t w/p*p:=by rw[Ma,kd,Rat.inv_mul_cancel _ hp,nc]
   rw[h2,h1,Jb]
  ·exact hw x (zM (i:=q) (by rw[xa,if_neg (Ne.symm e)];exact hq))
 ·intro e q x hx j hj
  rw[xa]at hx;by_cases e1:k=q
  ·rw[if_pos e1]at hx
   split at hx
   ·obtain rfl:=oa hx
    rw[vI,h.z7 e k t hk j hj,if_neg O',if_neg O',Ma,Jb]
   ·cases hx
  ·rw[if_neg e1]at hx
   exact h.z7 e q x hx j hj
structure LR (T B:J') (n W K:Nat) (k c:Nat) (t:K') (m:J') (i:Nat):Prop where
 red:E1 T B n W m k c
 ht:m[k]? = some t
 one:t.getD c 0=1
 dn : ∀ (q:Nat) (r:K'),q<i->q≠k->m[q]? = some r->r.getD c 0=0
 lo : ∀ (q:Nat) (r:K'),q<i->m[q]? = some r->Bs (4*K+1) r
 hi : ∀ (q:Nat) (r:K'),i<=q->q≠k->m[q]? = some r->Bs K r
 bt:Bs (2*K) t
theorem LR.start {T B:J'} {W:Nat} {n K k c:Nat} {m:J'} {t:K'} (h:E1 T B n W m k c) (hk:m[k]? = some t) (hp:t.getD c 0≠0) (hM : ∀ (q:Nat) (r:K'),m[q]? = some r->Bs K r):LR T B n W K k c (t.map (· / t.getD c 0)) (m.set k (t.map (· / t.getD c 0))) 0:=by
 have pq:=(zS hk).1;have pz:=hM k t hk;refine ⟨h.scale _ hk hp,by rw[xa,if_pos rfl,if_pos pq],by rw[vI,Ma,Oe _ hp],λ q r h1=>absurd h1 O',λ q r h1=>absurd h1 O',λ q r _ h2 hq => ?_,λ y hy => ?_⟩
 ·rw[xa,if_neg (Ne.symm h2)]at hq
  exact hM q r hq
 ·obtain ⟨z,hz,rfl⟩:=Ab.1 hy
  exact ((pz z hz).Aa (Bs.getD pz c)).le O'
theorem LR.same {T B:J'} {W:Nat} {n K k c i:Nat} {m:J'} {t:K'} (h:LR T B n W K k c t m i) (hz:i≠k -> ∀ r,m[i]? = some r->r.getD c 0=0):LR T B n W K k c t m (i+1):=by
 refine ⟨h.red,h.ht,h.one,λ q r h1 h2 hq => ?_,λ q r h1 hq => ?_,λ q r h1=>h.hi q r O',h.bt⟩
 ·by_cases e:q=i
  ·subst e;exact hz h2 r hq
  ·exact h.dn q r O' h2 hq
 ·by_cases e:q=i
  ·by_cases e2:q=k
   ·subst e2
    cases h.ht.symm.trans hq;exact λ y hy=>(h.bt y hy).le O'
   ·exact λ y hy=>(h.hi q r O' e2 hq y hy).le O'
  ·exact h.lo q r O' hq
theorem LR.step {T B:J'} {W:Nat} {n K k c i:Nat} {m:J'} {t r:K'} (h:LR T B n W K k c t m i) (hi:m[i]? = some r) (ou:i≠k):LR T B n W K k c t (m.set i (ki (r.getD c 0) r t)) (i+1):=by
 have w9:=(zS hi).1;have bh:=h.red.wid r (zM hi);have ct:=h.red.wid t (zM h.ht);have Je:r.length=t.length:=O'
 have az : ∀ (q:Nat) (x:K'),(m.set i (ki (r.getD c 0) r t))[q]? = some x->(q=i/\x=ki (r.getD c 0) r t)\/(q≠i/\m[q]? = some x):=λ q x hx=>by
  rw[xa]at hx;by_cases e:i=q
  ·rw[if_pos e,if_pos O']at hx
   exact Or.inl ⟨e.symm,(oa hx).symm⟩
  ·rw[if_neg e]at hx
   exact Or.inr ⟨Ne.symm e,hx⟩
 refine ⟨⟨by rw[Ia];exact h.red.len,?_,?_,λ w hw=>h.red.kr w λ x hx => ?_,h.red.le,h.red.cn,?_,h.red.sk⟩,by rw[xa,if_neg ou];exact h.ht,h.one,?_,?_,?_,h.bt⟩
 ·intro x hx
  obtain ⟨q,hq⟩:=ua hx;rcases az q x hq with ⟨_,rfl⟩|⟨_,h2⟩
  ·rw[lF Je];exact bh
  ·exact h.red.wid x (zM h2)
 ·intro v hv x hx
  obtain ⟨q,hq⟩:=ua hx;rcases az q x hq with ⟨_,rfl⟩|⟨_,h2⟩
  ·rw[lE _ _ _ _ Je,h.red.ku v hv r (zM hi),h.red.ku v hv t (zM h.ht)]
   grind
  ·exact h.red.ku v hv x (zM h2)
 ·obtain ⟨q,hq⟩:=ua hx
  have zm:AZ t w=0:=hw t (zM (i:=k) (by rw[xa,if_neg ou];exact h.ht));by_cases e:q=i
  ·subst e
   cases hi.symm.trans hq;have h1:=hw _ (zM (i:=q) (by rw[xa,if_pos rfl,if_pos w9]));rw[lE _ _ _ _ Je,zm]at h1;grind
  ·exact hw x (zM (i:=q) (by rw[xa,if_neg (Ne.symm e)];exact hq))
 ·intro e q x hx j hj
  rcases az q x hx with ⟨e1,rfl⟩|⟨_,h2⟩
  ·rw[uP Je,h.red.z7 e i r hi j hj,h.red.z7 e k t h.ht j hj,e1,if_neg (show ¬ k=j by omega)]
   grind
  ·exact h.red.z7 e q x h2 j hj
 ·intro q x h1 h2 hx
  rcases az q x hx with ⟨e1,rfl⟩|⟨e1,h3⟩
  ·rw[uP Je,h.one];grind
  ·exact h.dn q x O' h2 h3
 ·intro q x h1 hx
  rcases az q x hx with ⟨e1,rfl⟩|⟨e1,h3⟩
  ·intro y hy
   obtain ⟨a,ha,b,qk,rfl⟩:=uQ hy;have Hk:=h.hi i r (sa _) ou hi;exact ((Hk a ha).pf ((Bs.getD Hk c).mul (h.bt b qk))).le O'
  ·exact h.lo q x O' h3
 ·intro q x h1 h2 hx
  rcases az q x hx with ⟨e1,rfl⟩|⟨e1,h3⟩
  ·omega
  ·exact h.hi q x O' h2 h3
theorem LR.fin {T B:J'} {W:Nat} {n K k c:Nat} {m:J'} {t:K'} (h:LR T B n W K k c t m n) (hc:c<n):E1 T B n W m (k+1) (c+1) /\ ∀ (q:Nat) (r:K'),m[q]? = some r->Bs (4*K+1) r:=by
 have j9 : ∀ (q:Nat) (r:K'),m[q]? = some r->q<n:=λ q r hq=>by
  have:=(zS hq).1
  rw[h.red.len]at this;exact this
 refine ⟨⟨h.red.len,h.red.wid,h.red.ku,h.red.kr,Nat.succ_le_succ h.red.le,hc,λ e q r hq j hj => ?_,λ AAE=>h.red.sk O'⟩,λ q r hq=>h.lo q r (j9 q r hq) hq⟩;have e2:k=c:=O'
 by_cases e3:j=c
 ·by_cases e4:q=k
  ·subst e4
   cases h.ht.symm.trans hq;rw[e3,h.one,if_pos e2]
  ·rw[e3,h.dn q r (j9 q r hq) e4 hq,if_neg O']
 ·exact h.red.z7 e2 q r hq j O'
theorem E1.row {T B:J'} {n W i:Nat} {m:J'} {r:K'} (h:E1 T B n W m n n) (hi:m[i]? = some r):r.take n=B9 n i:=by
 have bh:=h.wid r (zM hi);refine qb λ j => ?_
 by_cases hj:j<n
 ·obtain ⟨y,hy⟩:=H' r j
  have h3:=h.z7 rfl i r hi j hj;rw[za,hy]at h3;rw[Ed,if_pos hj,hy,B9,ga,La hj];show some y=some _;rw[show y=(if i=j then 1 else 0:Rat) from h3];show some (if i=j then (1:Rat) else 0)=some (if (j:Int)=(i:Int) then (1:Rat) else 0);by_cases h5:i=j
  ·rw[if_pos h5,if_pos O']
  ·rw[if_neg h5,if_neg O']
 ·rw[va F',va (by rw[NW];omega)]
theorem E1.Rw {T:J'} {b:K'} {n:Nat} {m:J'} (h:E1 T (b.map λ x=>[x]) n 1 m n n) (hT:Sq n T) (hb:b.length=n) : ∀ (i:Nat) (t:K') (s:Rat),T[i]? = some t->b[i]? = some s->AZ t (m.map λ r=>r.getD n 0)=s:=by
 intro i t s ht hs;have rf:(m.map λ r=>r.getD n 0).length=n:=by rw[Lc];exact h.len
 have hK:FK m ((m.map λ r=>r.getD n 0)++[-1]):=by
  intro r hr;obtain ⟨j,hj⟩:=ua hr;have db:=(zS hj).1;rw[h.len]at db;have bh:=h.wid r hr;rw[<-ob n r,M9 _ _ _ _ (by rw[ea,rf];omega),h.row hj,eH rf db];have e1:(m.map λ r=>r.getD n 0).getD j 0=r.getD n 0:=by
   rw[za,ga,hj];rfl
  have e2:r.drop n=[r.getD n 0]:=by
   rw[tc O',qa O',za,zE O'];rfl
  rw[e1,e2];simp only[AZ];grind
 have h1:=h.kr _ hK (t++[s]) (zM (i:=i) (by
  rw[C1,nb,ht,ga,hs];rfl))
 rw[M9 _ _ _ _ (by rw[hT.at ht,rf])]at h1;simp only[AZ]at h1;grind
theorem E1.nsT {T B:J'} {n W:Nat} {m:J'} (h:E1 T B n W m n n) (hT:Sq n T):NS n T:=by
 intro X hX hk j;have hK:FK (C1 T B) (X++ya W 0):=by
  intro r hr;obtain ⟨i,hi⟩:=ua hr;rw[C1,nb]at hi;cases ht:T[i]? with
  | none=>rw[ht]at hi;cases hi
  | some t =>
   cases hb:B[i]? with
   | none=>rw[ht,hb]at hi;cases hi
   | some b =>
    rw[ht,hb]at hi;obtain rfl:=oa hi;rw[M9 _ _ _ _ (by rw[hT.at ht,hX]),WC,zb];exact hk t (zM ht)
 have hm:=h.ku _ hK;by_cases hj:j<n
 ·obtain ⟨r,hr⟩:=H' m j (by rw[h.len];exact hj)
  have h1:=hm r (zM hr);have bh:=h.wid r (zM hr);rw[<-ob n r,M9 _ _ _ _ (by rw[ea,hX];omega),WC,h.row hr,eH hX hj,zb]at h1;exact h1
 ·rw[za,va O'];rfl
def FC (D M:Nat) (x:Rat):Prop := ∃ z:Int,x*((D:Int):Rat)=(z:Rat)/\z.natAbs<=M
theorem FC.zero (D M:Nat):FC D M 0:=⟨0,by rw[Jb];rfl,Z'⟩
theorem FC.le {D M N:Nat} {x:Rat} (h:FC D M x) (hn:M<=N):FC D N x:=by
 obtain ⟨z,h1,h2⟩:=h;exact ⟨z,h1,Mc h2 hn⟩
theorem FC.mul {D E M N:Nat} {x y:Rat} (hx:FC D M x) (hy:FC E N y):FC (D*E) (M*N) (x*y):=by
 obtain ⟨z,h1,h2⟩:=hx;obtain ⟨w,h3,h4⟩:=hy;refine ⟨z*w,?_,by rw[Eb];exact ec h2 h4⟩;rw[xd,Cc,Cc,<-h1,<-h3];grind
theorem FC.add {D M N:Nat} {x y:Rat} (hx:FC D M x) (hy:FC D N y):FC D (M+N) (x+y):=by
 obtain ⟨z,h1,h2⟩:=hx;obtain ⟨w,h3,h4⟩:=hy;refine ⟨z+w,?_,Mc (Ae _ _) (Nat.add_le_add h2 h4)⟩;rw[oh,<-h1,<-h3];grind
theorem FC.up {D M:Nat} {x:Rat} (h:FC D M x) (E:Nat):FC (D*E) (M*E) x:=by
 have h1:FC E E 1:=⟨E,by rw[yf],Z'⟩;have:=h.mul h1
 rwa [nc]at this
end Go.c6

namespace Go.c6
open F
attribute [local irreducible] AA AF AL AC CQ AW BA A8 B3 BL CN D4 BP A1 B6 CF AB BG AH pw BV BO CS CY C2 BX CG BU CX
variable {L:Lib}
theorem mQ (I:e8 L) (D:m6 L) (b a:List Int) (q1 q2:Bool) (d c:Wd) (hd:WV d) (hc:WV c) (l1:1<=b.length/\b.length<=49) (l2:a.length<=8) (hb : ∀ v∈b,FT c v) (ha : ∀ v∈a,FT c v/\FT c (-v)) :
  Ev L 46 [.sl q1 (b.map C0),.sl q2 (a.map C0),.agg (GY d),.agg (GY c)] (.int .i64 0):=by
 have hav : ∀ v∈a,-16777216<=v/\v<=16777216:=λ v hv=>by
  obtain ⟨_,e1,e2⟩:=(ha v hv).1;obtain ⟨h1,h2,h3,h4⟩:=Q1 hc;omega
 refine Ev.x D.LU rfl rfl ?_;repeat' (first|(apply AG<;>intro hc<;>try omega)|apply AR|apply AE|refine FE (QP ⟨_,_,_,_⟩ I) (λ hf => ?_) (λ hf => ?_))<;>conv=>whnf
 all_goals try (exact absurd hd V')
 all_goals try (exact absurd hc V')
 refine CE (λ i=>b.length-i) (λ(i:Nat)=>i<=b.length) (λ i=>[(36,.int .i64 i)]) (λ_=>[]) 0 O' ?_;intro i p1 ih;repeat' (first|(apply AG<;>intro hc<;>try omega)|(apply AP;omega)|apply AR|(refine LP ?_ (λ_=>rfl) (λ e he => ?_);omega)|apply AE|refine FE (WH ⟨_,_,_,_⟩ I _) (λ hf => ?_) (λ hf => ?_))<;>conv=>whnf
 ·exact A9 [] (ih (i+1) O' O')
 ·exact absurd (hb _ (zM he)) hf
 refine CE (λ i=>a.length-i) (λ(i:Nat)=>i<=a.length) (λ i=>[(47,.int .i64 i)]) (λ_=>[]) 0 O' ?_;intro i p1 ih;repeat' (first|(apply AG<;>intro hc<;>try omega)|(refine LP ?_ (λ_=>rfl) (λ e he => ?_);omega)|apply AE|refine FE (WH ⟨_,_,_,_⟩ I _) (λ hf => ?_) (λ hf => ?_))<;>conv=>whnf
 ·have hfe:=hav _ (zM he)
  repeat' (first|(apply AP;omega)|(apply CQ.neg;omega)|refine FE (WH ⟨_,_,_,_⟩ I _) (λ hf => ?_) (λ hf => ?_))<;>conv=>whnf
  ·exact A9 [] (ih (i+1) O' O')
  ·exact absurd (ha _ (zM he)).2 hf
 ·exact absurd (ha _ (zM he)).1 hf
 ·exact CJ rfl
theorem kZ (ts:List (Int × Int)):EZ (ts.map H5):=QK (λ_=>by simp [B7,A3]) ts
def EH (l:List Int) (sg fr:Int):List (Int × Int):=(Rb l.length).map λ i:Nat=>(fr+i,sg*l.getD i 0)
theorem LE (l:List Int) (sg fr:Int):(EH l sg fr).length=l.length:=by simp [EH]
theorem Al6 {l:List Int} {i:Nat} {v:Int} (sg fr:Int) (h:l[i]? = some v):(EH l sg fr)[i]? = some (fr+i,sg*v):=by
 have hi:=(zS h).1;simp only[EH,ga,La hi,Pb,za,h,Me]
theorem QO (D:m6 L) (l:List Int) (q:Bool) (sg fr:Int) (hl:l.length<=1000000) (hs:sg=1\/sg = -1) (hf:0<=fr/\fr<=1000000) (hv : ∀ v∈l,-1000000000000<=v/\v<=1000000000000):Ev L 47 [.sl q (l.map C0),.int .i64 sg,.int .i64 fr] (.sl false ((EH l sg fr).map H5)):=by
 have hF:=LE l sg fr;refine Ev.x D.OK rfl rfl ?_;repeat' (first|apply AR|apply AE)<;>conv=>whnf
 refine DW (enc:=H5) (0,0) l.length rfl rfl O' ?_;conv=>whnf
 (repeat' (apply AR<;>conv=>whnf))
 refine ZI (λ i _=>l.length-i) (λ(i:Nat) (o:List (Int × Int))=>i<=l.length/\o.length=(EH l sg fr).length/\o.take i=(EH l sg fr).take i) (λ i o=>[(7,.row 12 0 2 0 o.length),(15,.int .i64 i)]) (λ i o=>[(12,12,.rw 2 (o.map H5))]) [] [] 0 (ya l.length (0,0)) (by rw[Jc];exact B') ⟨O',by simp [hF],Z'⟩ ?_;intro i o ⟨p1,p2,p3⟩ ih;by_cases hi:i<l.length
 ·obtain ⟨v,Fq⟩:=H' l i hi
  have Lh:=hv v (zM Fq);have hmul : -1000000000000<=sg*v/\sg*v<=1000000000000:=by rcases hs with rfl|rfl<;>omega
  obtain ⟨f1,f2⟩:=SS p2 p3 (Al6 sg fr Fq);repeat' (first|(apply AG<;>intro hc<;>try omega)|(apply AX;omega)|(apply AP;omega)|(apply FL;omega)|(refine A4 V' ?_ rfl ?_;omega)|apply AE)<;>conv=>whnf
  refine E5 (enc:=H5) (fr+i,sg*v) rfl (λ_=>rfl) O' ?_;conv=>whnf
  repeat' (first|(apply AP;omega)|fail)<;>conv=>whnf
  exact BN [] (by rw[Ia];exact B') (ih (i+1) (o.set i (fr+i,sg*v)) O' ⟨O',f1,f2⟩)
 ·have ho:=fK p2 p3 O'
  repeat' (first|(apply AG<;>intro hc<;>try omega)|(refine C8 (λ_=>rfl) rfl ?_ ?_;(first|rfl|simp))|apply AE)<;>conv=>whnf
  exact AY (by rw[ho]) (by simp [A3,kZ])
def HP (l:List Nd):List (Int × Int):=l.flatMap λ n=>n.ts
theorem aE (D:m6 L) (l:List Nd) (q:Bool) (iv:(HP l).length<=1000000) (hl:l.length<=1000000):Ev L 48 [.sl q (l.map SL)] (.sl false ((HP l).map H5)):=by
 refine Ev.x D.OJ rfl rfl ?_;repeat' (first|apply AR|apply AE)<;>conv=>whnf
 refine FJ (λ i _=>l.length-i) (λ(i:Nat) (o:List (Int × Int))=>i<=l.length/\o=HP (l.take i)) (λ i o=>[(3,.row 3 0 2 0 o.length),(8,.int .i64 i)]) (λ i o=>[(3,3,.rw 2 (o.map H5))]) 0 [] ⟨O',rfl⟩ ?_;intro i o ⟨p1,p2⟩ ih;repeat' (first|(apply AG<;>intro hc<;>try omega)|(refine LP ?_ (λ_=>rfl) (λ e he => ?_);omega)|(refine C8 (λ_=>rfl) rfl ?_ ?_;(first|rfl|simp))|apply AE)<;>conv=>whnf
 ·have hj:HP (l.take (i+1))=o++e.ts:=by
   rw[Ic,he,p2];simp [HP]
  have hle:o.length+e.ts.length<=1000000:=by
   have:HP l=HP (l.take (i+1))++HP (l.drop (i+1)):=by
    unfold HP;rw[<-List.flatMap_append,ob]
   rw[this,hj]at iv;simp at iv;omega
  refine ZK (enc:=H5) rfl (λ_=>rfl) O' O' ?_;conv=>whnf
  repeat' (first|(apply AP;omega)|fail)<;>conv=>whnf
  exact BN [(3,14)] B' (ih (i+1) _ O' ⟨O',hj.symm⟩)
 ·rw[zT O']at p2
  exact AY (by rw[p2]) (by simp [A3,kZ])
theorem uF : ∀ (l:List Nd),(∀ n∈l,n.q=false)->EZ (l.map SL)
 | [],_=>by simp [EZ]
 | n::r,h=>by
  simp only[Da,EZ,B7,A3,and_true];exact ⟨⟨h n Z',kZ _⟩,uF r λ m hm=>h m (Ga _ hm)⟩
theorem wL (n:Nt) (h1:n.qn=false) (h2:n.qx=false) (h3 : ∀ m∈n.nodes,m.q=false):B7 (FG n):=by
 simp only[B7,A3,true_and,and_true];exact ⟨⟨h1,uF _ h3⟩,h2,uC _⟩
theorem YX (n:Nt) (h1:n.qn=false) (h2:n.qx=false) (h3 : ∀ m∈n.nodes,m.q=false):A3 (.c5 [.agg (FG n),.int .i64 0]):=by
 have h:=wL n h1 h2 h3;simp only[A3,B7,and_true,true_and]at h ⊢;exact h
def H4 (n:Nat) (first source:Int):List Int:=(Rb n).map λ i:Nat=>if i=0 then source else first+i-1
theorem lQ {n i:Nat} {first source:Int} (h:i<n):(H4 n first source)[i]? = some (if i=0 then source else first+i-1):=by
 simp only[H4,ga,La h,Pb]
theorem VU {c:Wd} (hc:WV c) {v:Int} (h:FT c v) : -1000000000000<=v/\v<=1000000000000:=by
 obtain ⟨_,e1,e2⟩:=h;obtain ⟨h1,h2,h3,h4⟩:=Q1 hc;omega
def GL (b a:List Int) (d c:Wd):Nt :=
 ⟨d,c,((b.length-1+a.length:Nat):Int),false,[⟨false,EH b 1 0++EH a (-1) b.length⟩],false,H4 (b.length-1) 1 0++H4 a.length b.length ((b.length+a.length:Nat):Int),((b.length+a.length:Nat):Int)⟩
theorem AhH (I:e8 L) (D:m6 L) (b a:List Int) (q1 q2:Bool) (d c:Wd) (hd:WV d) (hc:WV c) (l1:1<=b.length/\b.length<=49) (l2:a.length<=8) (hb : ∀ v∈b,FT c v) (ha : ∀ v∈a,FT c v/\FT c (-v)) :
  Ev L 50 [.sl q1 (b.map C0),.sl q2 (a.map C0),.agg (GY d),.agg (GY c)] (.c5 [.agg (FG (GL b a d c)),.int .i64 0]):=by
 have hw:=λ q q'=>mQ I D b a q q' d c hd hc l1 l2 hb ha
 have r1:=λ q=>QO D b q 1 0 O' (Or.inl rfl) O' (λ v hv=>VU hc (hb v hv))
 have r2:=λ q=>QO D a q (-1) ((b.length:Int)-1+1) O' (Or.inr rfl) O' (λ v hv=>VU hc (ha v hv).1)
 have r3:=λ q q' Jw=>aE D [⟨q,EH b 1 0⟩,⟨q',EH a (-1) ((b.length:Int)-1+1)⟩] Jw (by simp [HP,LE];omega) Z'
 generalize hF:H4 (b.length-1) 1 0++H4 a.length b.length ((b.length+a.length:Nat):Int)=F;have Bk:F.length=b.length-1+a.length:=by rw[<-hF];simp [H4]
 have Cz : ∀ i:Nat,i<b.length-1->F[i]? = some (if i=0 then (0:Int) else 1+i-1):=λ i hi=>by
  rw[<-hF,ub (by simp [H4];omega)];exact lQ hi
 have Kb : ∀ i:Nat,i<a.length->F[b.length-1+i]? = some (if i=0 then ((b.length+a.length:Nat):Int) else b.length+i-1):=λ i hi=>by
  rw[<-hF,Ea (by simp [H4])];have:b.length-1+i-(H4 (b.length-1) 1 0).length=i:=by simp [H4]
  rw[this];exact lQ hi
 refine Ev.x D.SF rfl rfl ?_;repeat' (first|(apply AG<;>intro hc<;>try omega)|(apply AP;omega)|(apply BS;omega)|apply AR|apply AE|refine AD (hw _ _) ?_)<;>conv=>whnf
 refine DW (enc:=C0) 0 (b.length-1+a.length) rfl O' O' ?_;conv=>whnf
 repeat' (first|(apply AP;omega)|refine JJ rfl rfl ?_|refine AD (r1 _) ?_|refine AD (r2 _) ?_|refine AD (r3 _ _ _) ?_)<;>conv=>whnf
 refine HV (b.length-1) O' O' ?_;conv=>whnf
 refine GU 1000 D.KD rfl rfl ?_;(repeat' (apply AE<;>conv=>whnf))
 refine FJ (λ i _=>b.length-1-i) (λ(i:Nat) (o:List Int)=>i<=b.length-1/\o.length=F.length/\o.take i=F.take i) (λ i o=>[(9,.int .i64 i)]) (λ i o=>[(34,34,.rw 1 (o.map C0))]) 0 (ya (b.length-1+a.length) 0) ⟨O',by simp [Bk],Z'⟩ ?_;intro i o ⟨p1,p2,p3⟩ ih;repeat' (first|(apply AG<;>intro hc<;>try omega)|(apply AX;omega)|(apply AP;omega)|(apply BS;omega)|apply AE)<;>conv=>whnf
 ·obtain ⟨f1,f2⟩:=SS p2 p3 (Cz i O')
  refine LQ i (if i=0 then (0:Int) else 1+i-1) O' (by rw[if_pos O']) (λ_=>rfl) O' ?_;conv=>whnf
  repeat' (first|(apply AP;omega)|fail)<;>conv=>whnf
  exact BN [] B' (ih (i+1) _ O' ⟨O',f1,f2⟩)
 ·obtain ⟨f1,f2⟩:=SS p2 p3 (Cz i O')
  refine LQ i (if i=0 then (0:Int) else 1+i-1) O' (by rw[if_neg O']) (λ_=>rfl) O' ?_;conv=>whnf
  repeat' (first|(apply AP;omega)|fail)<;>conv=>whnf
  exact BN [] B' (ih (i+1) _ O' ⟨O',f1,f2⟩)
 obtain rfl:i=b.length-1:=O'
 refine ⟨rfl,_,rfl,?_⟩;conv=>whnf
 skip
 refine rU (b.length-1) O' O' ?_;conv=>whnf
 repeat' (first|(apply AP;omega)|fail)<;>conv=>whnf
 refine GU 1000 D.KD rfl rfl ?_;(repeat' (apply AE<;>conv=>whnf))
 refine FJ (λ i _=>a.length-i) (λ(i:Nat) (o:List Int)=>i<=a.length/\o.length=F.length/\o.take (b.length-1+i)=F.take (b.length-1+i)) (λ i o=>[(9,.int .i64 i)]) (λ i o=>[(34,34,.rw 1 (o.map C0))]) 0 o ⟨O',p2,p3⟩ ?_;clear p1 p2 p3 ih;intro i o ⟨p1,p2,p3⟩ ih;repeat' (first|(apply AG<;>intro hc<;>try omega)|(apply AX;omega)|(apply AP;omega)|(apply BS;omega)|apply AE)<;>conv=>whnf
 ·obtain ⟨f1,f2⟩:=SS p2 p3 (Kb i O')
  refine LQ (b.length-1+i) (if i=0 then ((b.length+a.length:Nat):Int) else b.length+i-1) O' (by rw[if_pos O'];simp only[mf,AV.int.injEq,true_and,and_true];omega) (λ_=>rfl) O' ?_;conv=>whnf
  repeat' (first|(apply AP;omega)|fail)<;>conv=>whnf
  exact BN [] B' (ih (i+1) _ O' ⟨O',f1,f2⟩)
 ·obtain ⟨f1,f2⟩:=SS p2 p3 (Kb i O')
  refine LQ (b.length-1+i) (if i=0 then ((b.length+a.length:Nat):Int) else b.length+i-1) O' (by rw[if_neg O'];simp only[mf,AV.int.injEq,true_and,and_true];omega) (λ_=>rfl) O' ?_;conv=>whnf
  repeat' (first|(apply AP;omega)|fail)<;>conv=>whnf
  exact BN [] B' (ih (i+1) _ O' ⟨O',f1,f2⟩)
 have ho:=fK p2 p3 O';subst ho;refine ⟨rfl,_,rfl,?_⟩;conv=>whnf
 (repeat' (refine GS rfl ?_<;>conv=>whnf))
 refine C8 (enc:=C0) (λ_=>rfl) rfl Bk.symm ?_;conv=>whnf
 skip
 have e1:(b.length:Int)-1+1=b.length:=O'
 have e2:(b.length:Int)-1+a.length=((b.length-1+a.length:Nat):Int):=O'
 have e3:(b.length:Int)-1+a.length+1=((b.length+a.length:Nat):Int):=O'
 refine AY ?_ ?_
 ·rw[e1,e3,e2]
  simp only[GL,hF,Da,Gd,HP,Fg,Ag,oe];rfl
 ·exact YX (GL b a d c) rfl rfl (by simp [GL])
def CM (b a:List Int):Nat:=max (b.length-1) a.length
def GM (b a:List Int) (d c:Wd):Nt :=
 ⟨d,c,(CM b a:Int),false,[⟨false,EH [pw c.f] 1 0++EH a (-1) 1⟩,⟨false,EH (b.take 1) 1 (CM b a+1)++EH (b.drop 1) 1 1⟩],false,H4 (CM b a) 1 (CM b a+1),CM b a+1+1⟩
theorem AhI (I:e8 L) (D:m6 L) (b a:List Int) (q1 q2:Bool) (d c:Wd) (hd:WV d) (hc:WV c) (l1:1<=b.length/\b.length<=49) (l2:a.length<=8) (hb : ∀ v∈b,FT c v) (ha : ∀ v∈a,FT c v/\FT c (-v)) :
  Ev L 51 [.sl q1 (b.map C0),.sl q2 (a.map C0),.agg (GY d),.agg (GY c)] (.c5 [.agg (FG (GM b a d c)),.int .i64 0]):=by
 have hw:=λ q q'=>mQ I D b a q q' d c hd hc l1 l2 hb ha
 have o7:=hc;unfold WV at o7;have ov:=NL (n:=c.f) (m:=23) O';have xi:pw 23=8388608:=by unfold pw;rfl
 have vd:=HF c.f;have r1:=λ q=>QO D [pw c.f] q 1 0 Z' (Or.inl rfl) O' G'
 have r2:=λ q=>QO D a q (-1) 1 O' (Or.inr rfl) O' (λ v hv=>VU hc (ha v hv).1)
 have r3:=λ q=>QO D (b.take 1) q 1 (CM b a+1) G' (Or.inl rfl) (by unfold CM;omega) (λ v hv=>VU hc (hb v (dd hv)))
 have r4:=λ q=>QO D (b.drop 1) q 1 1 G' (Or.inl rfl) O' (λ v hv=>VU hc (hb v (ae hv)))
 have j1:=λ q q' Jw=>aE D [⟨q,EH [pw c.f] 1 0⟩,⟨q',EH a (-1) 1⟩] Jw (by simp [HP,LE];omega) Z'
 have j2:=λ q q' Jw=>aE D [⟨q,EH (b.take 1) 1 (CM b a+1)⟩,⟨q',EH (b.drop 1) 1 1⟩] Jw (by simp [HP,LE];omega) Z'
 generalize hF:H4 (CM b a) 1 ((CM b a:Int)+1)=F;have Bk:F.length=CM b a:=by rw[<-hF];simp [H4]
 have Cz : ∀ i:Nat,i<CM b a->F[i]? = some (if i=0 then ((CM b a:Int)+1) else 1+i-1):=λ i hi=>by
  rw[<-hF];exact lQ hi
 have iy:(CM b a:Int)<=1000:=by unfold CM;omega
 refine Ev.x D.SG rfl rfl ?_;repeat' (first|(apply AG<;>intro hc<;>try omega)|(apply AP;omega)|(apply BS;omega)|apply AR|apply AE|refine AD (hw _ _) ?_)<;>conv=>whnf
 all_goals first|rw[show (a.length:Int)=(CM b a:Int) by unfold CM;omega]|rw[show (b.length:Int)-1=(CM b a:Int) by unfold CM;omega]
 all_goals (
  generalize hmm:CM b a=mx at *;refine DW (enc:=C0) 0 mx rfl rfl O' ?_;conv=>whnf
  repeat' (first|(apply AP;omega)|(refine F3 ?_ (λ_ _ => ?_);omega)|refine GS rfl ?_|refine JJ rfl rfl ?_|refine AD (r1 _) ?_|refine AD (r2 _) ?_|refine AD (j1 _ _ _) ?_)<;>conv=>whnf
  refine M5 (k:=1) (λ_=>rfl) O' ?_;conv=>whnf
  (repeat' (refine AD (r3 _) ?_<;>conv=>whnf))
  refine sP (k:=1) (λ_=>rfl) O' ?_;conv=>whnf
  repeat' (first|refine JJ rfl rfl ?_|refine AD (r4 _) ?_|refine AD (j2 _ _ _) ?_)<;>conv=>whnf
  refine GU 1000 D.KD rfl rfl ?_;(repeat' (apply AE<;>conv=>whnf))
  refine FJ (λ i _=>mx-i) (λ(i:Nat) (o:List Int)=>i<=mx/\o.length=F.length/\o.take i=F.take i) (λ i o=>[(9,.int .i64 i)]) (λ i o=>[(36,36,.rw 1 (o.map C0))]) 0 (ya mx 0) ⟨O',by simp [Bk],Z'⟩ ?_;intro i o ⟨p1,p2,p3⟩ ih;repeat' (first|(apply AG<;>intro hc<;>try omega)|(apply AX;omega)|(apply AP;omega)|(apply BS;omega)|apply AE)<;>conv=>whnf
  ·obtain ⟨f1,f2⟩:=SS p2 p3 (Cz i O')
   refine LQ i (if i=0 then ((mx:Int)+1) else 1+i-1) O' (by rw[if_pos O']) (λ_=>rfl) O' ?_;conv=>whnf
   repeat' (first|(apply AP;omega)|fail)<;>conv=>whnf
   exact BN [] B' (ih (i+1) _ O' ⟨O',f1,f2⟩)
  ·obtain ⟨f1,f2⟩:=SS p2 p3 (Cz i O')
   refine LQ i (if i=0 then ((mx:Int)+1) else 1+i-1) O' (by rw[if_neg O']) (λ_=>rfl) O' ?_;conv=>whnf
   repeat' (first|(apply AP;omega)|fail)<;>conv=>whnf
   exact BN [] B' (ih (i+1) _ O' ⟨O',f1,f2⟩)
  have ho:=fK p2 p3 O';subst ho;refine ⟨rfl,_,rfl,?_⟩;conv=>whnf
  (repeat' (refine JJ rfl rfl ?_<;>conv=>whnf))
  refine C8 (enc:=C0) (λ_=>rfl) rfl Bk.symm ?_;conv=>whnf
  refine AY ?_ ?_
  ·simp only[GM,hF,hmm,Da,Gd,HP,Fg,Ag,oe]
   rfl
  ·exact YX (GM b a d c) rfl rfl (by simp [GM]))
theorem Sk {A B C:List (Int × Int)} (h:A.length<=100) (h2:B.length+C.length<=1000):(A++B).length+C.length<=1000000:=by rw[wc];omega
theorem xL (D:m6 L) (A B:List (Int × Int)) (q q1 q2:Bool) (h:A.length+B.length<=1000000):Ev L 48 [.sl q [[.sl q1 (A.map H5)],[.sl q2 (B.map H5)]]] (.sl false ((A++B).map H5)):=by
 have:=aE D [⟨q1,A⟩,⟨q2,B⟩] q (by simpa [HP] using h) Z'
 simpa [HP] using this
theorem xK (D:m6 L) (B:List (Int × Int)) (q q1 q2:Bool) (h:B.length<=1000000):Ev L 48 [.sl q [[.sl q1 []],[.sl q2 (B.map H5)]]] (.sl false (B.map H5)):=by
 have:=aE D [⟨q1,[]⟩,⟨q2,B⟩] q (by simpa [HP] using h) Z'
 rw[show HP [⟨q1,[]⟩,⟨q2,B⟩]=B by simp [HP]]at this;exact this
def P7 (b a:List Int) (c:Wd) (mx k:Nat):List (Int × Int) :=
 (if k<b.length then EH ((b.take (k+1)).drop k) 1 0 else [])++(if 1<=k/\k<=a.length then EH ((a.take k).drop (k-1)) (-1) (mx+1) else [])++(if k<mx then EH [pw c.f] 1 (k+1) else [])
def IV (b a:List Int) (c:Wd) (mx k:Nat):List Nd:=(Rb k).map λ i=>⟨false,P7 b a c mx i⟩
def GP (b a:List Int) (d c:Wd):Nt :=
 ⟨d,c,(CM b a:Int),false,IV b a c (CM b a) (CM b a+1),false,(Rb (CM b a)).map λ i:Nat=>(CM b a:Int)+1+(i+1:Nat),CM b a+1⟩
theorem Xe (b a:List Int) (c:Wd) (mx k:Nat):IV b a c mx (k+1)=IV b a c mx k++[⟨false,P7 b a c mx k⟩]:=Vk _ _
set_option maxHeartbeats 40000000 in
theorem AhJ (I:e8 L) (D:m6 L) (b a:List Int) (q1 q2:Bool) (d c:Wd) (hd:WV d) (hc:WV c) (l1:1<=b.length/\b.length<=49) (l2:a.length<=8) (hb : ∀ v∈b,FT c v) (ha : ∀ v∈a,FT c v/\FT c (-v)) :
  Ev L 52 [.sl q1 (b.map C0),.sl q2 (a.map C0),.agg (GY d),.agg (GY c)] (.c5 [.agg (FG (GP b a d c)),.int .i64 0]):=by
 have hw:=λ q q'=>mQ I D b a q q' d c hd hc l1 l2 hb ha
 have o7:=hc;unfold WV at o7;have ov:=NL (n:=c.f) (m:=23) O';have xi:pw 23=8388608:=by unfold pw;rfl
 have vd:=HF c.f;have Rf:b.length<=CM b a+1:=by unfold CM;omega
 have Rg:a.length<=CM b a:=by unfold CM;omega
 have hx3 : ∀ k,k<=CM b a->k<b.length\/(1<=k/\k<=a.length):=by unfold CM;omega
 have ru:=λ(q:Bool) (k:Nat) (hk:k<=1000)=>QO D [pw c.f] q 1 (k+1) Z' (Or.inl rfl) O' G'
 have rb:=λ(q:Bool) (i j:Nat)=>QO D ((b.take j).drop i) q 1 0 G' (Or.inl rfl) O' (λ v hv=>VU hc (hb v (dd (ae hv))))
 have iy:(CM b a:Int)<=1000:=by unfold CM;omega
 have ra:=λ(q:Bool) (i j:Nat)=>QO D ((a.take j).drop i) q (-1) (CM b a+1) G' (Or.inr rfl) O' (λ v hv=>VU hc (ha v (dd (ae hv))).1)
 have hS:GP b a d c=⟨d,c,(CM b a:Int),false,IV b a c (CM b a) (CM b a+1),false,(Rb (CM b a)).map λ i:Nat=>(CM b a:Int)+1+(i+1:Nat),CM b a+1⟩:=rfl;have l9:=YX (GP b a d c) rfl rfl (by simp [GP,IV]);refine Ev.x D.OI rfl rfl ?_;repeat' (first|(apply AG<;>intro hc<;>try omega)|(apply AP;omega)|(apply BS;omega)|apply AR|apply AE|refine AD (hw _ _) ?_)<;>conv=>whnf
 all_goals first|rw[show (a.length:Int)=(CM b a:Int) by unfold CM;omega]|rw[show (b.length:Int)-1=(CM b a:Int) by unfold CM;omega]
 all_goals (
  generalize CM b a=mx at *;generalize hF:((Rb mx).map λ i:Nat=>(mx:Int)+1+(i+1:Nat))=F at *;have Bk:F.length=mx:=by rw[<-hF];simp
  have Cz : ∀ i:Nat,i<mx->F[i]? = some ((mx:Int)+1+(i+1:Nat)):=λ i hi=>by
   rw[<-hF,ga,La hi];rfl
  refine DW (enc:=C0) 0 mx rfl rfl O' ?_;conv=>whnf
  repeat' (first|(apply AP;omega)|(refine F3 ?_ (λ_ _ => ?_);omega))<;>conv=>whnf
  refine cK (λ k _ _ _=>mx+1-k) (λ(k:Nat) (ns:List Nd) (o:List Int) (fl:Bool)=>k<=mx+1/\ns=IV b a c mx k/\fl=decide (k=0)/\o.length=F.length/\o.take (k-1)=F.take (k-1)) (λ k ns o fl=>[(47,.int .i64 k)]) (λ k ns o fl=>bif fl then [(38,38,.rw 1 (o.map C0))] else [(13,13,.bx [.int .i64 d.b,.int .i64 d.f,.int .i64 d.r,.int .i64 d.o,.int .i64 c.b,.int .i64 c.f,.int .i64 c.r,.int .i64 c.o,.int .i64 mx,.row 1000 0 1 0 ns.length,.row 38 0 1 0 mx,.int .i64 (mx+1)]),(1000,106,.rw 1 (ns.map SL)),(38,38,.rw 1 (o.map C0))]) [] [] 0 [] (ya mx 0) true B' ⟨O',rfl,rfl,by simp [Bk],Z'⟩ ?_;intro k ns o fl ⟨p1,p2,p3,p4,p5⟩ ih;by_cases hk:k<=mx
  ·have fo:=hx3 k hk
   have oy:P7 b a c mx k=(if k<b.length then EH ((b.take (k+1)).drop k) 1 0 else [])++(if 1<=k/\k<=a.length then EH ((a.take k).drop (k-1)) (-1) (mx+1) else [])++(if k<mx then EH [pw c.f] 1 (k+1) else []):=rfl;have rb1:=λ q=>rb q (k:Int).toNat ((k:Int)+1).toNat
   have ra1:=λ q=>ra q ((k:Int)-1).toNat (k:Int).toNat
   have ru1:=λ q=>ru q k O'
   have e1:((k:Int)+1).toNat=k+1:=O'
   have e2:(k:Int).toNat=k:=O'
   have e3:((k:Int)-1).toNat=k-1:=O'
   have hln:(IV b a c mx k).length=k:=by simp [IV]
   have iv:=LE (qi (k:Int).toNat (ui ((k:Int)+1).toNat b)) 1 0;have eo:=LE (qi ((k:Int)-1).toNat (ui (k:Int).toNat a)) (-1) (mx+1);have Kv:=LE [pw c.f] 1 (k+1);simp only[Cg,ea,Ha,List.length_nil]at iv eo Kv;have ju:ns.length=k:=by rw[p2];exact hln
   have hE : ∀ X,X=P7 b a c mx k->[AV.sl false (X.map H5)]=SL ⟨false,P7 b a c mx k⟩:=λ X h=>by rw[h]
   cases fl
   ·have hk1:1<=k:=by
     rcases k with _|k
     ·simp at p3
     ·omega
    repeat' (first|(apply AG<;>intro hc<;>try omega)|(apply AX;omega)|(apply AP;omega)|(apply BS;omega)|apply AR|(refine dD (λ_=>rfl) (jT ?_ ?_);omega)|refine GS rfl ?_|refine JJ rfl rfl ?_|refine sR rfl ?_|apply AE|refine AD (rb1 _) ?_|refine AD (ra1 _) ?_|refine AD (ru1 _) ?_|refine AD (xK D _ _ _ _ O') ?_|refine AD (xL D _ _ _ _ _ (by first|omega|exact Sk O' O')) ?_)<;>conv=>whnf
    all_goals (
     obtain ⟨f1,f2⟩:=SS (i:=k-1) p4 p5 (Cz (k-1) O');refine LQ (k-1) ((mx:Int)+1+((k-1+1:Nat):Int)) O' (by rw[show k-1+1=k by omega]) (λ_=>rfl) O' ?_;conv=>whnf
     (repeat' (apply DG<;>conv=>whnf))
     refine EE (enc:=SL) ⟨false,P7 b a c mx k⟩ (hE _ ?_) rfl rfl O' O' ?_
     ·rw[oy]
      split<;>split<;>split<;>first|(exfalso;omega)|simp only[oe,Ec,Qb,e1,e2,e3]
     ·(conv=>whnf)
      repeat' (first|(apply AP;omega)|fail)<;>conv=>whnf
      exact BN [(1000,106)] B' (ih (k+1) _ _ false O' ⟨O',by rw[Xe,p2],Z',f1,by rw[show k+1-1=k-1+1 by omega];exact f2⟩))
   ·have Pf:k=0:=by simpa using p3
    repeat' (first|(apply AG<;>intro hc<;>try omega)|(apply AP;omega)|apply AR|(refine dD (λ_=>rfl) (jT ?_ ?_);omega)|apply DG|refine GS rfl ?_|refine JJ rfl rfl ?_|refine sR rfl ?_|apply AE|refine AD (rb1 _) ?_|refine AD (ru1 _) ?_|refine AD (xK D _ _ _ _ O') ?_|refine AD (xL D _ _ _ _ _ (by first|omega|exact Sk O' O')) ?_)<;>conv=>whnf
    all_goals (
     refine RR (enc:=SL) ⟨false,P7 b a c mx k⟩ (hE _ ?_) rfl O' ?_
     ·rw[oy]
      split<;>split<;>split<;>first|(exfalso;omega)|simp only[oe,Ec,Qb,e1,e2,e3]
     ·(conv=>whnf)
      repeat' (first|(apply AP;omega)|fail)<;>conv=>whnf
      exact A9 [(1000,106)] (ih (k+1) [⟨false,P7 b a c mx k⟩] o false O' ⟨O',by rw[Xe,Pf];rfl,Z',p4,by rw[Pf];rfl⟩))
  ·obtain rfl:k=mx+1:=O'
   cases fl
   ·repeat' (first|(apply AG<;>intro hc<;>try omega)|(refine C8 (λ_=>rfl) rfl ?_ ?_;(first|rfl|simp))|apply AE)<;>conv=>whnf
    have ho:=fK p4 p5 O';subst ho;refine C8 (enc:=C0) (λ_=>rfl) rfl Bk.symm ?_;conv=>whnf
    skip
    refine AY ?_ l9;rw[hS,p2]
   ·simp at p3)
def DL (a b:Int):Int:=if a<b then -1 else if b<a then 1 else 0
theorem JP {a b:Int} (h:a<b) : -1=DL a b:=by unfold DL;rw[if_pos h]
theorem OE {a b:Int} (h:b<a):1=DL a b:=by unfold DL;rw[if_neg O',if_pos h]
theorem V7 {a b:Int} (h:a=b):0=DL a b:=by unfold DL;rw[if_neg O',if_neg O']
theorem AhO (N:c4 L) (a:Int):Ev L 58 [.int .i64 a] (.bool false):=by
 refine Ev.x N.SA rfl rfl ?_;repeat' (first|(apply AG<;>intro hc<;>try omega)|apply AE)<;>conv=>whnf
 exact FB rfl
theorem AhP (N:c4 L) (a:Int):Ev L 59 [.int .u32 a] (.bool false):=by
 refine Ev.x N.SB rfl rfl ?_;repeat' (first|(apply AG<;>intro hc<;>try omega)|apply AE)<;>conv=>whnf
 exact FB rfl
theorem Ahl (N:c4 L) (a b:Int):Ev L 60 [.int .i64 a,.int .i64 b] (.int .i64 (DL a b)):=by
 refine Ev.x N.R8 rfl rfl ?_;repeat' (first|(apply AG<;>intro hc<;>try omega)|apply AE|refine AD (AhO N _) ?_)<;>conv=>whnf
 ·exact CJ (JP O')
 ·exact CJ (OE O')
 ·exact CJ (V7 O')
theorem Ahm (N:c4 L) (a b:Int):Ev L 61 [.int .u32 a,.int .u32 b] (.int .i64 (DL a b)):=by
 refine Ev.x N.R9 rfl rfl ?_;repeat' (first|(apply AG<;>intro hc<;>try omega)|apply AE|refine AD (AhP N _) ?_)<;>conv=>whnf
 ·exact CJ (JP O')
 ·exact CJ (OE O')
 ·exact CJ (V7 O')
theorem wU (N:c4 L) (l:N') (q:Bool) (hl:l.length<=1099511627776):Ev L 62 [.sl q (l.map AM)] (.sl false (l.map AM)):=by
 cases l with
 | nil =>
  refine GW.nil N.KV (GW.x N.KV rfl rfl ?_) (GW.x N.KV rfl rfl ?_)
  ·(repeat' (apply AE<;>conv=>whnf))
   exact AY rfl (by simp [A3,EZ])
  ·(repeat' (apply AE<;>conv=>whnf))
   refine ZK (enc:=AM) (l:=[]) (l':=[]) rfl (λ_=>rfl) Z' Z' ?_;conv=>whnf
   (repeat' ((refine C8 (λ_=>rfl) rfl ?_ ?_;(first|rfl|simp))<;>conv=>whnf))
   exact AY rfl (by simp [A3,EZ])
 | cons d l =>
  refine GW.cons (GW.x N.KV rfl rfl ?_);(repeat' (apply AE<;>conv=>whnf))
  refine AX Z' ?_;conv=>whnf
  skip
  refine ZK (enc:=AM) (l:=[]) (l':=d::l) rfl (λ_=>rfl) (by simp at hl ⊢;omega) (by simp at hl ⊢;omega) ?_;conv=>whnf
  (repeat' ((refine C8 (λ_=>rfl) rfl ?_ ?_;(first|rfl|simp))<;>conv=>whnf))
  exact AY rfl (by simp only[A3,true_and];exact CP (d::l))
theorem MU (N:c4 L) (l:N') (q:Bool) (hD:A7 l) (hl:l.length<=1099511627776):ZS L 65 [.sl q (l.map AM)] (.sl q ((dg (val l)).map AM)):=by
 refine Aeo N.G1 rfl rfl rfl rfl rfl ?_;repeat' (first|apply AR|apply AE)<;>conv=>whnf
 refine CE (λ n=>n) (λ(n:Nat)=>n<=l.length /\ ∀ i,n<=i->i<l.length->l[i]? = some 0) (λ n=>[(3,.int .i64 n)]) (λ_=>[]) l.length ⟨sa _,λ i h1 h2=>O'⟩ ?_;intro n ⟨p1,p2⟩ ih;rcases n with _|n
 ·repeat' (first|(apply AG<;>intro hc<;>try omega)|apply AE)<;>conv=>whnf
  refine M5 (k:=0) (λ_=>rfl) O' ?_;conv=>whnf
  refine ⟨_,rfl,?_⟩;rw[HD hD p1 p2 (Or.inl rfl)];rfl
 ·have e1:((n+1:Nat):Int)-1=n:=O'
  repeat' (first|(apply AG<;>intro hc<;>try omega)|(apply BS;omega)|(refine RY V' ?_ (λ e he hb => ?_);omega)|apply AE)<;>conv=>whnf
  ·rw[e1]
   exact A9 [] (ih n O' ⟨O',λ i h1 h2=>by
    by_cases h:i=n
    ·subst h
     rw[e1,Qa]at he;rw[he];congr 1;omega
    ·exact p2 i O' h2⟩)
  ·refine M5 (k:=n+1) (λ_=>rfl) O' ?_
   (conv=>whnf)
   refine ⟨_,rfl,?_⟩;rw[e1,Qa]at he;rw[HD hD p1 p2 (Or.inr ⟨e,he,O'⟩)];rfl
theorem aD (N:c4 L) (l:N') (q:Bool) (hD:A7 l) (hl:l.length<=1099511627776):Ev L 66 [.sl q (l.map AM)] (.sl false ((dg (val l)).map AM)):=by
 have hc:=FN hD;refine Ev.x N.TK rfl rfl ?_;repeat' (first|apply AE|refine LK (MU N l _ hD hl) ?_|refine AD (wU N (dg (val l)) _ O') ?_)<;>conv=>whnf
 exact AY rfl (by simp only[A3,true_and];exact CP _)
theorem Afy {a b:Nat} (h:((dg a).length:Int)≠(dg b).length):DL (dg a).length (dg b).length=DL a b:=by
 rcases Ee (dg a).length (dg b).length with h1|h1|h1
 ·have:=ZG h1
  rw[<-JP O',<-JP O']
 ·omega
 ·have:=ZG h1
  rw[<-OE O',<-OE O']
theorem QQ (N:c4 L) (a b:N') (q1 q2:Bool) (hA:A7 a) (hB:A7 b) (la:a.length<=1099511627776) (lb:b.length<=1099511627776):Ev L 67 [.sl q1 (a.map AM),.sl q2 (b.map AM)] (.int .i64 (DL (val a) (val b))):=by
 have l1:=FN hA;have l2:=FN hB;have d1:=EF (val a);have d2:=EF (val b);refine Ev.x N.OV rfl rfl ?_;repeat' (first|(apply AG<;>intro hc<;>try omega)|(apply BS;omega)|apply AR|apply AE|refine LK (MU N a _ hA la) ?_|refine LK (MU N b _ hB lb) ?_|refine AD (Ahl N _ _) ?_)<;>conv=>whnf
 ·exact CJ (Afy O')
 have hlen:(dg (val a)).length=(dg (val b)).length:=O'
 have v1:=B2 (val a);have v2:=B2 (val b);generalize dg (val a)=X at *;generalize dg (val b)=Y at *;refine CE (λ n=>n) (λ(n:Nat)=>n<=X.length/\X.drop n=Y.drop n) (λ n=>[(7,.int .i64 ((n:Int)-1))]) (λ_=>[]) X.length ⟨sa _,by rw[qa (sa _),qa O']⟩ ?_;intro n ⟨p1,p2⟩ ih;rcases n with _|n
 ·repeat' (first|(apply AG<;>intro hc<;>try omega)|apply AE)<;>conv=>whnf
  rw[Ja,Ja]at p2;exact CJ (V7 (by rw[<-v1,<-v2,p2]))
 ·have e1:((n+1:Nat):Int)-1=n:=O'
  rw[e1];repeat' (first|(apply AG<;>intro hc<;>try omega)|(apply BS;omega)|(refine A4 V' ?_ rfl ?_;omega)|(refine dB V' ?_ (λ e he hb => ?_);omega)|apply AE|refine AD (Ahm N _ _) ?_)<;>conv=>whnf
  ·rename_i x hx _
   rcases Ee x e with h|h|h
   ·have:=jL d1 d2 hlen hx he p2 h
    refine CJ ?_;rw[<-JP O',<-JP O']
   ·omega
   ·have:=jL d2 d1 hlen.symm he hx p2.symm h
    refine CJ ?_;rw[<-OE O',<-OE O']
  ·rename_i x hx _
   refine BN [] B' (ih n O' ⟨O',?_⟩);obtain ⟨i1,e1⟩:=zS hx;obtain ⟨i2,e2⟩:=zS he;rw[tc i1,tc i2,p2,e1,e2];congr 1;omega
theorem jN {y:N'} {i:Nat} (h:y.length<=i):val (y.take (i+1))=val (y.take i):=by
 rw[DM h,DM O']
theorem Ah3 (N:c4 L) (a b:N') (q1 q2:Bool) (hA:A7 a) (hB:A7 b) (la:a.length<=1099511627775) (lb:b.length<=1099511627775):Ev L 68 [.sl q1 (a.map AM),.sl q2 (b.map AM)] (.sl false ((dg (val a+val b)).map AM)):=by
 have l1:=FN hA;have l2:=FN hB;have d1:=EF (val a);have d2:=EF (val b);have v1:=B2 (val a);have v2:=B2 (val b);refine Ev.x N.OU rfl rfl ?_;repeat' (first|(apply AG<;>intro hc<;>try omega)|(apply AP;omega)|apply AR|apply AE|refine LK (MU N a _ hA O') ?_|refine LK (MU N b _ hB O') ?_)<;>conv=>whnf
 ·generalize dg (val a)=y at *
  generalize dg (val b)=x at *;rw[<-v1,<-v2,Ce (val y)];have hlen:y.length<=x.length:=O'
  have lv:x.length<=1099511627775:=O'
  clear v1 v2 hA hB la lb;refine DW (enc:=AM) 0 (x.length+1) rfl O' O' ?_;conv=>whnf
  (repeat' (apply AR<;>conv=>whnf))
  refine HK (λ i _ _=>x.length-i) (λ(i:Nat) (o:N') (c:Nat)=>i<=x.length/\o.length=x.length+1/\A7 o/\c<=1/\val (o.take i)+4294967296^i*c=val (x.take i)+val (y.take i)) (λ i o c=>[(8,.int .u64 (c:Int)),(29,.int .i64 i)]) (λ i o c=>[(26,26,.rw 1 (o.map AM))]) 0 (ya (x.length+1) 0) 0 ⟨O',Z',KC _,O',by simp [val]⟩ ?_;intro i o c ⟨p1,p2,p3,p4,p5⟩ ih;by_cases hi:i<x.length
  ·repeat' (first|(apply AG<;>intro hc<;>try omega)|(apply AX;omega)|(apply G5;omega)|(apply CD;omega)|apply GV|apply AR|(refine dB V' ?_ (λ e he hb => ?_);omega)|apply AE)<;>conv=>whnf
   ·rename_i d hd _
    refine F9 O' ?_;conv=>whnf
    repeat' (first|(apply AP;omega)|apply GH)<;>conv=>whnf
    refine BN [] B' (ih (i+1) _ _ O' ⟨O',by simpa using p2,p3.set _ O',O',?_⟩);have h1:=EO hd;have h2:=EO he;have h3:=QI (val (o.take i)) (4294967296^i) (d+c+e);have h4:=G4 (v:=(d+c+e)%4294967296) (show i<o.length by omega);rw[h4,h1,h2,Na];generalize 4294967296^i=p at *;rw[h3,Fb,Fb];omega
   ·refine F9 O' ?_
    (conv=>whnf)
    repeat' (first|(apply AP;omega)|apply GH)<;>conv=>whnf
    refine BN [] B' (ih (i+1) _ _ O' ⟨O',by simpa using p2,p3.set _ O',O',?_⟩);have h1:=EO he;have h2:=jN (y:=y) (i:=i) O';have h3:=QI (val (o.take i)) (4294967296^i) (e+c);have h4:=G4 (v:=(e+c)%4294967296) (show i<o.length by omega);rw[h4,h1,h2,Na];generalize 4294967296^i=p at *;rw[h3,Fb];omega
  ·obtain rfl:i=x.length:=O'
   clear ih;repeat' (first|(apply AG<;>intro hc<;>try omega)|(apply AX;omega)|(apply E0;omega)|apply AR|apply AE)<;>conv=>whnf
   refine F9 O' ?_;conv=>whnf
   skip
   have hV:val (o.set x.length c)=val x+val y:=by
    have h4:=G4 (v:=c) (show x.length<o.length by omega);rw[zT G']at h4;rw[h4,p5,DM (sa _),DM hlen]
   have hD:A7 (o.set x.length c):=p3.set _ O';have hL:(o.set x.length c).length=x.length+1:=by simpa using p2
   clear p3 p4 p5 p2;generalize o.set x.length c=O at *;rw[<-hL];refine GU 1000 N.G1 rfl rfl ?_;(repeat' (apply AE<;>conv=>whnf))
   refine DF (λ n=>n) (λ(n:Nat)=>n<=(O).length /\ ∀ i,n<=i->i<(O).length->(O)[i]? = some 0) (λ n=>[(3,.int .i64 n)]) (λ_=>[]) [] [] (O).length (by first|exact B'|(simp only[Ia,Jc];exact B')) ⟨sa _,λ i h1 h2=>O'⟩ ?_;intro n ⟨p1,p2⟩ ih;rcases n with _|n
   ·repeat' (first|(apply AG<;>intro hc<;>try omega)|apply AE)<;>conv=>whnf
    refine HV 0 O' O' ?_;conv=>whnf
    refine ⟨rfl,_,rfl,?_⟩;conv=>whnf
    have hm:=p1;have bp:=HD (l:=O) V' p1 p2 (Or.inl rfl);clear ih p1 p2;(refine I2 (enc:=AM) (λ_=>rfl) O' ?_;(conv=>whnf);exact AY (by rw[<-hV,<-bp];rfl) (by simp only[A3,true_and];exact CP _))
   ·have e1:((n+1:Nat):Int)-1=n:=O'
    repeat' (first|(apply AG<;>intro hc<;>try omega)|(apply AX;omega)|(apply BS;omega)|(refine VZ V' ?_ (λ v hv hb => ?_);omega)|apply AE)<;>conv=>whnf
    ·rw[e1]
     exact A9 [] (ih n O' ⟨O',λ i h1 h2=>by
      by_cases h:i=n
      ·subst h
       rw[e1,Qa]at hv;rw[hv];congr 1;omega
      ·exact p2 i O' h2⟩)
    ·refine HV (n+1) O' O' ?_
     (conv=>whnf)
     refine ⟨rfl,_,rfl,?_⟩;conv=>whnf
     rw[e1,Qa]at hv;have hm:=p1;have bp:=HD (l:=O) V' p1 p2 (Or.inr ⟨_,hv,O'⟩);clear ih p1 p2 hv;(refine I2 (enc:=AM) (λ_=>rfl) O' ?_;(conv=>whnf);exact AY (by rw[<-hV,<-bp];rfl) (by simp only[A3,true_and];exact CP _))
 ·generalize dg (val a)=x at *
  generalize dg (val b)=y at *;rw[<-v1,<-v2];have hlen:y.length<=x.length:=O'
  have lv:x.length<=1099511627775:=O'
  clear v1 v2 hA hB la lb;refine DW (enc:=AM) 0 (x.length+1) rfl O' O' ?_;conv=>whnf
  (repeat' (apply AR<;>conv=>whnf))
  refine HK (λ i _ _=>x.length-i) (λ(i:Nat) (o:N') (c:Nat)=>i<=x.length/\o.length=x.length+1/\A7 o/\c<=1/\val (o.take i)+4294967296^i*c=val (x.take i)+val (y.take i)) (λ i o c=>[(8,.int .u64 (c:Int)),(29,.int .i64 i)]) (λ i o c=>[(26,26,.rw 1 (o.map AM))]) 0 (ya (x.length+1) 0) 0 ⟨O',Z',KC _,O',by simp [val]⟩ ?_;intro i o c ⟨p1,p2,p3,p4,p5⟩ ih;by_cases hi:i<x.length
  ·repeat' (first|(apply AG<;>intro hc<;>try omega)|(apply AX;omega)|(apply G5;omega)|(apply CD;omega)|apply GV|apply AR|(refine dB V' ?_ (λ e he hb => ?_);omega)|apply AE)<;>conv=>whnf
   ·rename_i d hd _
    refine F9 O' ?_;conv=>whnf
    repeat' (first|(apply AP;omega)|apply GH)<;>conv=>whnf
    refine BN [] B' (ih (i+1) _ _ O' ⟨O',by simpa using p2,p3.set _ O',O',?_⟩);have h1:=EO hd;have h2:=EO he;have h3:=QI (val (o.take i)) (4294967296^i) (d+c+e);have h4:=G4 (v:=(d+c+e)%4294967296) (show i<o.length by omega);rw[h4,h1,h2,Na];generalize 4294967296^i=p at *;rw[h3,Fb,Fb];omega
   ·refine F9 O' ?_
    (conv=>whnf)
    repeat' (first|(apply AP;omega)|apply GH)<;>conv=>whnf
    refine BN [] B' (ih (i+1) _ _ O' ⟨O',by simpa using p2,p3.set _ O',O',?_⟩);have h1:=EO he;have h2:=jN (y:=y) (i:=i) O';have h3:=QI (val (o.take i)) (4294967296^i) (e+c);have h4:=G4 (v:=(e+c)%4294967296) (show i<o.length by omega);rw[h4,h1,h2,Na];generalize 4294967296^i=p at *;rw[h3,Fb];omega
  ·obtain rfl:i=x.length:=O'
   clear ih;repeat' (first|(apply AG<;>intro hc<;>try omega)|(apply AX;omega)|(apply E0;omega)|apply AR|apply AE)<;>conv=>whnf
   refine F9 O' ?_;conv=>whnf
   skip
   have hV:val (o.set x.length c)=val x+val y:=by
    have h4:=G4 (v:=c) (show x.length<o.length by omega);rw[zT G']at h4;rw[h4,p5,DM (sa _),DM hlen]
   have hD:A7 (o.set x.length c):=p3.set _ O';have hL:(o.set x.length c).length=x.length+1:=by simpa using p2
   clear p3 p4 p5 p2;generalize o.set x.length c=O at *;rw[<-hL];refine GU 1000 N.G1 rfl rfl ?_;(repeat' (apply AE<;>conv=>whnf))
   refine DF (λ n=>n) (λ(n:Nat)=>n<=(O).length /\ ∀ i,n<=i->i<(O).length->(O)[i]? = some 0) (λ n=>[(3,.int .i64 n)]) (λ_=>[]) [] [] (O).length (by first|exact B'|(simp only[Ia,Jc];exact B')) ⟨sa _,λ i h1 h2=>O'⟩ ?_;intro n ⟨p1,p2⟩ ih;rcases n with _|n
   ·repeat' (first|(apply AG<;>intro hc<;>try omega)|apply AE)<;>conv=>whnf
    refine HV 0 O' O' ?_;conv=>whnf
    refine ⟨rfl,_,rfl,?_⟩;conv=>whnf
    have hm:=p1;have bp:=HD (l:=O) V' p1 p2 (Or.inl rfl);clear ih p1 p2;(refine I2 (enc:=AM) (λ_=>rfl) O' ?_;(conv=>whnf);exact AY (by rw[<-hV,<-bp];rfl) (by simp only[A3,true_and];exact CP _))
   ·have e1:((n+1:Nat):Int)-1=n:=O'
    repeat' (first|(apply AG<;>intro hc<;>try omega)|(apply AX;omega)|(apply BS;omega)|(refine VZ V' ?_ (λ v hv hb => ?_);omega)|apply AE)<;>conv=>whnf
    ·rw[e1]
     exact A9 [] (ih n O' ⟨O',λ i h1 h2=>by
      by_cases h:i=n
      ·subst h
       rw[e1,Qa]at hv;rw[hv];congr 1;omega
      ·exact p2 i O' h2⟩)
    ·refine HV (n+1) O' O' ?_
     (conv=>whnf)
     refine ⟨rfl,_,rfl,?_⟩;conv=>whnf
     rw[e1,Qa]at hv;have hm:=p1;have bp:=HD (l:=O) V' p1 p2 (Or.inr ⟨_,hv,O'⟩);clear ih p1 p2 hv;(refine I2 (enc:=AM) (λ_=>rfl) O' ?_;(conv=>whnf);exact AY (by rw[<-hV,<-bp];rfl) (by simp only[A3,true_and];exact CP _))
theorem Afw {a b:Int} (h:DL a b<=0):a<=b:=by
 unfold DL at h;split at h
 ·omega
 ·split at h<;>omega
theorem Afx {a b:Int} (h:0<DL a b):b<a:=by
 unfold DL at h;split at h
 ·omega
 ·split at h<;>omega
theorem xN (N:c4 L) (a b:N') (q1 q2:Bool) (hA:A7 a) (hB:A7 b) (la:a.length<=1099511627776) (lb:b.length<=1099511627776):Ev L 69 [.sl q1 (a.map AM),.sl q2 (b.map AM)] (.sl false ((dg (val a-val b)).map AM)):=by
 have l1:=FN hA;have l2:=FN hB;have d1:=EF (val a);have d2:=EF (val b);have v1:=B2 (val a);have v2:=B2 (val b);refine Ev.x N.OW rfl rfl ?_;repeat' (first|(apply AG<;>intro hc<;>try omega)|apply AR|apply AE|refine AD (QQ N a b _ _ hA hB la lb) ?_|refine LK (MU N a _ hA la) ?_|refine LK (MU N b _ hB lb) ?_)<;>conv=>whnf
 ·have:=Afw hc
  refine AY ?_ (by simp only[A3,true_and];exact CP _);rw[show val a-val b=0 by omega,FY];rfl
 ·have j9:=Afx hc
  have zk:(dg (val b)).length<=(dg (val a)).length:=by
   rcases re (dg (val a)).length (dg (val b)).length with h|h
   ·have:=ZG h;omega
   ·exact h
  have xb:val b<val a:=O'
  clear j9 hc;generalize dg (val a)=x at *;generalize dg (val b)=y at *;rw[<-v1,<-v2]at xb ⊢;clear v1 v2 hA hB lb;refine DW (enc:=AM) 0 x.length rfl rfl O' ?_;conv=>whnf
  (repeat' (apply AR<;>conv=>whnf))
  refine HK (λ i _ _=>x.length-i) (λ(i:Nat) (o:N') (c:Nat)=>i<=x.length/\o.length=x.length/\A7 o/\c<=1/\val (o.take i)+val (y.take i)=val (x.take i)+4294967296^i*c) (λ i o c=>[(8,.int .u64 (c:Int)),(25,.int .i64 i)]) (λ i o c=>[(22,22,.rw 1 (o.map AM))]) 0 (ya x.length 0) 0 ⟨O',Z',KC _,O',by simp [val]⟩ ?_;intro i o c ⟨p1,p2,p3,p4,p5⟩ ih;by_cases hi:i<x.length
  ·repeat' (first|(apply AG<;>intro hc<;>try omega)|(apply AX;omega)|(apply cY;omega)|(apply CD;omega)|apply GV|apply AR|(refine dB V' ?_ (λ e he hb => ?_);omega)|apply AE)<;>conv=>whnf
   ·rename_i d hd bg
    obtain ⟨s1,s2⟩:=Am4 bg hb p4;refine F9 O' ?_;conv=>whnf
    repeat' (first|(apply AP;omega)|apply cX)<;>conv=>whnf
    generalize E9 (E9 d c) e=t at *;refine BN [] B' (ih (i+1) _ _ O' ⟨O',by simpa using p2,p3.set _ O',s2,?_⟩);rw[G4 O',EO hd,EO he,Na];exact Xv p5 s1
   ·obtain ⟨s1,s2⟩:=Am3 hb p4
    refine F9 O' ?_;conv=>whnf
    repeat' (first|(apply AP;omega)|apply cX)<;>conv=>whnf
    generalize E9 e c=t at *;refine BN [] B' (ih (i+1) _ _ O' ⟨O',by simpa using p2,p3.set _ O',s2,?_⟩);rw[G4 O',EO he,jN O',Na];rw[<-yb (t%4294967296)]at s1;have:=Xv (e:=0) p5 s1
    rw[Ib,yb]at this;exact this
  ·obtain rfl:i=x.length:=O'
   clear ih;have ib:c=0:=by
    rw[DM O',DM zk,DM (sa _)]at p5;have:=FZ p3
    rw[p2]at this;rcases Cd c with h|h
    ·exact h
    ·have:c=1:=O'
     subst this;omega
   subst ib;have hV:val o=val x-val y:=by
    rw[DM O',DM zk,DM (sa _)]at p5;omega
   clear p5 p4;rw[<-p2];repeat' (first|(apply AG<;>intro hc<;>try omega)|apply AE)<;>conv=>whnf
   refine GU 1000 N.G1 rfl rfl ?_;(repeat' (apply AE<;>conv=>whnf))
   refine DF (λ n=>n) (λ(n:Nat)=>n<=(o).length /\ ∀ i,n<=i->i<(o).length->(o)[i]? = some 0) (λ n=>[(3,.int .i64 n)]) (λ_=>[]) [] [] (o).length (by first|exact B'|(simp only[Ia,Jc];exact B')) ⟨sa _,λ i h1 h2=>O'⟩ ?_;intro n ⟨p1,p2⟩ ih;rcases n with _|n
   ·repeat' (first|(apply AG<;>intro hc<;>try omega)|apply AE)<;>conv=>whnf
    refine HV 0 O' O' ?_;conv=>whnf
    refine ⟨rfl,_,rfl,?_⟩;conv=>whnf
    have hm:=p1;have bp:=HD (l:=o) V' p1 p2 (Or.inl rfl);clear ih p1 p2;(refine I2 (enc:=AM) (λ_=>rfl) O' ?_;(conv=>whnf);exact AY (by rw[<-hV,<-bp];rfl) (by simp only[A3,true_and];exact CP _))
   ·have e1:((n+1:Nat):Int)-1=n:=O'
    repeat' (first|(apply AG<;>intro hc<;>try omega)|(apply AX;omega)|(apply BS;omega)|(refine VZ V' ?_ (λ v hv hb => ?_);omega)|apply AE)<;>conv=>whnf
    ·rw[e1]
     exact A9 [] (ih n O' ⟨O',λ i h1 h2=>by
      by_cases h:i=n
      ·subst h
       rw[e1,Qa]at hv;rw[hv];congr 1;omega
      ·exact p2 i O' h2⟩)
    ·refine HV (n+1) O' O' ?_
     (conv=>whnf)
     refine ⟨rfl,_,rfl,?_⟩;conv=>whnf
     rw[e1,Qa]at hv;have hm:=p1;have bp:=HD (l:=o) V' p1 p2 (Or.inr ⟨_,hv,O'⟩);clear ih p1 p2 hv;(refine I2 (enc:=AM) (λ_=>rfl) O' ?_;(conv=>whnf);exact AY (by rw[<-hV,<-bp];rfl) (by simp only[A3,true_and];exact CP _))
theorem mU (N:c4 L) (a b:N') (q1 q2:Bool) (hA:A7 a) (hB:A7 b) (lab:a.length+b.length<=1099511627776):Ev L 70 [.sl q1 (a.map AM),.sl q2 (b.map AM)] (.sl false ((dg (val a*val b)).map AM)):=by
 have l1:=FN hA;have l2:=FN hB;have d1:=EF (val a);have d2:=EF (val b);have v1:=B2 (val a);have v2:=B2 (val b);refine Ev.x N.L8 rfl rfl ?_;have hz : ∀ p:Prop,((dg (val a)).length:Int)=0\/((dg (val b)).length:Int)=0->AH (.sl false []) (.sl false ((dg (val a*val b)).map AM)):=λ_ h=>by
  have:val a*val b=0:=by
   rcases h with h|h
   ·have:dg (val a)=[]:=cd O'
    rw[lT.1 this,Mh]
   ·have:dg (val b)=[]:=cd O'
    rw[lT.1 this,Ib]
  exact AY (by rw[this,FY];rfl) (by simp only[A3,true_and];exact CP _)
 repeat' (first|(apply AG<;>intro hc<;>try omega)|(apply AP;omega)|apply AR|apply AE|refine LK (MU N a _ hA O') ?_|refine LK (MU N b _ hB O') ?_)<;>conv=>whnf
 ·exact hz True (Or.inl hc)
 ·exact hz True (Or.inr hc)
 ·clear hz
  generalize dg (val a)=x at *;generalize dg (val b)=y at *;rw[<-v1,<-v2];have vk:x.length+y.length<=1099511627776:=O'
  clear v1 v2 hA hB lab l1 l2;refine DW (enc:=AM) 0 (x.length+y.length) rfl O' O' ?_;conv=>whnf
  (repeat' (apply AR<;>conv=>whnf))
  refine FJ (λ i _=>x.length-i) (λ(i:Nat) (o:N')=>i<=x.length/\o.length=x.length+y.length/\A7 o/\val o=val (x.take i)*val y /\ ∀ k,i+y.length<=k->k<o.length->o[k]? = some 0) (λ i o=>[(34,.int .i64 i)]) (λ i o=>[(31,31,.rw 1 (o.map AM))]) 0 (ya (x.length+y.length) 0) ⟨O',Z',KC _,by simp [val,jP],λ k h1 h2=>by simp at h2;simp [h2]⟩ ?_;intro i O ⟨p1,p2,p3,p4,p5⟩ ih;by_cases hi:i<x.length
  ·obtain ⟨d,hd⟩:=H' x i hi
   have bg:=d1.at hd;repeat' (first|(apply AG<;>intro hc<;>try omega)|(apply AP;omega)|apply AR|(refine A4 V' ?_ rfl ?_;omega)|apply AE)<;>conv=>whnf
   ·refine BN [] B' (ih (i+1) O O' ⟨O',p2,p3,?_,λ k h1 h2=>p5 k O' h2⟩)
    rw[EO hd,p4,show d=0 by omega,Ib,yb]
   ·refine HK (λ j _ _=>y.length-j) (λ(j:Nat) (o:N') (c:Nat)=>j<=y.length/\o.length=x.length+y.length/\A7 o/\c<4294967296/\val o+4294967296^(i+j)*c=val O+4294967296^i*(d*val (y.take j)) /\ ∀ k,i+j<=k->o[k]? = O[k]?) (λ j o c=>[(10,.int .u64 (c:Int)),(43,.int .i64 j)]) (λ j o c=>[(31,31,.rw 1 (o.map AM))]) 0 O 0 ⟨O',p2,p3,O',by simp [val],λ_ _=>rfl⟩ ?_
    intro j o c ⟨r1,r2,r3,r4,r5,r6⟩ jh;have e1:((i:Int)+j).toNat=i+j:=O'
    by_cases hj:j<y.length
    ·obtain ⟨w,hw⟩:=H' y j hj
     have ye:=d2.at hw;have hm:=YW bg ye;repeat' (first|(apply AG<;>intro hc<;>try omega)|(apply AX;omega)|(apply AP;omega)|(apply G5;omega)|(apply QC;omega)|(apply CD;omega)|apply GV|(refine A4 V' ?_ rfl ?_;omega)|(refine sF V' ?_ (λ v hv hb => ?_);omega)|apply AE)<;>conv=>whnf
     refine dE (i+j) O' O' ?_;conv=>whnf
     repeat' (first|(apply AP;omega)|apply GH)<;>conv=>whnf
     refine BN [] B' (jh (j+1) _ _ O' ⟨O',by simpa using r2,r3.set _ O',O',?_,?_⟩)
     ·have h1:=jM (v:=(d*w+v+c)%4294967296) hv
      have h2:=QI 0 (4294967296^(i+j)) (d*w+v+c);rw[EO hw,show i+(j+1)=i+j+1 by omega,Na (4294967296) (i+j)];have h3:4294967296^i*(d*(val (y.take j)+4294967296^j*w))=4294967296^i*(d*val (y.take j))+4294967296^(i+j)*(d*w):=by rw[zc];grind
      rw[h3];generalize 4294967296^(i+j)=P at *;rw[Fb P,Fb P]at h2;omega
     ·intro k hk
      rw[jg O'];exact r6 k O'
    ·obtain rfl:j=y.length:=O'
     clear jh;repeat' (first|(apply AG<;>intro hc<;>try omega)|(apply AX;omega)|(apply AP;omega)|(apply E0;omega)|apply AR|apply AE)<;>conv=>whnf
     have hz:=r6 (i+y.length) O';rw[p5 (i+y.length) O' O']at hz;refine dE (i+y.length) O' O' ?_;conv=>whnf
     repeat' (first|(apply AP;omega)|fail)<;>conv=>whnf
     refine BN [] B' (ih (i+1) _ O' ⟨O',by simpa using r2,r3.set _ O',?_,?_⟩)
     ·have h1:=jM (v:=c) hz
      rw[Ib,yb]at h1;rw[h1,r5,p4,DM (sa _),EO hd,tf,Hb]
     ·intro k h1 h2
      rw[Ia]at h2;rw[jg O',r6 k O'];exact p5 k O' O'
  ·obtain rfl:i=x.length:=O'
   clear ih;rw[DM (sa _)]at p4;rw[<-p4,<-p2];repeat' (first|(apply AG<;>intro hc<;>try omega)|apply AE)<;>conv=>whnf
   clear p5;refine GU 1000 N.G1 rfl rfl ?_;(repeat' (apply AE<;>conv=>whnf))
   refine DF (λ n=>n) (λ(n:Nat)=>n<=(O).length /\ ∀ i,n<=i->i<(O).length->(O)[i]? = some 0) (λ n=>[(3,.int .i64 n)]) (λ_=>[]) [] [] (O).length (by first|exact B'|(simp only[Ia,Jc];exact B')) ⟨sa _,λ i h1 h2=>O'⟩ ?_;intro n ⟨p1,p2⟩ ih;rcases n with _|n
   ·repeat' (first|(apply AG<;>intro hc<;>try omega)|apply AE)<;>conv=>whnf
    refine HV 0 O' O' ?_;conv=>whnf
    refine ⟨rfl,_,rfl,?_⟩;conv=>whnf
    have hm:=p1;have bp:=HD (l:=O) V' p1 p2 (Or.inl rfl);clear ih p1 p2;(refine I2 (enc:=AM) (λ_=>rfl) O' ?_;(conv=>whnf);exact AY (by rw[<-bp];rfl) (by simp only[A3,true_and];exact CP _))
   ·have e1:((n+1:Nat):Int)-1=n:=O'
    repeat' (first|(apply AG<;>intro hc<;>try omega)|(apply AX;omega)|(apply BS;omega)|(refine VZ V' ?_ (λ v hv hb => ?_);omega)|apply AE)<;>conv=>whnf
    ·rw[e1]
     exact A9 [] (ih n O' ⟨O',λ i h1 h2=>by
      by_cases h:i=n
      ·subst h
       rw[e1,Qa]at hv;rw[hv];congr 1;omega
      ·exact p2 i O' h2⟩)
    ·refine HV (n+1) O' O' ?_
     (conv=>whnf)
     refine ⟨rfl,_,rfl,?_⟩;conv=>whnf
     rw[e1,Qa]at hv;have hm:=p1;have bp:=HD (l:=O) V' p1 p2 (Or.inr ⟨_,hv,O'⟩);clear ih p1 p2 hv;(refine I2 (enc:=AM) (λ_=>rfl) O' ?_;(conv=>whnf);exact AY (by rw[<-bp];rfl) (by simp only[A3,true_and];exact CP _))
end Go.c6

namespace Go.c6
open F
section
variable {K:AV->Prop} {a b s:Nat} {k':IntKind}
theorem sJ (hs:s<=32) (hk:K (.int .u32 ((RD a s:Nat):Int))):AC .shl .u32 (a:Int) k' (s:Int) K:=by
 refine kA (show s<=IntKind.u32.bits from hs) ?_;rw[wrap_u32,<-qJ];exact hk
theorem QF (hs:s<=64) (h:a*2^s<=18446744073709551615) (hk:K (.int .u64 ((a*2^s:Nat):Int))):AC .shl .u64 (a:Int) k' (s:Int) K:=by
 refine kA (show s<=IntKind.u64.bits from hs) ?_;rw[IntWalk.u64_in _ O'];exact hk
theorem kB (n:Nat) (hx:a%2^n=0) (hy:b<2^n) (h:a+b<=4294967295) (hk:K (.int .u32 ((a+b:Nat):Int))):AC .or .u32 (a:Int) .u32 (b:Int) K :=
 jZ n hx hy (show a+b<4294967296 by omega) (IntWalk.u32_in _ O') hk
theorem Aef (n:Nat) (hx:b%2^n=0) (hy:a<2^n) (h:a+b<=4294967295) (hk:K (.int .u32 ((a+b:Nat):Int))):AC .or .u32 (a:Int) .u32 (b:Int) K:=by
 have e:DP .or .u32 (a:Int) .u32 (b:Int)=DP .or .u32 (b:Int) .u32 (a:Int):=by
  simp only[DP,if_true,xh]
 rw[Ce]at hk h;obtain ⟨v,h1,h2⟩:=kB (K:=K) n hx hy h hk;exact ⟨v,by rw[e];exact h1,h2⟩
theorem Aei (hs:s<=32) (hk:K (.int .u32 ((a/2^s:Nat):Int))):AC .shr .u32 (a:Int) k' (s:Int) K:=QE (show s<=IntKind.u32.bits from hs) hk
end
attribute [local irreducible] AA AF AL AC CQ AW BA A8 B3 BL CN D4 BP A1 B6 CF AB BG AH pw BV BO CS CY C2 BX CG BU CX
variable {L:Lib}
def jY (a:N') (s:Nat) (o:N'):Prop:=A7 o/\(a.length<=o.length/\o.length<=a.length+1)/\(val a*2^s<4294967296^o.length->val o=val a*2^s)
theorem AkA {a o:N'} {s lo:Nat} (hD:A7 o) (hl:o.length=a.length) (h:val (o.take a.length)+4294967296^a.length*lo=val (a.take a.length)*2^s):jY a s o:=by
 refine ⟨hD,O',λ j9 => ?_⟩;rw[DM O',DM (sa _)]at h;rw[hl]at j9;have:lo=0:=by
  rcases Cd lo with h0|h0
  ·exact h0
  ·have:4294967296^a.length*1<=4294967296^a.length*lo:=Oa _ h0
   omega
 subst this;omega
theorem Sw {a o:N'} {s lo:Nat} (hD:A7 o) (px:lo<4294967296) (hl:o.length=a.length+1) (h:val (o.take a.length)+4294967296^a.length*lo=val (a.take a.length)*2^s):jY a s (o.set a.length lo):=by
 refine ⟨hD.set _ px,by simp;omega,λ_ => ?_⟩;have h1:=G4 (v:=lo) (show a.length<o.length by omega);rw[DM G',h,DM (sa _)]at h1;exact h1
theorem Ah7 (N:c4 L) (a:N') (q:Bool) (s n:Nat) (hA:A7 a) (hs:s<=31) (hn:a.length<=n/\n<=a.length+1) (la:a.length<=1099511627776) : ∃ r,Ev L 71 [.sl q (a.map AM),.int .u64 (s:Int),.int .i64 (n:Int)] r /\ ∃ o,jY a s o/\o.length=n/\r = .sl false (o.map AM):=by
 refine Ev.xE N.MB rfl rfl ?_;(repeat' (apply AE<;>conv=>whnf))
 refine DW (enc:=AM) 0 n rfl rfl O' ?_;conv=>whnf
 (repeat' (apply AR<;>conv=>whnf))
 refine HK (λ i _ _=>a.length-i) (λ(i:Nat) (o:N') (lo:Nat)=>i<=a.length/\o.length=n/\A7 o/\lo<2^s/\val (o.take i)+4294967296^i*lo=val (a.take i)*2^s) (λ i o lo=>[(8,.int .u32 (lo:Int)),(15,.int .i64 i)]) (λ i o lo=>[(71012,71012,.rw 1 (o.map AM))]) 0 (ya n 0) 0 ⟨O',Z',KC _,oc s,by simp [val]⟩ ?_;intro i o lo ⟨p1,p2,p3,p4,p5⟩ ih;have vf:=bD (s:=s) O';by_cases hi:i<a.length
 ·obtain ⟨d,hd⟩:=H' a i hi
  have bg:=hA.at hd;obtain ⟨f1,f2,f3,f4⟩:=XF (s:=s) bg O';repeat' (first|(apply AG<;>intro hc<;>try omega)|(refine A4 V' ?_ rfl ?_;omega)|apply AE)<;>conv=>whnf
  refine sJ O' ?_;conv=>whnf
  skip
  refine kB s f1 p4 O' ?_;conv=>whnf
  repeat' (first|(apply AX;omega)|fail)<;>conv=>whnf
  refine F9 O' ?_;conv=>whnf
  repeat' (first|(apply CD;omega)|fail)<;>conv=>whnf
  refine QF O' f4 ?_;conv=>whnf
  repeat' (first|(apply AP;omega)|apply GH|(apply E0;omega))<;>conv=>whnf
  rw[<-XD];refine BN [] B' (ih (i+1) _ _ O' ⟨O',by simpa using p2,p3.set _ O',f2,?_⟩);rw[G4 O',EO hd,Na];exact Sx p5
 ·obtain rfl:i=a.length:=O'
  clear ih;repeat' (first|(apply AG<;>intro hc<;>try omega)|(apply AX;omega)|apply AR|apply AE)<;>conv=>whnf
  ·refine F9 O' ?_
   (conv=>whnf)
   skip
   refine ⟨_,?_,_,Sw p3 O' O' p5,by simpa using p2,rfl⟩;conv=>whnf
   refine C8 (enc:=AM) (λ_=>rfl) rfl (by simp [p2]) ?_;conv=>whnf
   exact AY rfl (by simp only[A3,true_and];exact CP _)
  ·refine ⟨_,?_,_,AkA p3 O' p5,p2,rfl⟩
   (conv=>whnf)
   refine C8 (enc:=AM) (λ_=>rfl) rfl (by simp [p2]) ?_;conv=>whnf
   exact AY rfl (by simp only[A3,true_and];exact CP _)
theorem Ah8 (N:c4 L) (a:N') (q:Bool) (s:Nat) (hA:A7 a) (hs:s<=31) (la:a.length<=1099511627776) : ∃ r,Ev L 72 [.sl q (a.map AM),.int .u64 (s:Int)] r /\ ∃ o,A7 o/\o.length=a.length/\val o=val a/2^s/\r = .sl false (o.map AM):=by
 refine Ev.xE N.OZ rfl rfl ?_;repeat' (first|apply AR|apply AE)<;>conv=>whnf
 refine DW (enc:=AM) 0 a.length rfl rfl O' ?_;conv=>whnf
 repeat' (first|(apply BS;omega)|apply AR)<;>conv=>whnf
 refine HK (λ n _ _=>n) (λ(n:Nat) (o:N') (hi:Nat)=>n<=a.length/\o.length=a.length/\A7 o/\hi=val (a.drop n)%2^s*2^(32-s)/\val (o.drop n)=val (a.drop n)/2^s) (λ n o hi=>[(6,.int .u32 (hi:Int)),(7,.int .i64 ((n:Int)-1))]) (λ n o hi=>[(10,10,.rw 1 (o.map AM))]) a.length (ya a.length 0) 0 ⟨O',Z',KC _,by rw[qa (sa _)];simp [val],by rw[qa (sa _),qa Z'];simp [val]⟩ ?_;intro n o hi ⟨p1,p2,p3,p4,p5⟩ ih;rcases n with _|n
 ·repeat' (first|(apply AG<;>intro hc<;>try omega)|apply AE)<;>conv=>whnf
  rw[Ja,Ja]at p5;refine ⟨_,?_,_,p3,p2,p5,rfl⟩;conv=>whnf
  refine C8 (enc:=AM) (λ_=>rfl) rfl p2.symm ?_;conv=>whnf
  exact AY rfl (by simp only[A3,true_and];exact CP _)
 ·have e1:((n+1:Nat):Int)-1=n:=O'
  rw[e1];obtain ⟨d,hd⟩:=H' a n;have bg:=hA.at hd;obtain ⟨f1,f2,f3⟩:=Th (V:=val (a.drop (n+1))) bg (show s<=32 by omega);obtain ⟨g1,g2,g3,g4⟩:=XF bg (show 32-s<=32 by omega);rw[<-p4]at f2 f3;repeat' (first|(apply AG<;>intro hc<;>try omega)|(refine A4 V' ?_ rfl ?_;omega)|apply AE)<;>conv=>whnf
  refine Aei O' ?_;conv=>whnf
  skip
  refine Aef (32-s) f2 f1 O' ?_;conv=>whnf
  repeat' (first|(apply AX;omega)|fail)<;>conv=>whnf
  refine F9 O' ?_;conv=>whnf
  repeat' (first|(apply cY;omega)|(apply CD;omega)|(refine A4 V' ?_ rfl ?_;omega))<;>conv=>whnf
  rw[show E9 32 s=32-s by rw[XP];omega];refine QF O' g4 ?_;conv=>whnf
  repeat' (first|(apply BS;omega)|apply GV)<;>conv=>whnf
  rw[AkG O'];refine BN [] B' (ih n _ _ O' ⟨O',by simpa using p2,p3.set _ O',?_,?_⟩)
  ·rw[II hd,Ti O']
  ·rw[II (l:=o.set n (d/2^s+hi)) (d:=d/2^s+hi) (by rw[ue O']),Fc O',p5,II hd,oR O',<-p4]
theorem fY : ∀ n<256,(ya 1 0++ya 1 1++ya 2 2++ya 4 3++ya 8 4++ya 16 5++ya 32 6++ya 64 7++ya 128 8)[n]? = some (n9 n):=by decide +kernel
theorem Ahs (N:c4 L) (x:Nat) (hx:x<4294967296):Ev L 63 [.int .u32 (x:Int)] (.int .i64 (n9 x:Int)):=by
 have da : ∀ y<256,n9 y<=8:=λ y h=>dI (k:=8) h
 refine Ev.x N.TF rfl rfl ?_;repeat' (first|(apply AG<;>intro hc<;>try omega)|(apply AP;omega)|apply Aec|apply Aee|(apply Ad2;omega)|apply AE)<;>conv=>whnf
 ·have Np:=da (x/65536/256) O'
  refine dF (fY _ O') ?_;conv=>whnf
  repeat' (first|(apply AP;omega)|(apply VS;omega))<;>conv=>whnf
  have h1:n9 (x/65536)+16=n9 x:=ZY 16 (x:=x) O';have h2:n9 (x/65536/256)+8=n9 (x/65536):=ZY 8 (x:=x/65536) O';refine CJ ?_;rw[<-h1,<-h2];omega
 ·have Np:=da (x/65536) O'
  refine dF (fY _ O') ?_;conv=>whnf
  repeat' (first|(apply AP;omega)|(apply VS;omega))<;>conv=>whnf
  have h1:n9 (x/65536)+16=n9 x:=ZY 16 (x:=x) O';refine CJ ?_;rw[<-h1];omega
 ·have Np:=da (x/256) O'
  refine dF (fY _ O') ?_;conv=>whnf
  repeat' (first|(apply AP;omega)|(apply VS;omega))<;>conv=>whnf
  have h2:n9 (x/256)+8=n9 x:=ZY 8 (x:=x) O';refine CJ ?_;rw[<-h2];omega
 ·have Np:=da (x) O'
  refine dF (fY _ O') ?_;conv=>whnf
  repeat' (first|(apply AP;omega)|(apply VS;omega))<;>conv=>whnf
  refine CJ ?_;omega
theorem wZ (N:c4 L) (x:Nat) (hx:x<4294967296):Ev L 64 [.int .u32 (x:Int)] (.int .i64 ((32-n9 x:Nat):Int)):=by
 have h:=dI (k:=32) hx;refine Ev.x N.TE rfl rfl ?_;repeat' (first|(apply BS;omega)|apply AE|refine AD (Ahs N x hx) ?_)<;>conv=>whnf
 refine CJ ?_;omega
end Go.c6

namespace Go.c6
open F
theorem Ahi {L:Lib} {f:Nat} {fn:AFn} {vs:u_} {own m4:AJ} {r:AV} (hL:L f=some fn) (Au:JM fn.body=true) (h:HL L f vs own r m4):m4=own:=by
 obtain ⟨n,h⟩:=h;cases n with
 | zero=>simp [DR]at h
 | succ n =>
  rw[aC]at h;simp only[hL]at h;split at h
  ·split at h
   ·rename_i st g9
    split at h
    ·simp only[Ka,Kf]at h
     rw[<-h.2];exact J2 n (by simp [QY,Au]) g9
    ·cases h
   ·cases h
  ·cases h
attribute [local irreducible] AA AF AL AC CQ AW BA A8 B3 BL CN D4 BP A1 B6 CF AB BG AH pw BV BO CS CY C2 BX CG BU CX
variable {L:Lib}
theorem AfQ (N:c4 L) (l:N') (s:Nat) (hD:A7 l) (hl:l.length<=1099511627776):BG L 65 [.row 5 0 1 0 l.length] [(0,.row 5 0 1 0 l.length)] [(5,s,.rw 1 (l.map AM))] (λ r _=>r = .row 5 0 1 0 (dg (val l)).length):=by
 have hlen : ∀ n,n<=l.length->l.take n=dg (val l)->n=(dg (val l)).length:=λ n h1 h2=>by
  rw[<-h2,ea];omega
 refine GU 1000 N.G1 rfl rfl ?_;(repeat' (apply AE<;>conv=>whnf))
 refine CE (λ n=>n) (λ(n:Nat)=>n<=l.length /\ ∀ i,n<=i->i<l.length->l[i]? = some 0) (λ n=>[(3,.int .i64 n)]) (λ_=>[]) l.length ⟨sa _,λ i h1 h2=>O'⟩ ?_;intro n ⟨p1,p2⟩ ih;rcases n with _|n
 ·repeat' (first|(apply AG<;>intro hc<;>try omega)|apply AE)<;>conv=>whnf
  refine HV 0 O' O' ?_;conv=>whnf
  refine ⟨rfl,_,rfl,?_⟩;rw[<-hlen 0 p1 (HD hD p1 p2 (Or.inl rfl))];rfl
 ·have e1:((n+1:Nat):Int)-1=n:=O'
  repeat' (first|(apply AG<;>intro hc<;>try omega)|(apply AX;omega)|(apply BS;omega)|(refine VZ V' ?_ (λ v hv hb => ?_);omega)|apply AE)<;>conv=>whnf
  ·rw[e1]
   exact A9 [] (ih n O' ⟨O',λ i h1 h2=>by
    by_cases h:i=n
    ·subst h
     rw[e1,Qa]at hv;rw[hv];congr 1;omega
    ·exact p2 i O' h2⟩)
  ·refine HV (n+1) O' O' ?_
   (conv=>whnf)
   refine ⟨rfl,_,rfl,?_⟩;rw[e1,Qa]at hv;rw[<-hlen (n+1) p1 (HD hD p1 p2 (Or.inr ⟨_,hv,O'⟩))];rfl
theorem AfP (N:c4 L) (l:N') (s t:Nat) (own:AJ) (hD:A7 l) (hl:l.length<=1099511627776) (hb:(own s).c9 t=some ⟨1,l.map AM⟩) (ht:t<(own s).g7) (px:FP s=true):HL L 65 [.row s t 1 0 l.length] own (.row s t 1 0 (dg (val l)).length) own:=by
 have hs:I1 (λ_ _=>(s,t)) own [(5,s,.rw 1 (l.map AM))]:=by
  have key : ∀ k u c,a9 [(5,s,BF.rw 1 (l.map AM))] k u=some c->k=5/\u=0/\c = .rw 1 (l.map AM):=λ k u c e=>by
   simp only[a9,b9]at e;cases hk:Ad k 5<;>simp only[hk,cond_true,cond_false]at e
   ·cases e
   ·cases u with
    | zero=>simp only[Ka]at e;exact ⟨pd hk,rfl,e.symm⟩
    | succ u=>cases e
  refine ⟨λ k s' c e => ?_,λ k u c e => ?_,λ k u c e=>ht,λ k u k' u' c c' e e' _ => ?_,λ_ _ _ _ _=>px⟩
  ·simp only[b9]at e
   cases hk:Ad k 5<;>simp only[hk,cond_true,cond_false]at e
   ·cases e
   ·simp only[Ka,Kf]at e;exact e.1
  ·obtain ⟨_,_,rfl⟩:=key k u c e
   exact hb
  ·obtain ⟨rfl,rfl,_⟩:=key k u c e
   obtain ⟨rfl,rfl,_⟩:=key k' u' c' e';exact ⟨rfl,rfl⟩
 have hw:=AfQ N l s hD hl;unfold BG at hw;obtain ⟨r,m4,σ',M',h1,h2,h3,rfl⟩:=hw _ own hs;have ho:=Ahi N.G1 (by decide +kernel) h1;subst ho;have h4:AV.row (σ' 5 0).1 (σ' 5 0).2 1 0 l.length=AV.row s t 1 0 l.length:=h3 0;simp only[AV.row.injEq]at h4;have h5:HL L 65 [.row s t 1 0 l.length] m4 (.row (σ' 5 0).1 (σ' 5 0).2 1 0 (dg (val l)).length) m4:=h1;rw[h4.1,h4.2.1]at h5;exact h5
theorem cM (N:c4 L) {l:N'} {tm:Tm} {M:Mem} {K:AV->Mem->Prop} {key s len:Nat} (hD:A7 l) (hl:l.length<=1099511627776) (hm:b9 M key=some (s,.rw 1 (l.map AM))) (hlen:len=l.length) (hk:K (.row key 0 1 0 (dg (val l)).length) M):BG L 65 [.row key 0 1 0 len] tm M K:=by
 subst hlen;unfold BG;intro σ own hs;have gb:=hs.site _ _ _ hm;have Iy:a9 M key 0=some (.rw 1 (l.map AM)):=by simp only[a9,hm]
 have hb:=hs.c9 _ _ _ Iy;have ht:=hs.old _ _ _ Iy;refine ⟨.row key 0 1 0 (dg (val l)).length,own,σ,M,?_,hs,λ_=>rfl,hk⟩;exact AfP N l (σ key 0).1 (σ key 0).2 own hD hl hb ht (hs.low _ _ _ (EW hm) rfl)
end Go.c6

namespace Go.c6
open F
attribute [local irreducible] AA AF AL AC CQ AW BA A8 B3 BL CN D4 BP A1 B6 CF AB BG AH pw BV BO CS CY C2 BX CG BU CX
variable {L:Lib}
abbrev mH (v:N') (j m s xl:Nat):Tm:=[(102,AV.sl false (Hc AM v)),(101,AV.row 71012 0 1 j (v.length+1)),
           (100,AV.int IntKind.i64 (↑j + ↑v.length+1)),(99,AV.int IntKind.i64 (↑j + ↑v.length)),
           (98,AV.int IntKind.i64 ↑v.length),(97,AV.int IntKind.i64 ↑j),(96,AV.int IntKind.i64 ↑j),
           (95,AV.row 71012 0 1 0 (xl+1)),(94,AV.int IntKind.i64 ↑j),(93,AV.row 28 0 1 0 m),
           (90,AV.bool true),(14,AV.int IntKind.i64 ↑j),(13,AV.sl false (Hc AM v)),
           (12,AV.row 71012 0 1 0 (xl+1)),(11,AV.int IntKind.u64 ↑s),(7,AV.row 28 0 1 0 m),
           (6,AV.int IntKind.i64 ↑v.length)]
abbrev Ag3:List It:=[It.lp G2.l2,It.c9 2,It.code
      (((BK.ops G2.zt false).dr [9,10,84,85,86,87,118,119,120,121,122,123,124,125,126]
         []).seq
       (((BK.ops G2.En false).dr [127,128,129,130,131] []).seq
        ((((BK.ops G2.Fv false).dr [15,132,133] []).seq
           (BK.cond 134
            (((BK.ops G2.Fw false).dr [0,1,5,7,134,135,136] []).seq BK.ret)
            BK.skip)).seq
         (((BK.ops G2.Fx false).dr [134] []).seq
          ((((BK.ops G2.Fy false).dr [1] []).seq (BK.block 4 G2.l3.loop)).seq
           (((BK.ops G2.Eo false).dr
              [0,5,9,137,138,139,140,162,163,164,165,166,167,168,169] []).seq
            (((BK.ops G2.Fz false).dr [7,170,171,172] []).seq BK.ret)))))))]
section
variable {A W C w v:N'} {j m s xl q:Nat} {K:AV->Mem->Prop}
theorem lY (hA:A.length=j) (hW:W.length=v.length+1) (D2:A7 W) (fy:A7 v) (gq:2<=v.length) (yc:v.length<=549755813888) (ag:0<val v)
  (r1:q<4294967296) (r2:val W/val v<=q) (r3:q<=val W/val v+1)
  (hk : ∀ (W':N') (o':o_) (q':Nat),W'.length=v.length+1->A7 W'->val W'=val W%val v->q'=val W/val v->K (.int .u32 (q':Int)) [(71012,71012,.rw 1 ((A++W'++C).map AM)),(28,28,.rw 1 (w.map AM)),(71012,71012,.rw 1 o')])
  (ic : ∀ (W':N') (o':o_) (q':Nat),W'.length=v.length+1->A7 W'->val W'=val W%val v->q'=val W/val v->K (.int .u32 (q':Int)) [(71012,71012,.rw 1 ((A++W'++C).map AM)),(71012,71012,.rw 1 o'),(28,28,.rw 1 (w.map AM))]) :
  AA L Ag3 ([(86,.int .i64 0),(85,.int .i64 v.length),(84,.sl false (v.map AM)),(10,.int .u64 0),(9,.int .u64 0),(7,.int .u64 (q:Int)),(5,.int .i64 v.length),(0,AV.row 71012 0 1 j (v.length+1)),(1,AV.sl false (Hc AM v))]++HI 1000 (mH v j m s xl))
   [(71012,71012,BF.rw 1 (Hc AM (A++W++C))),(28,28,BF.rw 1 (Hc AM w))] (sM 1000 G2 (mH v j m s xl) K):=by
 refine cK (λ i _ _ _=>v.length-i) (λ(i:Nat) (Z:N') (c b:Nat)=>i<=v.length/\Z.length=v.length+1/\A7 Z/\c<4294967296/\b<=1/\Z.drop i=W.drop i/\val (Z.take i)+q*val (v.take i)=val (W.take i)+4294967296^i*(c+b)) (λ i Z c b=>[(86,.int .i64 i),(10,.int .u64 (b:Int)),(9,.int .u64 (c:Int))]) (λ i Z c b=>[(71012,71012,.rw 1 ((A++Z++C).map AM))]) [] [] 0 W 0 0 B' ⟨O',hW,D2,O',O',rfl,by simp [val]⟩ ?_;intro i Z c b ⟨p1,p2,p3,p4,p5,p6,p7⟩ ih;by_cases hi:i<v.length
 ·obtain ⟨d,hd⟩:=H' v i hi
  obtain ⟨u,hu⟩:=H' Z i;have bg:=fy.at hd;have oz:=p3.at hu;obtain ⟨pr,ve⟩ : ∃ pr,pr=q*d+c:=⟨_,rfl⟩;obtain ⟨m1,m2,m3⟩:=Sg r1 bg p4 ve;have Ah:W[i]? = some u:=by
   have e1:(Z.drop i)[0]? = (W.drop i)[0]? := by rw[p6]
   simpa [hu] using e1.symm
  repeat' (first|(apply AG<;>intro hc<;>try omega)|(apply AX;omega)|(apply G5;omega)|(apply QC;omega)|apply GH|(apply CD;omega)|(refine A4 V' ?_ rfl ?_;omega)|apply AE)<;>conv=>whnf
  rw[<-ve];refine RW i hu O' ?_;conv=>whnf
  repeat' (first|(apply AX;omega)|(apply cY;omega)|(apply CD;omega)|apply GV)<;>conv=>whnf
  obtain ⟨s1,s2⟩:=jE oz (show pr%4294967296<4294967296 by omega) p5;have g9:=AkT p7 ve rfl oz p5;generalize E9 (E9 u (pr%4294967296)) b=t at *;refine N5 i O' O' ?_;conv=>whnf
  repeat' (first|(apply AP;omega)|apply cX)<;>conv=>whnf
  refine BN [] B' (ih (i+1) _ _ _ O' ⟨O',by simpa using p2,p3.set _ O',m1,s2,?_,?_⟩)
  ·rw[Fc O']
   have e1:(Z.drop i).drop 1=(W.drop i).drop 1:=by rw[p6]
   simpa using e1
  ·rw[G4 O',EO hd,EO Ah,Na]
   exact g9
 ·obtain rfl:i=v.length:=O'
  clear ih;obtain ⟨u,hu⟩:=H' Z v.length;have oz:=p3.at hu;have Ah:W[v.length]? = some u:=by
   have e1:(Z.drop v.length)[0]? = (W.drop v.length)[0]? := by rw[p6]
   simpa [hu] using e1.symm
  rw[DM (sa v.length)]at p7;obtain ⟨s1,s2⟩:=jE oz p4 p5;have g9:=AkR p7 rfl oz p4 p5;have eW:val W=val (W.take v.length)+4294967296^v.length*u:=by
   rw[<-EO Ah,DM O']
  rw[<-eW,<-G4 (show v.length<Z.length by omega),DM G']at g9;repeat' (first|(apply AG<;>intro hc<;>try omega)|(apply AX;omega)|apply AE)<;>conv=>whnf
  refine RW v.length hu O' ?_;conv=>whnf
  repeat' (first|(apply AX;omega)|(apply cY;omega)|(apply CD;omega)|apply GV)<;>conv=>whnf
  generalize E9 (E9 u c) b=t at *;refine N5 v.length O' O' ?_;conv=>whnf
  repeat' (first|(apply AG<;>intro hc<;>try omega)|apply cX|(apply E0;omega)|apply AR)<;>conv=>whnf
  ·have zm:t/9223372036854775808=0:=O'
   rw[zm,Ib,yb]at g9;obtain ⟨y1,y2⟩:=vH ag r2 g9;exact ⟨rfl,_,rfl,hk _ _ _ (by simpa using p2) (p3.set _ O') y2 y1⟩
  ·have Ld:t/9223372036854775808=1:=O'
   rw[Ld,Nat.mul_one]at g9;have He:A7 (Z.set v.length (t%4294967296)):=p3.set _ O';have zd:(Z.set v.length (t%4294967296)).length=v.length+1:=by simpa using p2
   clear p7 p6 p4 p5 s1 s2 eW Ld hu Ah oz p1 p2 p3;generalize Z.set v.length (t%4294967296)=X at *;have Fa:=FZ He;rw[zd,Na]at Fa;obtain ⟨y1,y2,y3⟩:=vG ag r3 Fa g9;have hRV:val W%val v<val v:=Oc _ ag;have Dd:=FZ fy;obtain ⟨xw,El⟩:=H' X v.length;have eX:val X=val (X.take v.length)+4294967296^v.length*xw:=by
    rw[<-EO El,DM O']
   refine HK (λ i _ _=>v.length-i) (λ(i:Nat) (Z:N') (c:Nat)=>i<=v.length/\Z.length=v.length+1/\A7 Z/\c<=1/\Z.drop i=X.drop i/\val (Z.take i)+4294967296^i*c=val (X.take i)+val (v.take i)) (λ i Z c=>[(139,.int .i64 i),(9,.int .u64 (c:Int))]) (λ i Z c=>[(71012,71012,.rw 1 ((A++Z++C).map AM))]) 0 X 0 ⟨O',zd,He,O',rfl,by simp [val]⟩ ?_;intro i Z c ⟨p1,p2,p3,p4,p6,p7⟩ ih;by_cases hi:i<v.length
   ·obtain ⟨d,hd⟩:=H' v i hi
    obtain ⟨u,hu⟩:=H' Z i;have bg:=fy.at hd;have oz:=p3.at hu;have nh:X[i]? = some u:=by
     have e1:(Z.drop i)[0]? = (X.drop i)[0]? := by rw[p6]
     simpa [hu] using e1.symm
    have bq:=sV (d:=d) (w:=u) p7 rfl;repeat' (first|(apply AG<;>intro hc<;>try omega)|(apply AX;omega)|(refine A4 V' ?_ rfl ?_;omega)|apply AE)<;>conv=>whnf
    refine RW i hu O' ?_;conv=>whnf
    repeat' (first|(apply AX;omega)|(apply G5;omega)|(apply CD;omega)|apply GV)<;>conv=>whnf
    generalize Qv:u+d+c=t2 at *;refine N5 i O' O' ?_;conv=>whnf
    repeat' (first|(apply AP;omega)|apply GH)<;>conv=>whnf
    refine BN [] B' (ih (i+1) _ _ O' ⟨O',by simpa using p2,p3.set _ O',O',?_,?_⟩)
    ·rw[Fc O']
     have e1:(Z.drop i).drop 1=(X.drop i).drop 1:=by rw[p6]
     simpa using e1
    ·rw[G4 O',EO hd,EO nh,Na]
     exact bq
   ·obtain rfl:i=v.length:=O'
    clear ih;obtain ⟨u,hu⟩:=H' Z v.length;have oz:=p3.at hu;have nh:X[v.length]? = some u:=by
     have e1:(Z.drop v.length)[0]? = (X.drop v.length)[0]? := by rw[p6]
     simpa [hu] using e1.symm
    rw[nh]at El;obtain rfl:u=xw:=by simpa using El
    rw[DM (sa v.length)]at p7;have Hg:=FZ (p3.take v.length);rw[ea,Kc O']at Hg;rw[eX]at y3;have gl:=sU p7 y3 O' Hg;rw[<-G4 (show v.length<Z.length by omega),DM G']at gl;repeat' (first|(apply AG<;>intro hc<;>try omega)|(apply AX;omega)|apply AE)<;>conv=>whnf
    refine RW v.length hu O' ?_;conv=>whnf
    repeat' (first|(apply AX;omega)|apply sG|(apply E0;omega))<;>conv=>whnf
    refine N5 v.length O' O' ?_;conv=>whnf
    repeat' (first|(apply J8;omega;omega)|(apply E0;omega))<;>conv=>whnf
    exact ⟨rfl,_,rfl,ic _ _ _ (by simpa using p2) (p3.set _ O') gl y1⟩
theorem Af7 (N:c4 L) (hA:A.length=j) (hW:W.length=v.length+1) (D2:A7 W) (fy:A7 v) (gq:2<=v.length) (yc:v.length<=549755813888) (ag:0<val v)
  (n2:4294967296^(v.length-1)*2147483648<=val v) (g2:val W<4294967296*val v)
  (hk : ∀ (W':N') (o':o_) (q':Nat),W'.length=v.length+1->A7 W'->val W'=val W%val v->q'=val W/val v->K (.int .u32 (q':Int)) [(71012,71012,.rw 1 ((A++W'++C).map AM)),(28,28,.rw 1 (w.map AM)),(71012,71012,.rw 1 o')])
  (ic : ∀ (W':N') (o':o_) (q':Nat),W'.length=v.length+1->A7 W'->val W'=val W%val v->q'=val W/val v->K (.int .u32 (q':Int)) [(71012,71012,.rw 1 ((A++W'++C).map AM)),(71012,71012,.rw 1 o'),(28,28,.rw 1 (w.map AM))]) :
  BG L 73 [AV.row 71012 0 1 j (v.length+1),AV.sl false (Hc AM v)] (mH v j m s xl) [(71012,71012,BF.rw 1 (Hc AM (A++W++C))),(28,28,BF.rw 1 (Hc AM w))] K:=by
 obtain ⟨UL,a1,a2⟩:=jO D2 (n:=v.length+1) O' O';obtain ⟨VL,b5,b6⟩:=Zn fy (n:=v.length) gq O';obtain ⟨u0,w0⟩:=H' W v.length;obtain ⟨u1,w1⟩:=H' W (v.length-1);obtain ⟨u2,w2⟩:=H' W (v.length-2);obtain ⟨f1,x1⟩:=H' v (v.length-1);obtain ⟨f2,x2⟩:=H' v (v.length-2);rw[show v.length+1-3=v.length-2 by omega,show v.length+1-2=v.length-1 by omega,show v.length+1-1=v.length by omega,HO w0,HO w1,HO w2]at a2;rw[show v.length+1-3=v.length-2 by omega]at a1;rw[HO x1,HO x2]at b6;have wu:=Ym fy (k:=v.length-1) O' n2 x1;have k0:=D2.at w0;have k1:=D2.at w1;have k2:=D2.at w2;have k3:=fy.at x1;have k4:=fy.at x2;have z1:v[((v.length:Int)-1).toNat]? = some f1:=by rw[show ((v.length:Int)-1).toNat=v.length-1 by omega];exact x1
 have z2:v[((v.length:Int)-2).toNat]? = some f2:=by rw[show ((v.length:Int)-2).toNat=v.length-2 by omega];exact x2
 refine GU 1000 N.G2 rfl rfl ?_;repeat' (first|(apply AX;omega)|apply AR|apply AE)<;>conv=>whnf
 refine RW v.length w0 O' ?_;conv=>whnf
 repeat' (first|(apply AX;omega)|(apply BS;omega)|(apply N1;omega)|(apply CD;omega))<;>conv=>whnf
 refine RW (v.length-1) w1 O' ?_;conv=>whnf
 refine rY O' ?_;conv=>whnf
 refine QD O' ?_;conv=>whnf
 generalize Ra:u0*4294967296+u1=top at *;have pz:top<=18446744073709551615:=O'
 have hU:val W=UL+4294967296^(v.length-2)*(u2+4294967296*top):=by rw[a2,show u1+4294967296*u0=top by omega]
 repeat' (first|(apply BS;omega)|(apply ZP;omega)|(apply cW;omega;omega)|(apply CD;omega)|(refine A4 V' ?_ rfl ?_;omega))<;>conv=>whnf
 refine ZI (λ q _=>q) (λ(q r:Nat)=>Gs (val W) (val v) f1 f2 u2 top q r) (λ q r=>[(7,.int .u64 (q:Int)),(8,.int .u64 (r:Int))]) (λ_ _=>[]) [] [] (top/f1) (top%f1) B' (Gs.start hU b6 a1 k2 ag O' k3) ?_;intro q r g lz;have hqt:q<=top:=by
  have h3:=g.hq;have h4:q*1<=q*f1:=Oa q O';omega
 have hr:=g.hr;have mi:=g.ge;by_cases hb:4294967296<=q
 ·obtain ⟨y1,y2,y3⟩:=g.next hU b6 a1 ag g2 (Or.inl hb)
  repeat' (first|(apply AG<;>intro hc<;>try omega)|(apply BS;omega)|(apply G5;omega)|(apply J8;omega;omega)|(apply CD;omega)|apply AR|(refine A4 V' ?_ rfl ?_;omega)|apply AE)<;>conv=>whnf
  ·obtain ⟨t1,t2⟩:=YN hU b6 b5 wu k4 g2 y2 (Or.inr O')
   exact BN [] B' (lY (w:=w) (C:=C) hA hW D2 fy gq yc ag t1 y3 t2 hk ic)
  ·exact BN [] B' (lz (q-1) (r+f1) O' ⟨y2,O',y3⟩)
 ·have hmq:=YW (show q<4294967296 by omega) k4
  by_cases u4:r*4294967296+u2<q*f2
  ·obtain ⟨y1,y2,y3⟩:=g.next hU b6 a1 ag g2 (Or.inr u4)
   repeat' (first|(apply AG<;>intro hc<;>try omega)|(apply AX;omega)|(apply BS;omega)|(apply QC;omega)|(apply N1;omega)|(apply CD;omega)|(refine A4 V' ?_ rfl ?_;omega)|apply AE)<;>conv=>whnf
   refine RW (v.length-2) w2 O' ?_;conv=>whnf
   repeat' (first|(apply AG<;>intro hc<;>try omega)|(apply BS;omega)|(apply G5;omega)|(apply QD;omega)|(apply J8;omega;omega)|(apply CD;omega)|apply AR|(refine A4 V' ?_ rfl ?_;omega))<;>conv=>whnf
   ·obtain ⟨t1,t2⟩:=YN hU b6 b5 wu k4 g2 y2 (Or.inr O')
    exact BN [] B' (lY (w:=w) (C:=C) hA hW D2 fy gq yc ag t1 y3 t2 hk ic)
   ·exact BN [] B' (lz (q-1) (r+f1) O' ⟨y2,O',y3⟩)
  ·obtain ⟨t1,t2⟩:=YN hU b6 b5 wu k4 g2 g.hq (Or.inl ⟨O',O'⟩)
   repeat' (first|(apply AG<;>intro hc<;>try omega)|(apply AX;omega)|(apply BS;omega)|(apply QC;omega)|(apply N1;omega)|(apply CD;omega)|(refine A4 V' ?_ rfl ?_;omega)|apply AE)<;>conv=>whnf
   refine RW (v.length-2) w2 O' ?_;conv=>whnf
   repeat' (first|(apply AG<;>intro hc<;>try omega)|(apply QD;omega)|(apply CD;omega)|apply AR)<;>conv=>whnf
   exact BN [] B' (lY (w:=w) (C:=C) hA hW D2 fy gq yc ag t1 mi t2 hk ic)
end
end Go.c6

namespace Go.c6
open F
attribute [local irreducible] AA AF AL AC CQ AW BA A8 B3 BL CN D4 BP A1 B6 CF AB BG AH pw BV BO CS CY C2 BX CG BU CX
variable {L:Lib}
theorem AmI {V R y d t Q:Nat} (h:Q*y+R=V) (ht:t=R*4294967296+d):(t/y+4294967296*Q)*y+t%y=d+4294967296*V:=by
 have:=ie t y
 rw[<-h,tf];have e:t/y*y=y*(t/y):=Ob _ _;grind
theorem Z5 (a b:N'):A3 (.c5 [.sl false (a.map AM),.sl false (b.map AM)]):=by
 simp only[A3,B7,and_true,true_and];exact ⟨CP a,CP b⟩
set_option maxHeartbeats 4000000 in
theorem mV (N:c4 L) (X Y:Nat) (q1 q2:Bool) (hY:Y≠0) (lx:(dg X).length<=549755813888) (ly:(dg Y).length<=549755813888):Ev L 74 [.sl q1 ((dg X).map AM),.sl q2 ((dg Y).map AM)] (.c5 [.sl false ((dg (X/Y)).map AM),.sl false ((dg (X%Y)).map AM)]):=by
 have l7:=λ q q'=>QQ N (dg X) (dg Y) q q' (EF X) (EF Y) O' O'
 rw[B2,B2]at l7;have d1:=EF X;have d2:=EF Y;have v1:=B2 X;have v2:=B2 Y;have hy1:=aB hY;refine Ev.x N.L9 rfl rfl ?_;by_cases j9:X<Y
 ·have hn:DL X Y = -1:=(JP O').symm
  rw[hn]at l7;repeat' (first|(apply AG<;>intro hc<;>try omega)|apply AE|refine AD (l7 _ _) ?_|refine AD (wU N (dg X) _ O') ?_)<;>conv=>whnf
  refine AY ?_ (Z5 _ _);rw[xe j9,Gc j9,FY];rfl
 have mi:0<=DL X Y:=by unfold DL;split<;>(try split)<;>omega
 have zk:=SE (show Y<=X by omega);generalize DL X Y=cm at *;by_cases h1:(dg Y).length=1
 ·-- one digit
  obtain ⟨y0,qz⟩ : ∃ y0,dg Y=[y0]:=List.length_eq_one_iff.1 h1;have zo:Y=y0:=by rw[<-v2,qz];simp [val]
  subst zo;have Ck:Y<4294967296:=d2 Y (by rw[qz];simp);have hyg:(dg Y)[0]? = some Y:=by rw[qz];rfl
  clear qz v2;generalize dg Y=y at *;generalize hx:dg X=x at *;repeat' (first|(apply AG<;>intro hc<;>try omega)|(apply AP;omega)|(apply BS;omega)|apply AR|apply AE|refine AD (l7 _ _) ?_)<;>conv=>whnf
  refine DW (enc:=AM) 0 x.length rfl O' O' ?_;conv=>whnf
  repeat' (first|(apply AG<;>intro hc<;>try omega)|(apply BS;omega)|apply AR)<;>conv=>whnf
  refine HK (λ n _ _=>n) (λ(n:Nat) (o:N') (r:Nat)=>n<=x.length/\o.length=x.length/\A7 o/\r<Y/\val (o.drop n)*Y+r=val (x.drop n)) (λ n o r=>[(8,.int .u64 (r:Int)),(9,.int .i64 ((n:Int)-1))]) (λ n o r=>[(28,28,.rw 1 (o.map AM))]) x.length (ya x.length 0) 0 ⟨O',Z',KC _,O',by rw[qa (sa _),qa Z'];simp [val]⟩ ?_;intro n o r ⟨p1,p2,p3,p4,p5⟩ ih;rcases n with _|n
  ·rw[Ja,Ja]at p5
   have hq:X/Y=val o/\X%Y=r:=by
    rw[<-v1,<-p5];have e1:(val o*Y+r)/Y=val o:=by
     rw[Ob,kh O',xe p4,yb]
    have e2:(val o*Y+r)%Y=r:=by
     rw[Ob,lh,Gc p4]
    exact ⟨e1,e2⟩
   rw[hq.1,hq.2,<-p2];clear ih hq p5;have iv:=FN p3;have z0:A7 [r]:=IP O';have eo:=FN z0;have Lf:val [r]=r:=by simp [val]
   have Kv:[r].length=1:=rfl;repeat' (first|(apply AG<;>intro hc<;>try omega)|(apply E0;omega)|apply AE|refine cM N V' O' rfl (by first|rfl|omega|assumption) ?_)<;>conv=>whnf
   refine I2 (enc:=AM) (λ_=>rfl) O' ?_;conv=>whnf
   refine I2 (enc:=AM) (l:=[r]) (λ_=>rfl) O' ?_;conv=>whnf
   refine AY ?_ (Z5 _ _);rw[Ja,Ja,cD p3,cD z0,Lf]
  ·have e1:((n+1:Nat):Int)-1=n:=O'
   rw[e1];obtain ⟨d,hd⟩:=H' x n;have bg:=d1.at hd;have Hf:Y<4294967296:=Ck;have hR:r*4294967296+d<Y*4294967296:=O'
   have fb:(r*4294967296+d)/Y<4294967296:=(mg O').2 O';repeat' (first|(apply AG<;>intro hc<;>try omega)|(apply AX;omega)|(apply N1;omega)|(apply QD;omega)|(apply cW;omega;omega)|(apply CD;omega)|(apply E0;omega)|(refine A4 V' ?_ rfl ?_;omega)|apply AE)<;>conv=>whnf
   obtain ⟨t,ht⟩ : ∃ t,t=r*4294967296+d:=⟨_,rfl⟩;rw[<-ht]at hR fb ⊢;have hm:t%Y<Y:=Oc _ O';have g9:=AmI p5 ht;rw[<-II hd]at g9;clear ht;skip
   refine F9 O' ?_;conv=>whnf
   repeat' (first|(apply BS;omega)|(apply ZP;omega)|(apply CD;omega)|(refine A4 V' ?_ rfl ?_;omega))<;>conv=>whnf
   generalize t/Y=tq at *;generalize t%Y=tr at *;refine BN [] B' (ih n _ _ O' ⟨O',by simpa using p2,p3.set _ O',hm,?_⟩);rw[II (l:=o.set n tq) (d:=tq) (by rw[ue O']),Fc O'];exact g9
 ·-- two digits or more
  have Kx:2<=(dg Y).length:=O'
  obtain ⟨yt,Az,Ba⟩:=lX hY;have yg:=d2.at Az;obtain ⟨b1,b2,b3,b4⟩:=oS Ba yg;have Ih:=wZ N yt yg;generalize hs:32-n9 yt=s at *;have dj:s<=31:=O'
  generalize dg Y=y at *;generalize hx:dg X=x at *;have e1:((y.length:Int)-1).toNat=y.length-1:=O'
  rw[<-e1]at Az;obtain ⟨rv,Fm,v,hV,gd,Qk⟩:=Ah7 N y q2 s y.length d2 dj O' O';subst Qk;repeat' (first|(apply AG<;>intro hc<;>try omega)|(apply AP;omega)|(apply BS;omega)|apply AR|apply AE|refine AD (l7 _ _) ?_)<;>conv=>whnf
  refine DW (enc:=AM) 0 (x.length-y.length+1) rfl O' O' ?_;conv=>whnf
  repeat' (first|(apply AG<;>intro hc<;>try omega)|(apply AP;omega)|(apply BS;omega)|(apply CD;omega)|apply AR|(refine A4 V' ?_ rfl ?_;omega)|refine AD (Ih) ?_)<;>conv=>whnf
  refine GU 1000 N.MB rfl rfl ?_;(repeat' (apply AE<;>conv=>whnf))
  refine DW (enc:=AM) 0 (x.length+1) rfl O' O' ?_;conv=>whnf
  (repeat' (apply AR<;>conv=>whnf))
  have vf:=bD (s:=s) O';refine HK (λ i _ _=>x.length-i) (λ(i:Nat) (o:N') (lo:Nat)=>i<=x.length/\o.length=x.length+1/\A7 o/\lo<2^s/\val (o.take i)+4294967296^i*lo=val (x.take i)*2^s) (λ i o lo=>[(8,.int .u32 (lo:Int)),(15,.int .i64 i)]) (λ i o lo=>[(71012,71012,.rw 1 (o.map AM))]) 0 (ya (x.length+1) 0) 0 ⟨O',Z',KC _,oc s,by simp [val]⟩ ?_;intro i o lo ⟨p1,p2,p3,p4,p5⟩ ih;by_cases hi:i<x.length
  ·obtain ⟨d,hd⟩:=H' x i hi
   have bg:=d1.at hd;obtain ⟨f1,f2,f3,f4⟩:=XF (s:=s) bg O';repeat' (first|(apply AG<;>intro hc<;>try omega)|(refine A4 V' ?_ rfl ?_;omega)|apply AE)<;>conv=>whnf
   refine sJ O' ?_;conv=>whnf
   skip
   refine kB s f1 p4 O' ?_;conv=>whnf
   repeat' (first|(apply AX;omega)|fail)<;>conv=>whnf
   refine F9 O' ?_;conv=>whnf
   repeat' (first|(apply CD;omega)|fail)<;>conv=>whnf
   refine QF O' f4 ?_;conv=>whnf
   repeat' (first|(apply AP;omega)|apply GH|(apply E0;omega))<;>conv=>whnf
   rw[<-XD];refine BN [] B' (ih (i+1) _ _ O' ⟨O',by simpa using p2,p3.set _ O',f2,?_⟩);rw[G4 O',EO hd,Na];exact Sx p5
  obtain rfl:i=x.length:=O'
  clear ih;repeat' (first|(apply AG<;>intro hc<;>try omega)|(apply AX;omega)|apply AR|apply AE)<;>conv=>whnf
  refine F9 O' ?_;conv=>whnf
  skip
  have hU:=Sw p3 O' p2 p5;have Bm:(o.set x.length lo).length=x.length+1:=by simpa using p2
  clear p3 p4 p5 p2;generalize o.set x.length lo=u at *;refine ⟨rfl,_,rfl,?_⟩;conv=>whnf
  repeat' (first|(apply BS;omega)|apply AR|refine AD (Fm) ?_)<;>conv=>whnf
  have Rl:y[y.length-1]? = some yt:=by rw[<-e1];exact Az
  obtain ⟨n1,n2⟩:=oK d2 Rl O' dj b3 b4;have Kj:val v=Y*2^s:=by rw[<-v2];exact hV.2.2 (by rw[gd];exact n1)
  have Ki:val u=X*2^s:=by
   rw[<-v1];refine hU.2.2 ?_;have h3:=FZ d1;rw[Bm,Na];exact Mb (ef h3 (oc s)) (Oa _ vf)
  have fy:=hV.1;have Kg:=hU.1;have De:=FZ fy;rw[v2,<-Kj]at n2;rw[<-gd]at n2;clear hV hU l7 Fm Ih;have gq:2<=v.length:=O'
  have hvx:v.length<=x.length:=O'
  have yc:v.length<=549755813888:=O'
  have hxL:x.length<=549755813888:=O'
  have hX:X<4294967296^x.length:=by rw[<-v1];exact FZ d1
  rw[<-gd];generalize hm:x.length-v.length+1=m at *;have ag:0<val v:=by
   have:=Vf (v.length-1)
   omega
  have td:val (u.drop m)<val v:=by
   have h1:=LI u m O';rw[Ki]at h1;have h2:X*2^s<4294967296^x.length*2147483648:=Mb (ef hX (oc s)) (Oa _ (eb O' dj));have h3:4294967296^x.length=4294967296^m*4294967296^(v.length-1):=by rw[<-zc];congr 1;omega
   rw[h3,Hb]at h2;refine Mb ?_ n2;refine Nb (a:=4294967296^m) ?_;omega
  have e2:(x.length:Int)-v.length=((m:Nat):Int)-1:=O'
  rw[e2];refine HK (λ n _ _=>n) (λ(n:Nat) (o w:N')=>n<=m/\o.length=x.length+1/\A7 o/\w.length=m/\A7 w/\val (o.drop n)<val v/\X*2^s=val (o.take n)+4294967296^n*(val (w.drop n)*val v+val (o.drop n))) (λ n o w=>[(14,.int .i64 ((n:Int)-1))]) (λ n o w=>[(71012,71012,.rw 1 (o.map AM)),(28,28,.rw 1 (w.map AM))]) m u (ya m 0) ⟨O',Bm,Kg,Z',KC _,td,by rw[<-Ki,qa (show (ya m 0).length<=m by simp),J7,Mh,Pc];exact LI u m O'⟩ ?_;intro n o w ⟨p1,p2,p3,p4,p5,p6,p7⟩ ih;rcases n with _|j
  ·clear ih
   rw[Ja]at p6;rw[List.take_zero,Ja,Ja,J7,Pc,Nat.pow_zero,wi]at p7;have qo:val o=val (o.take v.length):=by
    have h1:=XN o v.length;rcases Cd (val (o.drop v.length)) with h2|h2
    ·rw[h2,Ib,yb]at h1;exact h1
    ·have h3:4294967296^v.length*1<=4294967296^v.length*val (o.drop v.length):=Oa _ h2
     omega
   have yz:X/Y=val w/\X%Y=val o/2^s:=by
    obtain ⟨z1,z2⟩:=vK (X:=X) (Y:=Y) (oc s);rw[<-z1,<-z2,<-Kj,p7];have e1:(val w*val v+val o)/val v=val w:=by
     rw[Ob,kh ag,xe p6,yb]
    have e2:(val w*val v+val o)%val v=val o:=by
     rw[Ob,lh,Gc p6]
    rw[e1,e2];exact ⟨rfl,rfl⟩
   rw[yz.1,yz.2];have iv:=FN p5;obtain ⟨ro,Au,o2,k1,k2,k3,k4⟩:=Ah8 N (o.take v.length) true s (p3.take _) dj F';subst k4;rw[qo,<-k3];have eo:=FN k1;rw[ea]at k2;clear p7 yz td;repeat' (first|(apply AG<;>intro hc<;>try omega)|apply AE|refine cM N V' O' rfl (by first|rfl|omega|assumption) ?_)<;>conv=>whnf
   refine HV v.length rfl O' ?_;conv=>whnf
   refine I2 (enc:=AM) (λ_=>rfl) O' ?_;conv=>whnf
   rw[Ja,Nat.sub_zero];repeat' (first|refine AD (Au) ?_|refine LK (MU N o2 _ k1 O') ?_)<;>conv=>whnf
   refine I2 (enc:=AM) (λ_=>rfl) O' ?_;conv=>whnf
   refine AY ?_ (Z5 _ _);rw[Ja,cD p5]
  ·have e3:((j+1:Nat):Int)-1=j:=O'
   rw[e3];have e4:(v.length:Int).toNat=v.length:=O'
   obtain ⟨A,W,C,hA,hW,rfl⟩:=wD o j (v.length+1) O';obtain ⟨g1,g2,g3⟩:=wF hA hW p3 p6 De;obtain ⟨D1,D2,D3⟩:=vF p3;have qt:val W/val v<4294967296:=(mg ag).2 g2;have Nc:val W=val W/val v*val v+val W%val v:=by rw[Ob];exact (ie _ _).symm
   have Df:val W%val v<val v:=Oc _ ag;have Dc:X*2^s=val A+4294967296^j*val W+4294967296^j*4294967296*(val (w.drop (j+1))*val v):=by
    rw[p7,Fb,<-g3,Na];omega
   have sv:=wE Dc Nc;have mq : ∀ q',q'=val W/val v->val ((w.set j q').drop j)=val W/val v+4294967296*val (w.drop (j+1)):=λ q' h=>by
    rw[II (l:=w.set j q') (d:=q') (by rw[ue O']),Fc O',h]
   have hlen : ∀ W':N',W'.length=v.length+1->(A++W'++C).length=x.length+1:=λ W' h=>by
    rw[<-p2];simp [h,hW]
   repeat' (first|(apply AG<;>intro hc<;>try omega)|(apply AP;omega)|(apply jT;omega)|apply AE)<;>conv=>whnf
   rw[show ((j:Int)+v.length+1).toNat-(j:Int).toNat=v.length+1 by omega,show 0+(j:Int).toNat=j by omega];refine Af7 N hA hW D2 fy gq yc ag n2 g2 (λ W' o' q' z1 z2 z3 z4 => ?_) (λ W' o' q' z1 z2 z3 z4 => ?_)
   ·(conv=>whnf)
    repeat' (first|(apply AX;omega)|fail)<;>conv=>whnf
    refine F9 O' ?_;conv=>whnf
    repeat' (first|(apply BS;omega)|fail)<;>conv=>whnf
    obtain ⟨t1,t2⟩:=mI (A:=A) (W:=W') (C:=C) (j:=j) hA g1;refine BN [] B' (ih j (A++W'++C) (w.set j q') O' ⟨O',hlen W' z1,(D1.append z2).append D3,by simpa using p4,p5.set _ O',O',?_⟩);rw[t1,t2,mq q' z4,z3];exact sv
   ·(conv=>whnf)
    repeat' (first|(apply AX;omega)|fail)<;>conv=>whnf
    refine F9 O' ?_;conv=>whnf
    repeat' (first|(apply BS;omega)|fail)<;>conv=>whnf
    obtain ⟨t1,t2⟩:=mI (A:=A) (W:=W') (C:=C) (j:=j) hA g1;refine BN [] B' (ih j (A++W'++C) (w.set j q') O' ⟨O',hlen W' z1,(D1.append z2).append D3,by simpa using p4,p5.set _ O',O',?_⟩);rw[t1,t2,mq q' z4,z3];exact sv
end Go.c6

namespace Go.c6
open F
attribute [local irreducible] AA AF AL AC CQ AW BA A8 B3 BL CN D4 BP A1 B6 CF AB BG AH pw BV BO CS CY C2 BX CG BU CX
variable {L:Lib}
theorem sK {k':IntKind} {a:Int} {K:AV->Prop} (hk:K (.int .i64 (a/4294967296))):AC .shr .i64 a k' 32 K:=by
 refine Aeh O' ?_;have:pw 32=4294967296:=by decide +kernel
 rw[this];exact hk
theorem rX {t:Int} {K:Int->Prop} (hk:K (Z6 t:Int)):A5 .u32 t K:=by
 refine ⟨?_⟩;rw[IntKind.wrap_u32,<-lD];exact hk
section
variable {k':IntKind} {a b:Nat} {K:AV->Prop}
theorem Aeg {i:Nat} (hi:i<2) (ha:a<4294967296) (hk:K (.int .u64 ((a*4294967296^i:Nat):Int))):AC .shl .u64 (a:Int) k' (32*(i:Int)) K:=by
 rcases i with _|_|i
 ·exact QF (s:=0) O' O' hk
 ·exact QF (s:=32) O' O' hk
 ·omega
end
theorem Ud {x y M N:Int} (hx : -M<=x/\x<=M) (hy : -N<=y/\y<=N) : -(M*N)<=x*y/\x*y<=M*N:=by
 have h1:x.natAbs<=M.natAbs:=O'
 have h2:y.natAbs<=N.natAbs:=O'
 have h3:=ec h1 h2;rw[<-Eb,<-Eb]at h3;have h4:0<=M*N:=Mf O' O';omega
theorem mT (N:c4 L) (a b:N') (q1 q2:Bool) (hA:A7 a) (hB:A7 b) (la:a.length<=549755813888) (lb:b.length<=549755813888) (h0:val b≠0) :
  Ev L 75 [.sl q1 (a.map AM),.sl q2 (b.map AM)] (.c5 [.sl false ((dg (val a/val b)).map AM),.sl false ((dg (val a%val b)).map AM),.int .i64 0]):=by
 have l1:=FN hA;have l2:=FN hB;have hp:=aB h0;refine Ev.x N.TJ rfl rfl ?_;repeat' (first|(apply AG<;>intro hc<;>try omega)|apply AR|apply AE|refine LK (MU N a _ hA O') ?_|refine LK (MU N b _ hB O') ?_|refine AD (mV N _ _ _ _ h0 O' O') ?_)<;>conv=>whnf
 refine AY rfl ?_;simp only[A3,B7,and_true,true_and];exact ⟨CP _,CP _⟩
theorem xP (N:c4 L) (V:Nat) (q:Bool) (hl:(dg V).length<=2):Ev L 76 [.sl q ((dg V).map AM)] (.int .u64 (V:Int)):=by
 have hV:=OH.1 hl;have hD:=EF V;have hv:=B2 V;refine Ev.x N.O0 rfl rfl ?_;generalize dg V=l at *;repeat' (first|apply AR|apply AE)<;>conv=>whnf
 refine FJ (λ i _=>l.length-i) (λ(i:Nat) (a:Nat)=>i<=l.length/\a=val (l.take i)) (λ i a=>[(3,.int .u64 (a:Int)),(8,.int .i64 i)]) (λ_ _=>[]) 0 0 ⟨O',rfl⟩ ?_;intro i a ⟨p1,p2⟩ ih;by_cases hi:i<l.length
 ·obtain ⟨d,hd⟩:=H' l i hi
  have bg:=hD.at hd;have h1:=EO hd;have h2:=FZ (hD.take i);have h3:=FZ (hD.take (i+1));rw[ea,Kc O']at h2 h3;have h4:4294967296^(i+1)<=4294967296^2:=eb O' O';repeat' (first|(apply AG<;>intro hc<;>try omega)|(apply FL;omega)|(apply CD;omega)|(refine A4 V' ?_ rfl ?_;omega)|apply AE)<;>conv=>whnf
  refine Aeg O' bg ?_;conv=>whnf
  rw[Ob d];refine cV (32*i) (by rw[ig];exact Nat.mul_mod_right _ _) (by rw[ig,p2];exact h2) O' ?_;conv=>whnf
  repeat' (first|(apply AP;omega)|fail)<;>conv=>whnf
  exact BN [] B' (ih (i+1) _ O' ⟨O',by rw[h1,p2]⟩)
 ·obtain rfl:i=l.length:=O'
  clear ih;repeat' (first|(apply AG<;>intro hc<;>try omega)|apply AE)<;>conv=>whnf
  rw[DM (sa _)]at p2;exact CJ O'
theorem jU {f:Nat} {vs:u_} {tm:Tm} {M:Mem} {K:AV->Mem->Prop} {v:AV} (h:BG L f vs tm M (λ r M'=>r=v/\M'=M)) (hk:K v M):BG L f vs tm M K:=by
 unfold BG at h ⊢;intro σ own hs;obtain ⟨r,m4,σ',M',h1,h2,h3,rfl,rfl⟩:=h σ own hs;exact ⟨_,m4,σ',_,h1,h2,h3,hk⟩
theorem xO (N:c4 L) (a:N') (q:Bool) (n s:Nat) (hD:A7 a) (hn:3<=n) (hl:a.length<=n) (Kx:n<=549755813888) (hs:s<=31) (j9:val a*2^s<4294967296^n) :
  Ev L 78 [.sl q (a.map AM),.int .i64 (n:Int),.int .u64 (s:Int)] (.int .i64 ((val a/YP n s:Nat):Int)):=by
 have b1:=SZ hD (n-1);have b2:=SZ hD (n-2);have b3:=SZ hD (n-3);have wx:=Un hD hn hl rfl rfl j9;have heq:=Um (s:=s) hD hn hl hs rfl rfl rfl;obtain ⟨f1,f2,f3,f4⟩:=XF (s:=s) b3 O';refine Ev.x N.TL rfl rfl ?_;repeat' (first|(apply AX;omega)|(apply BS;omega)|apply AE)<;>conv=>whnf
 refine jU (v := .int .u64 ((a.getD (n-1) 0:Nat):Int)) ?_ ?_
 ·refine GU 1000 N.MA rfl rfl ?_
  repeat' (first|(apply AG<;>intro hc<;>try omega)|(apply CD;omega)|apply AR|(refine RY V' ?_ (λ e he hb => ?_);omega)|apply AE)<;>conv=>whnf
  ·refine ⟨rfl,_,rfl,?_,rfl⟩
   rw[show ((n:Int)-1).toNat=n-1 by omega]at he;rw[HO he];rfl
  ·refine ⟨rfl,_,rfl,?_,rfl⟩
   rw[<-getD_none (show a.length<=n-1 by omega)];rfl
 (conv=>whnf)
 repeat' (first|(apply AX;omega)|(apply BS;omega)|(apply N1;omega))<;>conv=>whnf
 refine jU (v := .int .u64 ((a.getD (n-2) 0:Nat):Int)) ?_ ?_
 ·refine GU 1000 N.MA rfl rfl ?_
  repeat' (first|(apply AG<;>intro hc<;>try omega)|(apply CD;omega)|apply AR|(refine RY V' ?_ (λ e he hb => ?_);omega)|apply AE)<;>conv=>whnf
  ·refine ⟨rfl,_,rfl,?_,rfl⟩
   rw[show ((n:Int)-2).toNat=n-2 by omega]at he;rw[HO he];rfl
  ·refine ⟨rfl,_,rfl,?_,rfl⟩
   rw[<-getD_none (show a.length<=n-2 by omega)];rfl
 (conv=>whnf)
 generalize a.getD (n-1) 0=d1 at *;generalize a.getD (n-2) 0=d2 at *;repeat' (first|(apply QD;omega)|fail)<;>conv=>whnf
 refine QF O' wx ?_;conv=>whnf
 generalize hT:(d1*4294967296+d2)*2^s=T at *;repeat' (first|(apply AX;omega)|(apply BS;omega))<;>conv=>whnf
 refine jU (v := .int .u64 ((a.getD (n-3) 0:Nat):Int)) ?_ ?_
 ·refine GU 1000 N.MA rfl rfl ?_
  repeat' (first|(apply AG<;>intro hc<;>try omega)|(apply CD;omega)|apply AR|(refine RY V' ?_ (λ e he hb => ?_);omega)|apply AE)<;>conv=>whnf
  ·refine ⟨rfl,_,rfl,?_,rfl⟩
   rw[show ((n:Int)-3).toNat=n-3 by omega]at he;rw[HO he];rfl
  ·refine ⟨rfl,_,rfl,?_,rfl⟩
   rw[<-getD_none (show a.length<=n-3 by omega)];rfl
 (conv=>whnf)
 generalize a.getD (n-3) 0=d3 at *;skip
 refine QF O' f4 ?_;conv=>whnf
 (repeat' (apply GH<;>conv=>whnf))
 rw[XD]at f2;refine sI s (by rw[<-hT];exact Nat.mul_mod_left _ _) f2 (by have:=gI (k:=d1*4294967296+d2) (show s<=64 by omega) O';omega) ?_;conv=>whnf
 repeat' (first|apply Aed|(apply VS;omega))<;>conv=>whnf
 rw[heq];exact CJ rfl
theorem Ah5 (N:c4 L) (P Q:Int) (hP:0<=P/\P<=4611686018427387904) (hQ:0<=Q/\Q<=4611686018427387904) : ∃ r,Ev L 79 [.int .i64 P,.int .i64 Q] r /\ ∃ a b c d:Int,(jW a b c d/\(-2147483647<=a/\a<=2147483647)/\(-2147483647<=b/\b<=2147483647)/\(-2147483647<=c/\c<=2147483647)/\(-2147483647<=d/\d<=2147483647))/\(b≠0->ZO P Q a b c d)/\r = .c5 [.int .i64 a,.int .i64 b,.int .i64 c,.int .i64 d]:=by
 refine Ev.xE N.OX rfl rfl ?_;(repeat' (apply AE<;>conv=>whnf))
 refine Adu (λ_ _ _ _ _ q=>(q+2147483648).toNat) (λ(a b c d p q:Int)=>VY P Q a b c d p q/\((-2147483647<=a/\a<=2147483647)/\(-2147483647<=b/\b<=2147483647)/\(-2147483647<=c/\c<=2147483647)/\(-2147483647<=d/\d<=2147483647))/\(p<=4611686018427387904/\q<=4611686018427387904)/\XY P Q a b c d/\(b≠0->ZO P Q a b c d)) (λ a b c d p q=>[(0,.int .i64 p),(1,.int .i64 q),(4,.int .i64 a),(5,.int .i64 b),(6,.int .i64 c),(7,.int .i64 d)]) (λ_ _ _ _ _ _=>[]) [] [] 1 0 0 1 P Q B' ⟨VY.start hP.1 hQ.1,O',O',XY.start P Q,λ h=>absurd rfl h⟩ ?_;intro a b c d p q ⟨p1,⟨⟨p2,p2'⟩,⟨p3,p3'⟩,⟨p4,p4'⟩,⟨p5,p5'⟩⟩,⟨p6,p7⟩,p8,p9⟩ ih;have g1:=p1.pa;have g2:=p1.pb;have g3:=p1.qc;have g4:=p1.qd;by_cases ib:q+c=0
 ·repeat' (first|(apply AG<;>intro hc<;>try omega)|(apply AP;omega)|apply AE)<;>conv=>whnf
  refine ⟨.c5 [.int .i64 a,.int .i64 b,.int .i64 c,.int .i64 d],?_,a,b,c,d,⟨p1.sg,O'⟩,p9,rfl⟩;conv=>whnf
  exact AY rfl (by simp [A3,B7])
 by_cases vb:q+d=0
 ·repeat' (first|(apply AG<;>intro hc<;>try omega)|(apply AP;omega)|apply AE)<;>conv=>whnf
  refine ⟨.c5 [.int .i64 a,.int .i64 b,.int .i64 c,.int .i64 d],?_,a,b,c,d,⟨p1.sg,O'⟩,p9,rfl⟩;conv=>whnf
  exact AY rfl (by simp [A3,B7])
 by_cases hff:(p+a)/(q+c)=(p+b)/(q+d)
 ·obtain ⟨s1,s2,s3,s4⟩:=p1.step ib vb rfl hff
  have s5:=s4 p8;have s6:=s5.half;have s7:=s1.qc;by_cases dp:2147483647<(p+a)/(q+c)
  ·repeat' (first|(apply AG<;>intro hc<;>try omega)|(apply AP;omega)|(refine IZ ?_ ?_ (λ_ => ?_) (λ_ _ => ?_);omega;omega;all_goals try omega)|apply AE)<;>conv=>whnf
   refine ⟨.c5 [.int .i64 a,.int .i64 b,.int .i64 c,.int .i64 d],?_,a,b,c,d,⟨p1.sg,O'⟩,p9,rfl⟩;conv=>whnf
   exact AY rfl (by simp [A3,B7])
  ·have t1:=Ud (x:=(p+a)/(q+c)) (y:=c) (M:=2147483647) (N:=2147483647) O' O'
   have t2:=Ud (x:=(p+a)/(q+c)) (y:=d) (M:=2147483647) (N:=2147483647) O' O';repeat' (first|(apply AG<;>intro hc<;>try omega)|(apply AP;omega)|(apply BS;omega)|(apply FL;omega)|(refine IZ ?_ ?_ (λ_ => ?_) (λ_ _ => ?_);omega;omega;all_goals try omega)|(apply CQ.neg;omega)|apply AE)<;>conv=>whnf
   all_goals first
    | exact BN [] B' (ih _ _ _ _ _ _ O' ⟨s1,O',O',s6,λ_=>s5⟩)
    |(refine ⟨.c5 [.int .i64 a,.int .i64 b,.int .i64 c,.int .i64 d],?_,a,b,c,d,⟨p1.sg,O'⟩,p9,rfl⟩
      (conv=>whnf)
      exact AY rfl (by simp [A3,B7]))
 ·repeat' (first|(apply AG<;>intro hc<;>try omega)|(apply AP;omega)|(refine IZ ?_ ?_ (λ_ => ?_) (λ_ _ => ?_);omega;omega;all_goals try omega)|apply AE)<;>conv=>whnf
  refine ⟨.c5 [.int .i64 a,.int .i64 b,.int .i64 c,.int .i64 d],?_,a,b,c,d,⟨p1.sg,O'⟩,p9,rfl⟩;conv=>whnf
  exact AY rfl (by simp [A3,B7])
theorem Ah6 (N:c4 L) (x y:N') (q1 q2:Bool) (f g:Int) (hX:A7 x) (hY:A7 y) (hl:y.length<=x.length) (lx:x.length<=549755813888) (hs:RS f g) (R:Nat) (hR:(R:Int)=f*val x+g*val y) (Mo:R<=val x) :
  Ev L 80 [.sl q1 (x.map AM),.sl q2 (y.map AM),.int .i64 f,.int .i64 g] (.sl false ((dg R).map AM)):=by
 refine Ev.x N.OY rfl rfl ?_;repeat' (first|apply AR|apply AE)<;>conv=>whnf
 refine DW (enc:=AM) 0 x.length rfl rfl O' ?_;conv=>whnf
 (repeat' (apply AR<;>conv=>whnf))
 refine HK (λ i _ _=>x.length-i) (λ(i:Nat) (o:N') (c:Int)=>i<=x.length/\o.length=x.length/\A7 o /\ -2147483648<=c/\c<=2147483648/\(val (o.take i):Int)+((4294967296^i:Nat):Int)*c=f*val (x.take i)+g*val (y.take i)) (λ i o c=>[(10,.int .i64 c),(19,.int .i64 i)]) (λ i o c=>[(16,16,.rw 1 (o.map AM))]) 0 (ya x.length 0) 0 ⟨O',Z',KC _,O',O',by simp [val]⟩ ?_;intro i o c ⟨p1,p2,p3,p4,p5,p6⟩ ih;by_cases hi:i<x.length
 ·obtain ⟨d,hd⟩:=H' x i hi
  have bg:=hX.at hd;have h1:=EO hd;by_cases hy:i<y.length
  ·obtain ⟨e,he⟩:=H' y i hy
   have Od:=hY.at he;have h2:=EO he;obtain ⟨r1,r2,r3⟩:=hs.rng bg Od;have g9:=uN (d:=d) (e:=e) p6 rfl;repeat' (first|(apply AG<;>intro hc<;>try omega)|(apply AP;omega)|(apply FL;omega)|(apply VS;omega)|apply AR|(refine A4 V' ?_ rfl ?_;omega)|apply AE)<;>conv=>whnf
   generalize Le:f * ↑d+c+g * ↑e=t at *;refine rX ?_;conv=>whnf
   repeat' (first|(apply AX;omega)|fail)<;>conv=>whnf
   refine F9 O' ?_;conv=>whnf
   refine sK ?_;conv=>whnf
   repeat' (first|(apply AP;omega)|fail)<;>conv=>whnf
   refine BN [] B' (ih (i+1) _ _ O' ⟨O',by simpa using p2,p3.set _ (uM t),O',O',?_⟩);rw[G4 O',h1,h2,Na];simp only[ff,xd,lD];exact g9
  ·have h2:=jN (y:=y) (i:=i) O'
   obtain ⟨r1,r2,r3⟩:=hs.rng (e:=0) bg O';have g9:=uN (d:=d) (e:=0) p6 rfl;rw[Dh,zi]at g9;have r4 : -9223372030412324865<=f*(d:Int)/\f*(d:Int)<=9223372030412324865:=r1;repeat' (first|(apply AG<;>intro hc<;>try omega)|(apply AP;omega)|(apply FL;omega)|(apply VS;omega)|apply AR|(refine A4 V' ?_ rfl ?_;omega)|apply AE)<;>conv=>whnf
   generalize Le:f * ↑d+c=t at *;refine rX ?_;conv=>whnf
   repeat' (first|(apply AX;omega)|fail)<;>conv=>whnf
   refine F9 O' ?_;conv=>whnf
   refine sK ?_;conv=>whnf
   repeat' (first|(apply AP;omega)|fail)<;>conv=>whnf
   refine BN [] B' (ih (i+1) _ _ O' ⟨O',by simpa using p2,p3.set _ (uM t),O',O',?_⟩);rw[G4 O',h1,h2,Na];simp only[ff,xd,lD];rw[Dh,zi]at g9;exact g9
 ·obtain rfl:i=x.length:=O'
  clear ih;rw[DM O',DM (sa _),DM O']at p6;have hov:=FZ p3;have hxv:=FZ hX;rw[p2]at hov;have hVR:val o=R:=by
   have:=Afv hov p6 O' O'
   omega
  have iv:=FN p3;rw[<-p2,<-hVR];repeat' (first|(apply AG<;>intro hc<;>try omega)|apply AE|refine cM N V' O' rfl (by first|rfl|omega|assumption) ?_)<;>conv=>whnf
  refine I2 (enc:=AM) (λ_=>rfl) O' ?_;conv=>whnf
  refine AY ?_ (by simp only[A3,true_and];exact CP _);rw[Ja,cD p3]
theorem Ah9 (N:c4 L) (X Y:Nat) (wk:Y<=X) (hy:3<=(dg Y).length) (lx:(dg X).length<=549755813888) : ∃ r,Ev L 81 [.sl false ((dg X).map AM),.sl false ((dg Y).map AM)] r /\ ∃ A B:Nat,(B<Y/\B<=A/\A<=X/\Ac A B=Ac X Y)/\r = .c5 [.sl false ((dg A).map AM),.sl false ((dg B).map AM)]:=by
 have hY0:Y≠0:=λ h=>by rw[h,FY]at hy;simp at hy
 have yz:X≠0:=O'
 have hlen:=SE wk;have hdv:=λ q q'=>mV N X Y q q' hY0 lx O'
 have d1:=EF X;have d2:=EF Y;have v1:=B2 X;have v2:=B2 Y;obtain ⟨xt,Ri,Rj⟩:=lX yz;have Jo:=d1.at Ri;obtain ⟨b1,b2,b3,b4⟩:=oS Rj Jo;have Ih:=wZ N xt Jo;generalize hs:32-n9 xt=s at *;have dj:s<=31:=O'
 obtain ⟨n1,n2⟩:=oK d1 Ri O' dj b3 b4;have zh:=λ(f g:Int) (R:Nat) (hs:RS f g) (h1:(R:Int)=f*val (dg X)+g*val (dg Y)) (h2:R<=val (dg X)) (q q':Bool)=>Ah6 N (dg X) (dg Y) q q' f g d1 d2 O' lx hs R h1 h2
 have n3:val (dg Y)*2^s<4294967296^(dg X).length:=ud (zR _ O') n1;have iv:=λ q=>xO N (dg X) q (dg X).length s d1 O' O' lx dj n1
 have eo:=λ q=>xO N (dg Y) q (dg X).length s d2 O' O' lx dj n3
 have hK:=Akx (dg X).length s;obtain ⟨e1,x1,x2,x3⟩:=Sj (V:=X) hK;obtain ⟨e2,y1,y2,y3⟩:=Sj (V:=Y) hK;rw[v1]at iv;rw[v2]at eo;have zl:=Uo d1 (n:=(dg X).length) O' O' dj n1;have xm:=Uo d2 (n:=(dg X).length) O' O' dj n3;rw[v1]at zl;rw[v2]at xm;generalize YP (dg X).length s=K at *;generalize X/K=P at *;generalize Y/K=Q at *;rw[v1,v2]at zh;obtain ⟨rc,Fk,a,b,c,d,⟨z1,z2,z3,z4,z5⟩,z6,rfl⟩:=Ah5 N (P:Int) (Q:Int) O' O';have e1:(((dg X).length:Int)-1).toNat=(dg X).length-1:=O'
 rw[<-e1]at Ri;refine Ev.xE N.TM rfl rfl ?_;by_cases hb:b=0
 ·repeat' (first|(apply AG<;>intro hc<;>try omega)|(apply BS;omega)|(apply CD;omega)|apply AR|(refine A4 V' ?_ rfl ?_;omega)|apply AE|refine AD (Ih) ?_|refine AD (iv _) ?_|refine AD (eo _) ?_|refine AD (Fk) ?_|refine AD (hdv _ _) ?_)<;>conv=>whnf
  refine ⟨_,?_,Y,X%Y,⟨Oc _ O',wg (Oc _ O'),wk,aQ X Y⟩,rfl⟩;conv=>whnf
  exact AY rfl (Z5 _ _)
 ·obtain ⟨g1,g2,g3,g4⟩:=z6 hb (X:Int) (Y:Int) (K:Int) _ _ O' x1 y1 x2 x3 y2 y3
  obtain ⟨A,hA⟩:=Rc (show 0<=a*X+b*Y by omega);obtain ⟨B,hB⟩:=Rc g1;have s1:RS a b:=by rcases z1 with ⟨h1,h2,h3,h4⟩|⟨h1,h2,h3,h4⟩<;>unfold RS<;>omega
  have s2:RS c d:=by rcases z1 with ⟨h1,h2,h3,h4⟩|⟨h1,h2,h3,h4⟩<;>unfold RS<;>omega
  repeat' (first|(apply AG<;>intro hc<;>try omega)|(apply BS;omega)|(apply CD;omega)|apply AR|(refine A4 V' ?_ rfl ?_;omega)|apply AE|refine AD (Ih) ?_|refine AD (iv _) ?_|refine AD (eo _) ?_|refine AD (Fk) ?_|refine AD (zh a b A s1 hA.symm O' _ _) ?_|refine AD (zh c d B s2 hB.symm O' _ _) ?_)<;>conv=>whnf
  rw[hA,hB]at g4;rw[hA,hB]at g2;refine ⟨_,?_,A,B,⟨O',O',O',by simpa using g4⟩,rfl⟩;conv=>whnf
  exact AY rfl (Z5 _ _)
theorem zP (N:c4 L) (X Y:Nat) (wk:Y<=X) (lx:(dg X).length<=549755813888) :
 AA L [It.lp HQ.l1,It.c9 0,
   It.code
    ((((BK.ops HQ.r6 false).dr [23,30,31] []).seq
       (BK.cond 32 (((BK.ops HQ.r7 false).dr [5,6,32,33] []).seq BK.ret) BK.skip)).seq
     (((BK.ops HQ.r8 false).dr [5,7,32,34,35,36,37,38,39] []).seq
      (((BK.ops HQ.r9 false).dr [6,8,40,41,42,43] []).seq
       ((BK.block 2 HQ.l2.loop).seq
        (((BK.ops HQ.zs false).dr [9,10,45,50,51,52,53,54,55,56] []).seq BK.ret)))))]
  [(6,AV.sl false (Hc AM (dg Y))),(5,AV.sl false (Hc AM (dg X)))] []
  (RZ HQ (AV.sl false (Hc AM (dg (X.gcd Y))))):=by
 refine FJ (λ_ y=>y) (λ(x y:Nat)=>y<=x/\(dg x).length<=549755813888/\Ac x y=Ac X Y) (λ x y=>[(6,AV.sl false (Hc AM (dg y))),(5,AV.sl false (Hc AM (dg x)))]) (λ_ _=>[]) X Y ⟨wk,lx,rfl⟩ ?_;intro x y ⟨p1,p2,p3⟩ ih;rw[<-p3]at ih ⊢;generalize Ac X Y=G at *;clear wk lx;subst p3;have hlen:=SE p1;by_cases h3:3<=(dg y).length
 ·obtain ⟨r,hr,A,B,⟨k1,k2,k3,k4⟩,rfl⟩:=Ah9 N x y p1 h3 p2
  have k5:=SE k3;repeat' (first|(apply AG<;>intro hc<;>try omega)|apply AR|apply AE|refine AD (hr) ?_)<;>conv=>whnf
  exact A9 [] (ih A B k1 ⟨k2,O',k4⟩)
 ·clear ih
  by_cases h0:y=0
  ·subst h0
   have jf:(dg 0).length=0:=by rw[FY];rfl
   repeat' (first|(apply AG<;>intro hc<;>try omega)|apply AR|apply AE)<;>conv=>whnf
   rw[Jg];exact AY rfl (by simp only[A3,true_and];exact CP _)
  ·have hp:=aB h0
   have hm:=SE (wg (Oc x (show y>0 by omega)));have hd:=λ q q'=>mV N x y q q' h0 p2 O'
   have Eh:=λ q=>xP N y q O'
   have ox:=λ q=>xP N (x%y) q O'
   have hb:y<18446744073709551616:=OH.1 (show (dg y).length<=2 by omega);have cq:x%y<y:=Oc _ O';rw[<-aQ x y];repeat' (first|(apply AG<;>intro hc<;>try omega)|apply AR|apply AE|refine AD (hd _ _) ?_|refine AD (Eh _) ?_|refine AD (ox _) ?_)<;>conv=>whnf
   refine ZI (λ_ q=>q) (λ(p q:Nat)=>p<18446744073709551616/\q<18446744073709551616/\Ac p q=Ac y (x%y)) (λ p q=>[(9,.int .u64 (p:Int)),(10,.int .u64 (q:Int))]) (λ_ _=>[]) [] [] y (x%y) B' ⟨hb,O',rfl⟩ ?_;intro p q ⟨g1,g2,g3⟩ ih;rw[<-g3]at ih ⊢;by_cases hq:q=0
   ·subst hq
    clear ih;obtain ⟨v1,v2⟩:=lS g1;rw[Jg];have iv:=FN v2;have ht:=cD v2;rw[v1]at iv ht;repeat' (first|(apply AG<;>intro hc<;>try omega)|apply GH|(apply E0;omega)|apply GV|apply AE)<;>conv=>whnf
    generalize p%4294967296=lo at *;generalize p/4294967296=hi at *;refine cM N v2 Z' rfl rfl ?_;rw[v1];conv=>whnf
    skip
    refine I2 (enc:=AM) (l:=[lo,hi]) (λ_=>rfl) O' ?_;conv=>whnf
    refine AY ?_ (by simp only[A3,true_and];exact CP _);rw[Ja,ht]
   ·have hpq:p%q<q:=Oc _ O'
    repeat' (first|(apply AG<;>intro hc<;>try omega)|(apply ZP;omega)|apply AE)<;>conv=>whnf
    exact A9 [] (ih q (p%q) hpq ⟨g2,O',aQ p q⟩)
theorem Ah4 (N:c4 L) (a b:N') (q1 q2:Bool) (hA:A7 a) (hB:A7 b) (la:a.length<=549755813888) (lb:b.length<=549755813888) :
  Ev L 82 [.sl q1 (a.map AM),.sl q2 (b.map AM)] (.sl false ((dg (Ac (val a) (val b))).map AM)):=by
 have t1:=λ q=>aD N a q hA O'
 have t2:=λ q=>aD N b q hB O'
 have l1:=FN hA;have l2:=FN hB;have l7:=λ q q'=>QQ N (dg (val a)) (dg (val b)) q q' (EF _) (EF _) O' O'
 rw[B2,B2]at l7;generalize val a=X at *;generalize val b=Y at *;refine Ev.x N.HQ rfl rfl ?_;by_cases j9:X<Y
 ·have hn:DL X Y = -1:=(JP O').symm
  rw[hn]at l7;repeat' (first|(apply AG<;>intro hc<;>try omega)|apply AE|refine AD (t1 _) ?_|refine AD (t2 _) ?_|refine AD (l7 _ _) ?_)<;>conv=>whnf
  rw[vg];exact BN [] B' (zP N Y X O' O')
 ·have mi:0<=DL X Y:=by unfold DL;split<;>(try split)<;>omega
  generalize DL X Y=cm at *;repeat' (first|(apply AG<;>intro hc<;>try omega)|apply AE|refine AD (t1 _) ?_|refine AD (t2 _) ?_|refine AD (l7 _ _) ?_)<;>conv=>whnf
  exact BN [] B' (zP N X Y O' O')
end Go.c6

namespace Go.c6
open F
attribute [local irreducible] AA AF AL AC CQ AW BA A8 B3 BL CN D4 BP A1 B6 CF AB BG AH pw BV BO CS CY C2 BX CG BU CX
variable {L:Lib}
theorem Ad3 {k:Nat} {K:Int->Prop} (h:0<k/\k<=9223372036854775808) (hk:K ((18446744073709551616-k:Nat):Int)):A5 .u64 (-(k:Int)) K:=by
 refine ⟨?_⟩;have e:IntKind.u64.wrap (-(k:Int))=((18446744073709551616-k:Nat):Int):=by
  simp [IntKind.wrap,IntKind.bits,IntKind.signed];omega
 rw[e];exact hk
theorem CQ.Jt {k:Nat} {K:AV->Prop} (h:0<k/\k<=9223372036854775808) (hk:K (.int .u64 (k:Int))):CQ .neg .u64 ((18446744073709551616-k:Nat):Int) K:=by
 refine CQ.go (v := .int .u64 (IntKind.u64.wrap (0-((18446744073709551616-k:Nat):Int)))) rfl ?_;have e:IntKind.u64.wrap (0-((18446744073709551616-k:Nat):Int))=(k:Int):=by
  simp [IntKind.wrap,IntKind.bits,IntKind.signed];omega
 rw[e];exact hk
theorem mS (N:a5 L) (z:Int) (hz : -9223372036854775808<=z/\z<=9223372036854775807):Ev L 85 [.int .i64 z] (.agg (eZ z)):=by
 have two : ∀ k:Nat,k<18446744073709551616 -> ∀ q,Ev L 66 [.sl q [[.int .u32 ((k%4294967296:Nat):Int)],[.int .u32 ((k/4294967296:Nat):Int)]]] (.sl false ((dg k).map AM)):=λ k hk q=>by
  have:=aD N.toc4 [k%4294967296,k/4294967296] q (lS hk).2 Z'
  rw[Add hk]at this;exact this
 refine Ev.x N.S8 rfl rfl ?_;by_cases h0:0<=z
 ·obtain ⟨k,rfl⟩:=Rc h0
  have hT:=two k O';have z1:=JR k;repeat' (first|(apply AG<;>intro hc<;>try omega)|apply GH|(apply CD;omega)|(apply E0;omega)|apply GV|refine JJ rfl rfl ?_|apply AE)<;>conv=>whnf
  generalize k%4294967296=lo at *;generalize k/4294967296=hi at *;(repeat' (refine AD (hT _) ?_<;>conv=>whnf))
  refine FV 1000 N.D8 rfl rfl ?_;(repeat' (apply AE<;>conv=>whnf))
  all_goals (refine ⟨rfl,?_⟩;(conv=>whnf);skip)
  exact AY (FF O' (HH O')) (D6 _)
 ·obtain ⟨k,hk⟩:=Rc (show 0 <= -z by omega)
  obtain rfl:z = -(k:Int):=O'
  have hT:=two k O';have z1:=JR k;(repeat' (apply AE<;>conv=>whnf))
  refine Ad3 O' ?_;conv=>whnf
  repeat' (first|(apply AG<;>intro hc<;>try omega)|fail)<;>conv=>whnf
  refine CQ.Jt O' ?_;conv=>whnf
  repeat' (first|(apply AG<;>intro hc<;>try omega)|apply GH|(apply E0;omega)|apply GV|refine JJ rfl rfl ?_)<;>conv=>whnf
  generalize k%4294967296=lo at *;generalize k/4294967296=hi at *;(repeat' (refine AD (hT _) ?_<;>conv=>whnf))
  refine FV 1000 N.D8 rfl rfl ?_;repeat' (first|(apply AG<;>intro hc<;>try omega)|apply AR|apply AE)<;>conv=>whnf
  all_goals (refine ⟨rfl,?_⟩;(conv=>whnf);skip)
  exact AY (FF O' (NP O')) (D6 _)
theorem xJ (N:a5 L) (n q:Bool) (m:N') (hm:Sm 549755813888 m):Ev L 84 [.agg (rZ q n m)] (.agg (eZ (zv n m))):=by
 have hT:=λ q=>aD N.toc4 m q hm.1 (by have:=hm.2;omega)
 have hz:=JR (val m);have ha:=FU n m;refine Ev.x N.TA rfl rfl ?_;cases n
 ·rw[FA]at *
  repeat' (first|apply AE|refine AD (hT _) ?_)<;>conv=>whnf
  refine FV 1000 N.D8 rfl rfl ?_;(repeat' (apply AE<;>conv=>whnf))
  all_goals (refine ⟨rfl,?_⟩;(conv=>whnf);skip)
  exact AY (FF ha.symm (HH O')) (D6 _)
 ·rw[QA]at *
  repeat' (first|apply AE|refine AD (hT _) ?_)<;>conv=>whnf
  refine FV 1000 N.D8 rfl rfl ?_;repeat' (first|(apply AG<;>intro hc<;>try omega)|apply AR|apply AE)<;>conv=>whnf
  all_goals (refine ⟨rfl,?_⟩;(conv=>whnf);skip)
  ·exact AY (FF ha.symm (NP O')) (D6 _)
  ·exact AY (FF ha.symm (HH O')) (D6 _)
theorem eL (N:a5 L) (n q:Bool) (m:N') (hm:Sm 549755813888 m):Ev L 86 [.agg (rZ q n m)] (.int .i64 (o3 (zv n m))):=by
 have l7:=λ q q'=>QQ N.toc4 m [] q q' hm.1 X8 (by have:=hm.2;omega) Z'
 rw[J7]at l7;refine Ev.x N.S9 rfl rfl ?_;by_cases h0:val m=0
 ·have hn:DL (val m) (0:Nat)=0:=(V7 O').symm
  rw[hn]at l7;repeat' (first|(apply AG<;>intro hc<;>try omega)|apply AE|refine AD (l7 _ _) ?_)<;>conv=>whnf
  exact CJ (iU (by have:=FU n m;omega))
 ·have hn:DL (val m) (0:Nat)=1:=(OE O').symm
  rw[hn]at l7;cases n
  ·repeat' (first|(apply AG<;>intro hc<;>try omega)|apply AE|refine AD (l7 _ _) ?_)<;>conv=>whnf
   exact CJ (qI (by rw[FA];omega))
  ·repeat' (first|(apply AG<;>intro hc<;>try omega)|apply AE|refine AD (l7 _ _) ?_)<;>conv=>whnf
   exact CJ (qH (by rw[QA];omega))
theorem xH (N:a5 L) (n1 n2 q1 q2:Bool) (a b:N') (ha:Sm 549755813888 a) (hb:Sm 549755813888 b):Ev L 87 [.agg (rZ q1 n1 a),.agg (rZ q2 n2 b)] (.agg (eZ (zv n1 a+zv n2 b))):=by
 have la:=ha.2;have lb:=hb.2;have h1:=λ q q'=>Ah3 N.toc4 a b q q' ha.1 hb.1 O' O'
 have h2:=λ q q'=>xN N.toc4 a b q q' ha.1 hb.1 O' O'
 have h3:=λ q q'=>xN N.toc4 b a q q' hb.1 ha.1 O' O'
 have l7:=λ q q'=>QQ N.toc4 a b q q' ha.1 hb.1 O' O'
 have z1:=JR (val a+val b);have z2:=JR (val a-val b);have z3:=JR (val b-val a);refine Ev.x N.S5 rfl rfl ?_;by_cases j9:val a<val b
 ·have hn:DL (val a) (val b) = -1:=(JP O').symm
  rw[hn]at l7;cases n1<;>cases n2<;>simp only[FA,QA]
  ·repeat' (first|apply AE|refine AD (h1 _ _) ?_)<;>conv=>whnf
   refine FV 1000 N.D8 rfl rfl ?_;(repeat' (apply AE<;>conv=>whnf))
   all_goals (refine ⟨rfl,?_⟩;(conv=>whnf);skip)
   exact AY (FF O' (HH O')) (D6 _)
  ·repeat' (first|(apply AG<;>intro hc<;>try omega)|apply AE|refine AD (h3 _ _) ?_|refine AD (l7 _ _) ?_)<;>conv=>whnf
   refine FV 1000 N.D8 rfl rfl ?_;repeat' (first|(apply AG<;>intro hc<;>try omega)|apply AR|apply AE)<;>conv=>whnf
   all_goals (refine ⟨rfl,?_⟩;(conv=>whnf);skip)
   ·exact AY (FF O' (NP O')) (D6 _)
  ·repeat' (first|(apply AG<;>intro hc<;>try omega)|apply AE|refine AD (h3 _ _) ?_|refine AD (l7 _ _) ?_)<;>conv=>whnf
   refine FV 1000 N.D8 rfl rfl ?_;(repeat' (apply AE<;>conv=>whnf))
   all_goals (refine ⟨rfl,?_⟩;(conv=>whnf);skip)
   ·exact AY (FF O' (HH O')) (D6 _)
  ·repeat' (first|apply AE|refine AD (h1 _ _) ?_)<;>conv=>whnf
   refine FV 1000 N.D8 rfl rfl ?_;repeat' (first|(apply AG<;>intro hc<;>try omega)|apply AR|apply AE)<;>conv=>whnf
   all_goals (refine ⟨rfl,?_⟩;(conv=>whnf);skip)
   ·exact AY (FF O' (NP O')) (D6 _)
 ·have hn:DL (val a) (val b) ≠ -1:=by unfold DL;split<;>(try split)<;>omega
  generalize DL (val a) (val b)=cm at *;cases n1<;>cases n2<;>simp only[FA,QA]
  ·repeat' (first|apply AE|refine AD (h1 _ _) ?_)<;>conv=>whnf
   refine FV 1000 N.D8 rfl rfl ?_;(repeat' (apply AE<;>conv=>whnf))
   all_goals (refine ⟨rfl,?_⟩;(conv=>whnf);skip)
   exact AY (FF O' (HH O')) (D6 _)
  ·repeat' (first|(apply AG<;>intro hc<;>try omega)|apply AE|refine AD (h2 _ _) ?_|refine AD (l7 _ _) ?_)<;>conv=>whnf
   refine FV 1000 N.D8 rfl rfl ?_;(repeat' (apply AE<;>conv=>whnf))
   all_goals (refine ⟨rfl,?_⟩;(conv=>whnf);skip)
   exact AY (FF O' (HH O')) (D6 _)
  ·repeat' (first|(apply AG<;>intro hc<;>try omega)|apply AE|refine AD (h2 _ _) ?_|refine AD (l7 _ _) ?_)<;>conv=>whnf
   refine FV 1000 N.D8 rfl rfl ?_;repeat' (first|(apply AG<;>intro hc<;>try omega)|apply AR|apply AE)<;>conv=>whnf
   all_goals (refine ⟨rfl,?_⟩;(conv=>whnf);skip)
   ·exact AY (FF O' (NP O')) (D6 _)
   ·exact AY (FF O' (HH O')) (D6 _)
  ·repeat' (first|apply AE|refine AD (h1 _ _) ?_)<;>conv=>whnf
   refine FV 1000 N.D8 rfl rfl ?_;repeat' (first|(apply AG<;>intro hc<;>try omega)|apply AR|apply AE)<;>conv=>whnf
   all_goals (refine ⟨rfl,?_⟩;(conv=>whnf);skip)
   ·exact AY (FF O' (NP O')) (D6 _)
   ·exact AY (FF O' (HH O')) (D6 _)
theorem WI (N:a5 L) (n1 n2 q1 q2:Bool) (a b:N') (ha:A7 a) (hb:A7 b) (hl:a.length+b.length<=1099511627776):Ev L 88 [.agg (rZ q1 n1 a),.agg (rZ q2 n2 b)] (.agg (eZ (zv n1 a*zv n2 b))):=by
 have h1:=λ q q'=>mU N.toc4 a b q q' ha hb hl
 have z1:=JR (val a*val b);have Nk:(zv n1 a*zv n2 b).natAbs=val a*val b:=by rw[Eb,FU,FU]
 refine Ev.x N.S7 rfl rfl ?_;have e:zv n1 a*zv n2 b=bif n1 == n2 then ((val a*val b:Nat):Int) else -((val a*val b:Nat):Int):=by
  cases n1<;>cases n2<;>simp [FA,QA,Int.mul_neg,vi]
 rw[e]at Nk ⊢;generalize val a*val b=V at *;cases n1<;>cases n2<;>simp only[beq_self_eq_true,cond_true,show (false == true)=false from rfl,show (true == false)=false from rfl,cond_false]
 ·repeat' (first|apply AE|refine AD (h1 _ _) ?_)<;>conv=>whnf
  refine FV 1000 N.D8 rfl rfl ?_;(repeat' (apply AE<;>conv=>whnf))
  all_goals (refine ⟨rfl,?_⟩;(conv=>whnf);skip)
  exact AY (FF O' (HH O')) (D6 _)
 ·repeat' (first|apply AE|refine AD (h1 _ _) ?_)<;>conv=>whnf
  refine FV 1000 N.D8 rfl rfl ?_;repeat' (first|(apply AG<;>intro hc<;>try omega)|apply AR|apply AE)<;>conv=>whnf
  all_goals (refine ⟨rfl,?_⟩;(conv=>whnf);skip)
  ·exact AY (FF O' (NP O')) (D6 _)
  ·exact AY (FF O' (HH O')) (D6 _)
 ·repeat' (first|apply AE|refine AD (h1 _ _) ?_)<;>conv=>whnf
  refine FV 1000 N.D8 rfl rfl ?_;repeat' (first|(apply AG<;>intro hc<;>try omega)|apply AR|apply AE)<;>conv=>whnf
  all_goals (refine ⟨rfl,?_⟩;(conv=>whnf);skip)
  ·exact AY (FF O' (NP O')) (D6 _)
  ·exact AY (FF O' (HH O')) (D6 _)
 ·repeat' (first|apply AE|refine AD (h1 _ _) ?_)<;>conv=>whnf
  refine FV 1000 N.D8 rfl rfl ?_;(repeat' (apply AE<;>conv=>whnf))
  all_goals (refine ⟨rfl,?_⟩;(conv=>whnf);skip)
  exact AY (FF O' (HH O')) (D6 _)
end Go.c6
