/-
  The abstract machine: data without memory. AV: a value; slices that are only read are lists ('sl'), rows and boxes of the call's own are named by a site and a stamp.
  Nothing here speaks of a program; EngSound ties it to the model.
-/
import Derived.Calls
import Derived.Below
import Derived.Laws.CopyRow
import Derived.Laws.Cells
import Derived.Laws.MakeOwn
import Derived.Laws.AppendOwn
import Derived.Deep.AppendSrc
import Derived.Deep.Draws
import Derived.ArgAppend
import Derived.Maps.Own
import Derived.Maps.OwnSet
set_option linter.unusedSimpArgs false
set_option linter.unusedVariables false
set_option linter.unnecessarySimpa false
set_option maxHeartbeats 1000000
open BitVec renaming ofInt->ka
open Int renaming mul_nonneg->Pa,mul_nonpos_of_nonpos_of_nonneg->ub,mul_nonpos_of_nonneg_of_nonpos->rb,mul_le_mul_of_nonpos_left->fb,mul_le_mul_of_nonneg_left->eb,gcd->Lb,emod_add_mul_ediv->Bb,emod_lt_of_pos->oc,emod_nonneg->Jc,mul_pos->od
open List renaming replicate->ya,length_cons->sa,mem_cons_of_mem->ga,length_take->da,mem_cons_self->Ja,pairwise_iff_getElem->Ha,length_drop->Ca,getElem?_cons_succ->Ba,mem_append->Aa,getElem?_of_mem->yb,mem_reverse->mb,eq_nil_of_length_eq_zero->kb,map_append->ib,getElem?_set_self->Hb,take_append_drop->Db,take_set_of_le->zc,getElem?_drop->xc,take_add_one->pc,map_reverse->ic,cons_append->fc,mem_cons->Gc,map_cons->Fc,mem_map->Dc,map_map->Cc,range'->xd,map_id->vd,range->pd
open Nat renaming mul_le_mul_left->va,div_lt_iff_lt_mul->na,two_pow_pos->ja,lt_of_lt_of_le->ea,pow_add->Oa,mul_add->Na,min_eq_left->Ma,mul_comm->La,le_refl->Ga,mul_assoc->Fa,le_div_iff_mul_le->zb,pow_le_pow_right->vb,succ_mul->qb,mul_succ->ob,strongRecOn->db,mod_add_div->Pb,div_add_mod->Nb,pow_succ->Gb,le_trans->Fb,le_mul_of_pos_left->Eb,mul_mod_mul_right->Cb,add_mul->Ab,div_mul_le_self->yc,pos_of_ne_zero->uc,mod_lt->sc,lt_trichotomy->kc,mod_eq_of_lt->ec,lt_log2_self->Pc,log2_self_le->Oc,div_eq_of_lt->Nc,mul_add_div->Lc,mul_le_mul->Hc,zero_add->Bc,add_zero->Ac,add_comm->yd,one_mul->ud,blt->jd
open Option renaming some.inj->za
open Prod renaming mk.injEq->Jb,fst->Mc,ext->kd
namespace Go.Eng
theorem O'{p:Prop}(h:p:=by omega):p:=h
theorem V'{p:Prop}(h:p:=by assumption):p:=h
theorem Y'{p:Prop}(h:p:=by decide):p:=h
theorem Z'{p:Prop}(h:p:=by simp):p:=h
theorem A'{p:Prop}(h:p:=by grind):p:=h
theorem E'{p:Prop}(h:p:=by(conv=>whnf);exact⟨rfl,rfl,rfl⟩):p:=h
theorem G'{p:Prop}(h:p:=by intro e;cases e):p:=h
theorem H'{p:Prop}(h:p:=by rw[List.length_map];omega):p:=h
theorem J'{p:Prop}(h:p:=by rw[List.length_take];omega):p:=h
theorem K'{p:Prop}(h:p:=by simp;omega):p:=h
theorem N'{α:Type}(l:List α)(i:Nat)(h:i<l.length:=by omega):∃x,l[i]?=some x:=⟨_,List.getElem?_eq_getElem h⟩
abbrev P':=List (List Rat)
abbrev o_:=List Rat
abbrev u_:=List Nat
theorem zE{α:Type}{l:List α}{i:Nat}(h:i < l.length):l[i]?=some l[i] :=
 List.getElem?_eq_getElem h
theorem zS{α:Type}{l:List α}{i:Nat}{a:α}(h:l[i]?=some a):∃h:i < l.length, l[i] = a :=
 List.getElem?_eq_some_iff.1 h
theorem zM{α:Type}{l:List α}{i:Nat}{a:α}(h:l[i]?=some a):a ∈ l :=
 List.mem_of_getElem? h
theorem zR{m n:Nat}(k:Nat)(h:m <= n):m * k <= n * k :=
 Nat.mul_le_mul_right k h
theorem zT{α:Type}{l:List α}{i:Nat}(h:l.length <= i):l.take i = l :=
 List.take_of_length_le h
end Go.Eng
namespace Go.Eng
inductive AV where
 |int (k:IntKind) (n:Int)
 |bool (b:Bool)
 |sl (l:Bool) (es:List (List AV))
 |row (s t z off len:Nat)
 |nil
 |ptr (s t i j:Nat)
 |x9 (cs:List AV)
 |agg (cs:List AV)
 |j4 (vs:List AV)
 |x7 (v:Value)
 |fn (p:Bool) (f g:Nat) (cs:List AV)
 |any
 |mp (s t:Nat)
 deriving Inhabited
abbrev p_:=Option (Nat×List (List AV))
abbrev v_:=List (List AV)
abbrev w_:=List AV
inductive AL where
 |t (n:Nat)
 |c (v:AV)
 deriving Inhabited
structure C2 where
 a7:Nat
 es:v_
abbrev D9:Nat:=960000
structure BZ where
 j6:Nat
 c9:Nat->Option C2
def Own:=Nat->BZ
def Own.emp:Own:=λ_=>⟨0,λ_=>none⟩
def Own.put(o:Own)(s:Nat)(x:BZ):Own:=λs'=>if s'=s then x else o s'
def Own.get(o:Own)(s t:Nat):Option C2:=(o s).c9 t
def Own.j6(o:Own)(s:Nat):Nat:=(o s).j6
def BZ.q9(x:BZ)(t:Nat)(b:Option C2):BZ:=⟨x.j6,λt'=>if t'=t then b else x.c9 t'⟩
def BZ.new(x:BZ)(b:C2):BZ:=⟨x.j6+1,λt'=>if t'=x.j6 then some b else x.c9 t'⟩
def BZ.lost(x:BZ):BZ:=⟨x.j6+1,λt'=>if t'=x.j6 then none else x.c9 t'⟩
theorem Own.k9(o:Own)(s:Nat)(x:BZ):o.put s x s=x:=by simp[Own.put]
theorem Own.iw(o:Own)(s s':Nat)(x:BZ)(h:s'≠s):o.put s x s'=o s':=by simp[Own.put,h]
theorem Own.jo(o:Own)(s:Nat)(x y:BZ):(o.put s x).put s y=o.put s y:=by
 funext s';by_cases h:s'=s<;>simp[Own.put,h]
inductive DU where
 |o9 (x:AL)
 |z8 (s a7:Nat)
 |pick (c a b:AL)
 |bin (op:BinOp) (x y:AL)
 |beq (ne:Bool) (x y:AL)
 |un (op:UnOp) (x:AL)
 |conv (k:IntKind) (x:AL)
 |box (s:Nat) (x:AL)
 |alloc (s:Nat) (zero:w_)
 |build (zero:w_) (parts:List (Nat×Nat×AL))
 |b8 (s a7:Nat) (parts:List AL)
 |lit (a7:Nat) (parts:List AL)
 |l8 (x:AL) (off:Nat)
 |nj (x:AL) (off n:Nat) (agg:Bool)
 |q8 (arr:Option Nat) (a7:Nat) (x i:AL)
 |ld (agg:Bool) (n:Nat) (x:AL)
 |st (n:Nat) (x v:AL)
 |mk (s a7 bytes:Nat) (zero:w_) (l c:AL)
 |ik (a7:Nat) (x:AL) (lo hi:Option AL)
 |ext (x:AL) (i:Nat)
 |len (x:AL)
 |mm (max:Bool) (xs:List AL)
 |app (s a7 bytes:Nat) (x y:AL)
 |call (f:Nat) (xs:List AL)
 |j5 (f:Nat) (xs:List AL)
 |ta (ne:Bool) (x:AL)
 |ix (tb:u_) (x:AL)
 |pg (p:Bool) (f:Nat) (xs:List AL)
 |u6 (x:AL) (xs:List AL)
 |o5 (f:Nat) (xs:List AL)
 |po (s n:Nat) (x v:AL)
 |x5 (s f:Nat) (xs:List AL)
 |di (s a7 bytes:Nat) (x y:AL)
 |cz (s f:Nat) (xs:List AL)
 |bad
 |kx (x:AL)
 |pj (s:Nat)
 |ql (x k:AL)
 |pn (x k v:AL)
 |nf (a7 bytes:Nat) (x y:AL)
 |fe (fs f a7:Nat) (x c:AL)
 deriving Inhabited
structure AI where
 dst:Option Nat
 op:DU
 guard:Option (Nat×Bool):=none
 b9:u_:=[]
 deriving Inhabited
inductive BF where
 |skip
 |ops (l:List AI) (draw:Bool)
 |dr (c:BF) (ts ss:u_)
 |scope (c:BF)
 |seq (a b:BF)
 |cond (c:AL) (a b:BF)
 |block (id:Nat) (c:BF)
 |loop (c:BF)
 |exit (id:Nat)
 |ret
 deriving Inhabited
inductive LJ where
 |tmp (t:Nat)
 |cell (t:Nat) (agg:Bool) (n:Nat)
 deriving Inhabited
structure AFn where
 ch:Nat
 body:BF
 res:List LJ
 rn:Bool
abbrev Tm:=List (Nat×AV)
def j7:Tm->Nat->AV
 |[],_=>.any
 |(i,v)::r,j=>if j=i then v else j7 r j
def jz:Tm->Nat->AV->Tm
 |[],j,u=>[(j,u)]
 |(i,v)::r,j,u=>if j=i then(i,u)::r else if j<i then(j,u)::(i,v)::r else(i,v)::jz r j u
def bk:Tm->u_->Tm
 |[],_=>[]
 |(i,v)::r,l=>if l.contains i then bk r l else(i,v)::bk r l
theorem cN(m:Tm)(i:Nat)(v:AV)(j:Nat):j7 (jz m i v) j=if j=i then v else j7 m j:=by
 induction m with
 |nil=>by_cases h:j=i<;>simp[jz,j7,h]
 |cons x r ih=>
  obtain⟨a,u⟩:=x;by_cases h:i=a
  ·subst h
   by_cases h2:j=i<;>simp[jz,j7,h2]
  ·by_cases hlt:i<a
   ·by_cases h2:j=i<;>simp[jz,j7,h,hlt,h2]
   ·by_cases h2:j=a
    ·subst h2
     have:¬j=i:=λe=>h e.symm
     simp[jz,j7,h,hlt,this]
    ·simp[jz,j7,h,hlt,h2,ih]
structure St where
 tm:Tm
 own:Own
def St.ev(st:St):AL->AV
 |.t n=>j7 st.tm n
 |.c v=>v
inductive B3 where
 |val (v:AV)
 |new (s:Nat) (b:C2) (v:Nat->AV)
 |zj (s:Nat) (b:C2) (v:Nat->AV)
 |bz (v:AV) (own:Own)
 |q9 (s:Nat) (x:BZ)
 |rp (s:Nat) (x:BZ) (v:AV)
 |Au (s:Nat) (v:AV) (own:Own)
def cellsOf:AV->Option (w_)
 |.agg cs=>some cs
 |.fn _ _ _ _=>none
 |.j4 _=>none
 |.any=>none
 |v=>some [v]
def M4(agg:Bool)(cs:w_):Option AV :=
 if agg then some (.agg cs)else match cs with|[c]=>some c|_=>none
def part(cs:w_)(off n:Nat):Option (w_) :=
 if off+n<=cs.length then some ((cs.drop off).take n)else none
def splice(cs:w_)(off:Nat)(vs:w_):w_:=cs.take off++vs++cs.drop (off+vs.length)
def fill(cells:w_):List (Nat×Nat×AV)->Option (w_)
 |[]=>some cells
 |(off,n,v)::r=>match cellsOf v with
  |some vs=>if vs.length=n/\off+n<=cells.length then fill (splice cells off vs) r else none
  |none=>none
def C5(op:BinOp)(k:IntKind)(a:Int)(k':IntKind)(b:Int):Option AV :=
 match op with
 |.shl=>if b<0 then none else some (.int k (k.wrap (a*2^(min b.toNat k.bits))))
 |.shr=>if b<0 then none else some (.int k (a.fdiv (2^(min b.toNat k.bits))))
 |.add=>if k=k' then some (.int k (k.wrap (a+b)))else none
 |.sub=>if k=k' then some (.int k (k.wrap (a-b)))else none
 |.mul=>if k=k' then some (.int k (k.wrap (a*b)))else none
 |.quo=>if k=k'/\b≠0 then some (.int k (k.wrap (a.tdiv b)))else none
 |.rem=>if k=k'/\b≠0 then some (.int k (a.tmod b))else none
 |.and=>if k=k' then some (.int k (k.wrap (ka k.bits a &&& ka k.bits b).toNat))else none
 |.or=>if k=k' then some (.int k (k.wrap (ka k.bits a ||| ka k.bits b).toNat))else none
 |.xor=>if k=k' then some (.int k (k.wrap (ka k.bits a ^^^ ka k.bits b).toNat))else none
 |.andNot=>if k=k' then some (.int k (k.wrap (ka k.bits a &&& ~~~ ka k.bits b).toNat))else none
 |.eql=>if k=k' then some (.bool (a == b))else none
 |.neq=>if k=k' then some (.bool (a != b))else none
 |.lss=>if k=k' then some (.bool (decide (a<b)))else none
 |.leq=>if k=k' then some (.bool (decide (a<=b)))else none
 |.gtr=>if k=k' then some (.bool (decide (a>b)))else none
 |.geq=>if k=k' then some (.bool (decide (a≥b)))else none
def UU(op:UnOp):AV->Option AV
 |.int k n=>match op with
  |.neg=>some (.int k (k.wrap (0-n)))
  |.xor=>some (.int k (k.wrap (ka k.bits (if k.signed then -1 else k.max) ^^^ ka k.bits n).toNat))
  |_=>none
 |.bool b=>match op with
  |.not=>some (.bool (!b))
  |_=>none
 |_=>none
def Q7(max:Bool):AV->AV->Option AV
 |.int k a,.int _ b=>some (.int k (if max then(if b>a then b else a)else(if b<a then b else a)))
 |_,_=>none
def MS(max:Bool):AV->w_->Option AV
 |v,[]=>some v
 |v,u::r=>match Q7 max v u with|some x=>MS max x r|none=>none
def Own.s9(o:Own):u_->Own
 |[]=>o
 |s::r=>λs'=>if s'=s then⟨0,λ_=>none⟩else o.s9 r s'
def Own.qk(own:Own)(s t i j n:Nat):Option (w_) :=
 match own.get s t with
 |some b=>match b.es[i]? with
  |some cs=>part cs j n
  |none=>none
 |none=>none
def Own.om(own:Own)(s t i j:Nat)(vs:w_):Option Own :=
 match own.get s t with
 |some b=>match b.es[i]? with
  |some cs=>if j+vs.length<=cs.length then some (own.put s ((own s).q9 t (some ⟨b.a7,b.es.set i (splice cs j vs)⟩)))else none
  |none=>none
 |none=>none
def EX(own:Own):AV->Option (v_)
 |.sl _ es=>some es
 |.nil=>some []
 |.x7 (.bool _)=>some []
 |.row s t z off len=>match own.get s t with
  |some b=>if off+len<=b.es.length/\b.a7=z then some ((b.es.drop off).take len)else none
  |none=>none
 |_=>none
def Q4:AV->Option Nat
 |.sl _ es=>some es.length
 |.nil=>some 0
 |.row _ _ _ _ len=>some len
 |_=>none
def snap(own:Own)(l:Bool):Nat->AV->Option AV
 |_,.int k n=>some (.int k n)
 |_,.bool b=>some (.bool b)
 |_,.sl l' es=>some (.sl l' es)
 |_,.nil=>some (.sl false [])
 |_,.x7 v=>some (.x7 v)
 |d+1,.row s t z off len=>match EX own (.row s t z off len)with
  |some es=>(es.mapM (λcs:w_=>cs.mapM (snap own l d))).map (AV.sl l)
  |none=>none
 |_,_=>none
def CX(own:Own)(l:Bool):AV->Option AV
 |.agg cs=>(cs.mapM (snap own l 6)).map AV.agg
 |v=>snap own l 6 v
def QB(own:Own)(l:Bool):AV->Option AV
 |.nil=>some .nil
 |v=>CX own l v
def US(own:Own)(l:Bool):AV->Option AV
 |.j4 cs=>(cs.mapM (CX own l)).map AV.j4
 |v=>CX own l v
mutual
def AY:AV->Prop
 |.int _ _=>True
 |.bool _=>True
 |.x7 _=>True
 |.sl l es=>l=false/\DB es
 |.agg cs=>BI cs
 |.j4 cs=>BI cs
 |_=>False
def BI:w_->Prop
 |[]=>True
 |c::r=>AY c/\BI r
def DB:v_->Prop
 |[]=>True
 |c::r=>BI c/\DB r
end
def ET:Nat:=140737488355328
structure Cl where
 pure:Nat->w_->Option AV
 fq:Nat->w_->Own->Option (AV×Own)
 num:Nat->Nat
 cmp:Nat->w_->Option AV
 ff:Nat->Option Nat
structure KN(cmp:Nat->w_->Option AV)(f:Nat)(es es':v_):Prop where
 perm:es'.Perm es
 cln:DB es
 ord:∀(i j:Nat)(x y:w_),es'[i]?=some x->es'[j]?=some y->∃r:Int,cmp f [.agg x,.agg y]=some (.int .i64 r)/\(r<0↔i<j)
theorem KN.uniq{cmp:Nat->w_->Option AV}{f:Nat}{es a b:v_}(ha:KN cmp f es a)(hb:KN cmp f es b):a=b:=by
 have pw:∀{l:v_},KN cmp f es l->l.Pairwise λx y=>∃r:Int,cmp f [.agg x,.agg y]=some (.int .i64 r)/\r<0:=λ{l} h=>by
  rw[Ha];intro i j hi hj jf;obtain⟨r,h1,h2⟩:=h.ord i j _ _ (zE hi) (zE hj);exact⟨r,h1,h2.2 jf⟩
 refine List.Perm.eq_of_pairwise (λx y hx hy ⟨r,h1,h2⟩ ⟨q,h3,h4⟩=>?_) (pw ha) (pw hb) (ha.perm.trans hb.perm.symm);obtain⟨i,hi⟩:=yb hx;obtain⟨j,hj⟩:=yb ((ha.perm.trans hb.perm.symm).mem_iff.2 hy);obtain⟨r',g1,g2⟩:=ha.ord i j _ _ hi hj;obtain⟨q',g3,g4⟩:=ha.ord j i _ _ hj hi;have e1:r=r':=by have:=h1.symm.trans g1;simpa using this
 have e2:q=q':=by have:=h3.symm.trans g3;simpa using this
 have:=g2.1 (e1▸h2)
 have:=g4.1 (e2▸h4)
 omega
open Classical in
noncomputable def jT(cmp:Nat->w_->Option AV)(f:Nat)(es:v_):Option (v_):=if h:∃es',KN cmp f es es' then some h.choose else none
theorem Za{cmp:Nat->w_->Option AV}{f:Nat}{es es':v_}:jT cmp f es=some es'↔KN cmp f es es':=by
 unfold jT;constructor
 ·intro h
  split at h
  ·rename_i hx
   obtain rfl:=za h;exact hx.choose_spec
  ·cases h
 ·intro h
  rw[dif_pos ⟨es',h⟩];exact congrArg some ((Exists.choose_spec (⟨es',h⟩:∃es',KN cmp f es es')).uniq h)
noncomputable def dY(C:Cl)(f:Nat)(vs:w_)(s:Nat)(q:BZ):Option (AV×BZ) :=
 open Classical in if h : ∃ p : AV × BZ, ∀ o : Own, o s = q -> C.fq f vs o = some (p.1, o.put s p.2) then some h.choose else none
theorem dZ{C:Cl}{f:Nat}{vs:w_}{s:Nat}{q:BZ}{p:AV×BZ}:dY C f vs s q=some p ↔ ∀o:Own,o s=q->C.fq f vs o=some (p.1,o.put s p.2):=by
 unfold dY;constructor
 ·intro h
  split at h
  ·rename_i hx
   obtain rfl:=za h;exact hx.choose_spec
  ·cases h
 ·intro h
  rw[dif_pos ⟨p,h⟩];have h1:=(⟨p,h⟩:∃p:AV×BZ,∀o:Own,o s=q->C.fq f vs o=some (p.1,o.put s p.2)).choose_spec (λ_=>q) rfl;have h2:=h (λ_=>q) rfl;have h3:=za (h2.symm.trans h1);refine congrArg some ?_;generalize (Exists.choose _:AV×BZ)=p' at h3;obtain⟨a,b⟩:=p;obtain⟨a',b'⟩:=p';simp only[Jb]at h3;obtain⟨h4,h5⟩:=h3;have h6:b=b':=by
   have:=congrFun h5 s
   simpa [Own.put]using this
  rw[h4,h6]
noncomputable def OE(C:Cl)(f:Nat)(vs:w_)(s:Nat)(own:Own):Option (AV×Own) :=
 open Classical in if h : ∃ p : AV × Own, ∀ o : Own, (∀ q, q ≠ s -> o q = own q) -> C.fq f vs o = some (p.1, p.2.put s (o s)) then some (h.choose.1, h.choose.2.put s ⟨0, λ_ => none⟩) else none
theorem dX{C:Cl}{f:Nat}{vs:w_}{s:Nat}{own:Own}{p:AV×Own}(h:OE C f vs s own=some p):p.2 s=⟨0,λ_=>none⟩/\∀o:Own,(∀q,q≠s->o q=own q)->C.fq f vs o=some (p.1,p.2.put s (o s)):=by
 unfold OE at h;split at h
 ·rename_i hx
  obtain rfl:=za h;refine⟨by simp[Own.put],λo h2=>?_⟩;rw[hx.choose_spec o h2];congr 2;funext q
  simp only[Own.put];split<;>rfl
 ·cases h
theorem dW{C:Cl}{f:Nat}{vs:w_}{s:Nat}{own:Own}{p:AV×Own}(hp:p.2 s=⟨0,λ_=>none⟩)(h:∀o:Own,(∀q,q≠s->o q=own q)->C.fq f vs o=some (p.1,p.2.put s (o s))):OE C f vs s own=some p:=by
 have hex:∃p:AV×Own,∀o:Own,(∀q,q≠s->o q=own q)->C.fq f vs o=some (p.1,p.2.put s (o s)):=⟨p,h⟩;unfold OE;rw[dif_pos hex];have h1:=hex.choose_spec own λ_ _=>rfl
 have h2:=h own λ_ _=>rfl
 have h3:=za (h2.symm.trans h1);simp only[Jb]at h3;refine congrArg some (kd h3.1.symm ?_);funext q
 have h4:=congrFun h3.2 q;simp only[Own.put]at h4⊢;by_cases e:q=s
 ·subst e;simp[hp]
 ·simpa [e]using h4.symm
def ZE:AV->AV
 |.sl _ es=>.sl false es
 |.nil=>.sl false []
 |v=>v
def wz:AV->AV
 |.agg cs=>.agg (cs.map ZE)
 |v=>ZE v
def bC:AV->AV
 |.sl _ es=>.sl true es
 |v=>v
def zd:AV->AV
 |.agg cs=>.agg (cs.map bC)
 |v=>bC v
mutual
def HM:AV->AV
 |.sl _ es=>.sl true (IM es)
 |v=>v
def I9:w_->w_
 |[]=>[]
 |c::r=>HM c::I9 r
def IM:v_->v_
 |[]=>[]
 |c::r=>I9 c::IM r
end
def J5:AV->AV
 |.agg cs=>.agg (I9 cs)
 |v=>HM v
def LV:AV->AV
 |.j4 vs=>.j4 (vs.map J5)
 |v=>J5 v
def cZ:AV->Prop
 |.j4 _=>False
 |.fn _ _ _ _=>False
 |_=>True
def U3:AV->Prop
 |.j4 vs=>∀v∈vs,cZ v
 |v=>cZ v
def GZ:AV->Bool
 |.int _ _=>true |.bool _=>true |.sl _ _=>true |.nil=>true
 |_=>false
def dq:AV->Bool
 |.agg cs=>cs.all GZ
 |v=>GZ v
def YK:AV->Bool
 |.int _ _=>true |.bool _=>true |.sl _ _=>true
 |_=>false
def Q9:AV->Bool
 |.int _ _=>true |.bool _=>true
 |_=>false
def ZO:AV->Prop
 |.int _ _=>True
 |.bool _=>True
 |.sl _ es=>∀e∈es,∀c∈e,Q9 c=true
 |_=>False
def KI:AV->Prop
 |.agg cs=>∀c∈cs,ZO c
 |v=>ZO v
open Classical in
noncomputable def NV(r:AV):AV:=if KI r then zd r else LV r
theorem pA{r:AV}(h:KI r):NV r=zd r:=if_pos h
theorem oZ{r:AV}(h:¬KI r):NV r=LV r:=if_neg h
def oL:w_->Option (List Int)
 |[]=>some []
 |.int .i64 n::r=>(oL r).map (n :: ·)
 |_=>none
def IA:AV->Option AV
 |.agg _=>none
 |.fn _ _ _ _=>none
 |.j4 _=>none
 |.any=>none
 |v=>some v
open Classical in
noncomputable def OD(x:Option (AV×Own)):p_:=match x with
 |some (.row s t z 0 n,o)=>match o.get s t with
  |some b=>if b.es.length=n/\DB b.es then some (z,b.es)else none
  |none=>none
 |_=>none
theorem AfZ{x:Option (AV×Own)}{z:Nat}{es:v_}(h:OD x=some (z,es)):∃s t o b,x=some (.row s t z 0 es.length,o)/\o.get s t=some b/\b.es=es/\DB es:=by
 unfold OD at h;split at h
 ·split at h
  ·rename_i s t z' n o b hb
   split at h
   ·rename_i hc
    obtain⟨rfl,hc⟩:=hc;simp only[Option.some.injEq,Jb]at h;obtain⟨rfl,rfl⟩:=h;exact⟨_,_,_,_,rfl,hb,rfl,hc⟩
   ·cases h
  ·cases h
 ·cases h
def L4(s t:ByteArray):Bool:=s.data.toList == t.data.toList
def G1:v_->ByteArray->Option Int
 |[],_=>none
 |c::r,k=>match c with
  |[.x7 (.string s),.int .i64 n]=>bif L4 s k then some n else G1 r k
  |_=>G1 r k
def zi(k:ByteArray)(c:w_):Bool:=match c with
 |.x7 (.string s)::_=>L4 s k
 |_=>false
def SY(l:v_)(k:ByteArray)(n:Int):v_:=[.x7 (.string k),.int .i64 n]::l.filter λc=>!zi k c
open Classical in
noncomputable def e9(C:Cl)(b9:u_)(ρ:AL->AV)(own:Own):DU->Option B3
 |.o9 x=>some (.val (ρ x))
 |.z8 s a7=>some (.zj s ⟨a7,[]⟩ (λt=>.row s t a7 0 0))
 |.pick c a b=>match ρ c with
  |.bool true=>some (.val (ρ a))
  |.bool false=>some (.val (ρ b))
  |_=>none
 |.bin op x y=>match ρ x,ρ y with
  |.int k a,.int k' b=>(C5 op k a k' b).map .val
  |_,_=>none
 |.beq ne x y=>match ρ x,ρ y with
  |.bool a,.bool b=>some (.val (.bool (if ne then !(a == b)else a == b)))
  |_,_=>none
 |.un op x=>(UU op (ρ x)).map .val
 |.conv k x=>match ρ x with
  |.int _ n=>some (.val (.int k (k.wrap n)))
  |_=>none
 |.box s x=>match cellsOf (ρ x)with
  |some cs=>some (.new s ⟨cs.length,[cs]⟩ (λt=>.ptr s t 0 0))
  |none=>none
 |.alloc s zero=>some (.new s ⟨zero.length,[zero]⟩ (λt=>.ptr s t 0 0))
 |.build zero parts=>(fill zero (parts.map λp=>(p.1,p.2.1,ρ p.2.2))).map (λcs=>.val (.agg cs))
 |.b8 s a7 parts=>match parts.mapM (λx=>cellsOf (ρ x))with
  |some es=>if∀e∈es,e.length=a7 then some (.new s ⟨a7,es⟩ (λt=>.row s t a7 0 es.length))else none
  |none=>none
 |.lit a7 parts=>match parts.mapM (λx=>cellsOf (ρ x))with
  |some es=>if∀e∈es,e.length=a7/\∀c∈e,YK c=true then some (.val (.sl false es))else none
  |none=>none
 |.l8 x off=>match ρ x with
  |.ptr s t i j=>some (.val (.ptr s t i (j+off)))
  |.x9 cs=>some (.val (.x9 (cs.drop off)))
  |_=>none
 |.nj x off n agg=>match ρ x with
  |.agg cs=>match part cs off n with
   |some ds=>(M4 agg ds).map .val
   |none=>none
  |_=>none
 |.q8 arr a7 x i=>match ρ i with
  |.int _ n=>match arr,ρ x with
   |some len,.ptr s t i' j=>if 0<=n/\n<len then some (.val (.ptr s t i' (j+n.toNat*a7)))else none
   |some len,.x9 cs=>if 0<=n/\n<len then some (.val (.x9 (cs.drop (n.toNat*a7))))else none
   |none,.row s t z off len=>if 0<=n/\n<len/\z=a7 then some (.val (.ptr s t (off+n.toNat) 0))else none
   |none,.sl _ es=>if 0<=n then match es[n.toNat]? with
     |some cs=>if cs.length=a7 then some (.val (.x9 cs))else none
     |none=>none
    else none
   |_,_=>none
  |_=>none
 |.ld agg n x=>match ρ x with
  |.ptr s t i j=>match (own.s9 b9).qk s t i j n with
   |some cs=>(M4 agg cs).map .val
   |none=>none
  |.x9 cs=>match part cs 0 n with
   |some ds=>(M4 agg ds).map .val
   |none=>none
  |_=>none
 |.st n x v=>match ρ x,cellsOf (ρ v)with
  |.ptr s t i j,some vs=>if vs.length=n then(own.om s t i j vs).map (B3.bz (.j4 []))else none
  |_,_=>none
 |.mk s a7 bytes zero l c=>match ρ l,ρ c with
  |.int _ a,.int _ b=>if 0<=a/\a<=b/\b*bytes<=ET/\b<=9223372036854775807/\zero.length=a7 then some (.new s ⟨a7,ya a.toNat zero⟩ (λt=>.row s t a7 0 a.toNat))else none
  |_,_=>none
 |.ik a7 x lo hi=>match ρ x with
  |.sl l es=>
   let h:Option Nat:=match hi with|none=>some es.length|some o=>match ρ o with |.int _ n=>if 0<=n/\n<=es.length then some n.toNat else none|_=>none
   let a:Option Nat:=match lo with|none=>some 0|some o=>match ρ o with |.int _ n=>if 0<=n then some n.toNat else none|_=>none
   match a,h with
   |some a,some h=>if a<=h/\∀e∈es,e.length=a7 then some (.val (.sl l ((es.take h).drop a)))else none
   |_,_=>none
  |.nil=>
   let h:Option Nat:=match hi with|none=>some 0|some o=>match ρ o with |.int _ n=>if n=0 then some 0 else none|_=>none
   let a:Option Nat:=match lo with|none=>some 0|some o=>match ρ o with |.int _ n=>if n=0 then some 0 else none|_=>none
   match a,h with
   |some _,some _=>some (.val .nil)
   |_,_=>none
  |.row s t z off len=>
   let h:Option Nat:=match hi with|none=>some len|some o=>match ρ o with |.int _ n=>if 0<=n/\n<=len then some n.toNat else none|_=>none
   let a:Option Nat:=match lo with|none=>some 0|some o=>match ρ o with |.int _ n=>if 0<=n then some n.toNat else none|_=>none
   match a,h with
   |some a,some h=>if a<=h/\z=a7 then some (.val (.row s t z (off+a) (h-a)))else none
   |_,_=>none
  |_=>none
 |.ext x i=>match ρ x with
  |.j4 vs=>(vs[i]?).map .val
  |_=>none
 |.len x=>match Q4 (ρ x)with
  |some n=>some (.val (.int .i64 (n:Int)))
  |none=>none
 |.mm max xs=>match xs.map ρ with
  |[]=>none
  |v::r=>(MS max v r).map .val
 |.app s a7 bytes x y=>match EX own (ρ y)with
  |some ys=>if∀e∈ys,e.length=a7 then match ρ x with
    |.row s' t z 0 len=>match own.get s' t with
     |some b=>if b.a7=a7/\z=a7/\len<=b.es.length/\(len+ys.length)*bytes<=ET/\len+ys.length<=9223372036854775807 then
       some (.bz (.row s' (own.j6 s') a7 0 (len+ys.length)) (own.put s' (((own s').q9 t none).new ⟨a7,b.es.take len++ys⟩)))
      else none
     |none=>none
    |.nil=>if ys.length*bytes<=ET/\ys.length<=9223372036854775807 then
       some (.bz (.row s (own.j6 s) a7 0 ys.length) (own.put s ((own s).new ⟨a7,ys⟩)))else none
    |_=>none
   else none
  |none=>none
 |.di s a7 bytes x y=>match ρ y,ρ x with
  |.sl _ ys,.row s' t z 0 len=>match own.get s t with
   |some b=>if s'=s/\(∀e∈ys,e.length=a7)/\b.a7=a7/\z=a7/\len<=b.es.length/\(len+ys.length)*bytes<=ET/\len+ys.length<=9223372036854775807 then
     some (.rp s (((own s).q9 t none).new ⟨a7,b.es.take len++ys⟩) (.row s (own.j6 s) a7 0 (len+ys.length)))
    else none
   |none=>none
  |.sl _ ys,.nil=>if(∀e∈ys,e.length=a7)/\ys.length*bytes<=ET/\ys.length<=9223372036854775807 then some (.rp s ((own s).new ⟨a7,ys⟩) (.row s (own.j6 s) a7 0 ys.length))else none
  |_,_=>none
 |.call f xs=>match (xs.map ρ).mapM (CX (own.s9 b9) true)with
  |some vs=>(C.pure f vs).map .val
  |none=>none
 |.j5 f xs=>match b9 with
  |[s]=>(OE C f (xs.map ρ) s own).map (λr=>.Au s r.1 r.2)
  |_=>(C.fq f (xs.map ρ) own).map (λr=>.bz r.1 r.2)
 |.ta ne x=>match ρ x with
  |.nil=>some (.val (.bool (xor true ne)))
  |.x7 (.bool b)=>some (.val (.bool (xor b ne)))
  |.sl _ (_::_)=>some (.val (.bool (xor false ne)))
  |.row _ _ _ _ (_+1)=>some (.val (.bool (xor false ne)))
  |_=>none
 |.bad=>none
 |.kx x=>match ρ x with
  |.ptr s t i j=>some (.val (.ptr s t i j))
  |_=>none
 |.pj s=>some (.bz (.mp s (own.j6 s)) (own.put s ((own s).new ⟨2,[]⟩)))
 |.ql x k=>match ρ x,ρ k with
  |.mp s t,.x7 (.string b)=>match (own.s9 b9).get s t with
   |some c9=>if b.size<=9223372036854775807/\c9.es.length<=9223372036854775807 then some (.val (.j4 [.int .i64 ((G1 c9.es b).getD 0),.bool (G1 c9.es b).isSome]))else none
   |none=>none
  |_,_=>none
 |.pn x k v=>match ρ x,ρ k,ρ v with
  |.mp s t,.x7 (.string b),.int .i64 n=>match own.get s t with
   |some c9=>if b.size<=9223372036854775807/\c9.es.length<9223372036854775807/\-9223372036854775808<=n/\n<=9223372036854775807 then some (.bz .any (own.put s ((own s).q9 t (some ⟨c9.a7,SY c9.es b n⟩))))else none
   |none=>none
  |_,_,_=>none
 |.nf a7 bytes x y=>match EX own (ρ y),ρ x with
  |some ys,.row s t z 0 0=>match own.get s t with
   |some b=>if(∀e∈ys,e.length=a7/\∀c∈e,Q9 c=true)/\b.a7=a7/\z=a7/\ys.length*bytes<=ET/\ys.length<=9223372036854775807 then some (.bz (.sl false ys) (own.put s (((own s).q9 t none).lost)))else none
   |none=>none
  |_,_=>none
 |.fe fs f a7 x c=>match ρ c with
  |.fn true f' g []=>if f'=f/\g=C.num f/\C.ff fs=some a7 then(match ρ x with
   |.nil=>some (.bz (.j4 []) own)
   |.row s t z 0 len=>match own.get s t with
    |some b=>if len=b.es.length/\z=a7/\b.a7=a7/\len<4611686018427387904 then(jT C.cmp f b.es).map λes'=>.bz (.j4 []) (own.put s ((own s).q9 t (some ⟨a7,es'⟩)))else none
    |none=>none
   |_=>none)else none
  |_=>none
 |.cz s f xs=>(dY C f (xs.map ρ) s (own s)).map λp=>.rp s p.2 p.1
 |.ix tb x=>match ρ x with
  |.int _ n=>if 0<=n then(match tb[n.toNat]? with
   |some v=>some (.val (.int .u8 v))
   |none=>none)else none
  |_=>none
 |.pg p f xs=>(xs.mapM (λx=>IA (ρ x))).map (λcs=>.val (.fn (p&&cs.isEmpty) f (C.num f) cs))
 |.o5 f xs=>if(xs.map ρ).all dq=true then(match C.pure f ((xs.map ρ).map wz)with
   |some r=>if KI r\/U3 r then some (.val (NV r))else none
   |none=>none)else none
 |.po s n x v=>match ρ x,cellsOf (ρ v)with
  |.ptr s' t i j,some vs=>if s'=s/\vs.length=n then(own.om s t i j vs).map (λo'=>B3.q9 s (o' s))else none
  |_,_=>none
 |.x5 s f xs=>match (xs.map ρ).mapM (QB (own.s9 b9) true)with
  |some vs=>(OD (C.fq f vs Own.emp)).map (λr=>.new s ⟨r.1,r.2⟩ (λt=>.row s t r.1 0 r.2.length))
  |none=>none
 |.u6 x xs=>match ρ x with
  |.fn p f g cs=>if g=C.num f then(match p,cs with
   |true,[]=>(match (xs.map ρ).mapM (CX own true)with
    |some vs=>(C.pure f vs).map .val
    |none=>none)
   |false,cs=>(C.fq f (xs.map ρ++cs) own).map (λr=>.bz r.1 r.2)
   |true,c::cs=>(match (AV.agg (c::cs)::xs.map ρ).mapM (CX own true)with
    |some vs=>(C.pure f vs).map .val
    |none=>none))else none
  |_=>none
def St.dst(st:St)(d:Option Nat)(v:AV):St :=
 match d with
 |some d=>{ st with tm:=jz st.tm d v }
 |none=>st
def St.app(st:St)(d:Option Nat):B3->St
 |.val v=>st.dst d v
 |.new s b v=>{ (st.dst d (v (st.own.j6 s)))with own:=st.own.put s ((st.own s).new b) }
 |.zj s b v=>{ (st.dst d (v (st.own.j6 s)))with own:=st.own.put s ((st.own s).new b) }
 |.bz v o=>{ (st.dst d v)with own:=o }
 |.Au s v o=>{ (st.dst d v)with own:=o.put s (st.own s) }
 |.q9 s x=>{ (st.dst d (.j4 []))with own:=st.own.put s x }
 |.rp s x v=>{ (st.dst d v)with own:=st.own.put s x }
def F7(st:St):Option (Nat×Bool)->Option Bool
 |none=>some true
 |some (g,want)=>match j7 st.tm g with
  |.bool b=>some (b == want)
  |.j4 []=>some false
  |_=>none
noncomputable def CQ(C:Cl)(o:AI)(st:St):Option St :=
 match F7 st o.guard with
 |some true=>(e9 C o.b9 st.ev st.own o.op).map (st.app o.dst)
 |some false=>some (st.dst o.dst (.j4 []))
 |none=>none
noncomputable def DC(C:Cl):List AI->St->Option St
 |[],st=>some st
 |o::r,st=>match CQ C o st with
  |some n9=>DC C r n9
  |none=>none
def EJ:DU->Option Nat
 |.z8 s _=>some s
 |.box s _=>some s
 |.alloc s _=>some s
 |.b8 s _ _=>some s
 |.mk s _ _ _ _ _=>some s
 |.po s _ _ _=>some s
 |.x5 s _ _=>some s
 |.di s _ _ _ _=>some s
 |.cz s _ _=>some s
 |_=>none
inductive It where
 |code (c:BF)
 |ot (ts ss:u_)
 |c9 (id:Nat)
 |lp (c:BF)
def GG(id:Nat):List It->Option (List It)
 |.c9 Jy::k=>if Jy=id then some k else GG id k
 |_::k=>GG id k
 |[]=>none
def Own.drop(o:Own):u_->Own
 |[]=>o
 |s::r=>(o.drop r).put s ⟨(o s).j6,λ_=>none⟩
noncomputable def run(C:Cl):Nat->List It->St->Option St
 |0,_,_=>none
 |_+1,[],st=>some st
 |n+1,.c9 _::k,st=>run C n k st
 |n+1,.ot ts ss::k,st=>run C n k ⟨bk st.tm ts,st.own.drop ss⟩
 |n+1,.lp c::k,st=>run C n (.code c :: .lp c::k) st
 |n+1,.code c::k,st=>match c with
  |.skip=>run C n k st
  |.ops l _=>match DC C l st with
   |some n9=>run C n k n9
   |none=>none
  |.dr c ts ss=>run C n (.code c :: .ot ts ss::k) st
  |.scope c=>run C n (.code c::k) st
  |.seq a b=>run C n (.code a :: .code b::k) st
  |.cond c a b=>match st.ev c with
   |.bool true=>run C n (.code a::k) st
   |.bool false=>run C n (.code b::k) st
   |_=>none
  |.block id c=>run C n (.code c :: .c9 id::k) st
  |.loop c=>run C n (.code c :: .lp c::k) st
  |.exit id=>match GG id k with
   |some k'=>run C n k' st
   |none=>none
  |.ret=>some st
def CJ(i:Nat):w_->Tm
 |[]=>[]
 |v::r=>(i,v)::CJ (i+1) r
def J8:AV->Option AV
 |.any=>none
 |.j4 _=>none
 |v=>some v
def FY(st:St):LJ->Option AV
 |.tmp t=>J8 (j7 st.tm t)
 |.cell t agg n=>match j7 st.tm t with
  |.ptr s u i j=>match st.own.qk s u i j n with
   |some cs=>M4 agg cs
   |none=>none
  |_=>none
def JS:w_->AV
 |[v]=>v
 |vs=>.j4 vs
structure Lib where
 fn:Nat->Option AFn
 num:Nat->Nat
 ext:Nat->w_->Option AV:=λ_ _=>none
 cmp:Nat->w_->Option AV:=λ_ _=>none
 ff:Nat->Option Nat:=λ_=>none
instance:CoeFun Lib (λ_=>Nat->Option AFn) := ⟨Lib.fn⟩
open Classical in
noncomputable def JM(I:w_->Option (AV×Own))(vs:w_):Option AV :=
 match I vs with
 |some (r,o)=>match US o false r with
  |some r'=>if AY r' then some r' else none
  |none=>none
 |none=>none
def Lib.rn(L:Lib)(f:Nat):Bool:=match L f with
 |some fn=>fn.rn
 |none=>false
open Classical in
noncomputable def N1(b:Bool)(I:w_->Option (AV×Own))(vs:w_):Option AV:=match b,vs with
 |true,.sl _ []::vs=>match JM I (.x7 (.bool true)::vs),JM I (.x7 (.bool false)::vs)with
  |some r,some r'=>if r=r' then some r else none
  |_,_=>none
 |_,vs=>JM I vs
open Classical in
noncomputable def N2(L:Lib)(f:Nat)(I:w_->Option (AV×Own))(vs:w_):Option AV:=match L f with
 |some _=>N1 (L.rn f) I vs
 |none=>match L.ext f vs with
  |some r=>if AY r then some r else none
  |none=>none
noncomputable def DI(L:Lib):Nat->Nat->w_->Own->Option (AV×Own)
 |0,_,_,_=>none
 |n+1,f,args,own=>match L f with
  |none=>none
  |some fn=>if args.length=fn.ch then
    match run ⟨λf vs=>N2 L f (λvs=>DI L n f vs Own.emp) vs,DI L n,L.num,L.cmp,L.ff⟩ n [.code fn.body] ⟨CJ 0 args,own⟩with
    |some st=>match fn.res.mapM (FY st)with
     |some vs=>some (JS vs,st.own)
     |none=>none
    |none=>none
   else none
noncomputable def FU(L:Lib)(n f:Nat)(vs:w_):Option AV:=N2 L f (λvs=>DI L n f vs Own.emp) vs
noncomputable def CN(L:Lib)(n:Nat):Cl:=⟨FU L n,DI L n,L.num,L.cmp,L.ff⟩
theorem X7(L:Lib)(n f:Nat)(args:w_)(own:Own):DI L (n+1) f args own =
  match L f with
  |none=>none
  |some fn=>if args.length=fn.ch then
    match run (CN L n) n [.code fn.body] ⟨CJ 0 args,own⟩with
    |some st=>match fn.res.mapM (FY st)with
     |some vs=>some (JS vs,st.own)
     |none=>none
    |none=>none
   else none:=rfl
namespace C
abbrev o(d:Nat)(op:DU):AI:=⟨some d,op,none,[]⟩
abbrev n(op:DU):AI:=⟨none,op,none,[]⟩
abbrev g(d i:Nat)(b:Bool)(op:DU):AI:=⟨some d,op,some (i,b),[]⟩
abbrev m(d s:Nat):AI:=⟨some d,.o9 (.t s),none,[]⟩
abbrev k(v:Int):AL := .c (.int .i64 v)
abbrev z:AV := .int .i64 0
abbrev q(d:Nat)(b9:u_)(op:DU):AI:=⟨some d,op,none,b9⟩
abbrev u(b9:u_)(op:DU):AI:=⟨none,op,none,b9⟩
abbrev v(d i:Nat)(b:Bool)(b9:u_)(op:DU):AI:=⟨some d,op,some (i,b),b9⟩
abbrev p(l:List AI):BF := .ops l false
abbrev P(l:List AI):BF := .ops l true
abbrev d(l:List AI)(ts:u_):BF := .dr (.ops l false) ts []
abbrev e(l:List AI)(ts:u_):BF := .dr (.ops l true) ts []
abbrev s(a b:BF):BF := .seq a b
abbrev i(c:AL)(a b:BF):BF := .cond c a b
abbrev b(id:Nat)(c:BF):BF := .block id c
abbrev w(c:BF):BF := .loop c
abbrev x(id:Nat):BF := .exit id
instance (i:Nat):OfNat AL i := ⟨.t i⟩
abbrev mv(d:Nat)(x:AL):AI:=⟨some d,.o9 x,none,[]⟩
abbrev tt(d n:Nat)(x:AL):AI:=⟨some d,.ld true n x,none,[]⟩
abbrev uu(d n:Nat)(x:AL):AI:=⟨some d,.ld false n x,none,[]⟩
abbrev ca(d f:Nat)(l:List AL):AI:=⟨some d,.call f l,none,[]⟩
abbrev fa(d:Nat)(x:AL)(a:Nat):AI:=⟨some d,.l8 x a,none,[]⟩
abbrev ia(d z:Nat)(x y:AL):AI:=⟨some d,.q8 none z x y,none,[]⟩
abbrev bi(d:Nat)(f:BinOp)(x y:AL):AI:=⟨some d,.bin f x y,none,[]⟩
abbrev ad(d:Nat)(x y:AL):AI:=⟨some d,.bin .add x y,none,[]⟩
abbrev sb(d:Nat)(x y:AL):AI:=⟨some d,.bin .sub x y,none,[]⟩
abbrev ls(d:Nat)(x y:AL):AI:=⟨some d,.bin .lss x y,none,[]⟩
abbrev al(d:Nat)(l:w_):AI:=⟨some d,.alloc d l,none,[]⟩
abbrev ln(d:Nat)(x:AL):AI:=⟨some d,.len x,none,[]⟩
abbrev et(d:Nat)(x:AL)(a:Nat):AI:=⟨some d,.ext x a,none,[]⟩
abbrev bx(d:Nat)(x:AL):AI:=⟨some d,.box d x,none,[]⟩
abbrev pk(d:Nat)(x y w:AL):AI:=⟨some d,.pick x y w,none,[]⟩
abbrev nt(d:Nat)(x:AL):AI:=⟨some d,.un .not x,none,[]⟩
abbrev cu(d:Nat)(x:AL):AI:=⟨some d,.conv .u64 x,none,[]⟩
abbrev so(n:Nat)(x y:AL):AI:=⟨none,.st n x y,none,[]⟩
abbrev kf:AL := .c (.bool false)
abbrev kt:AL := .c (.bool true)
abbrev k0:AL := .c (.int .i64 0)
abbrev k1:AL := .c (.int .i64 1)
abbrev z3:w_:=[.bool false,.nil,.nil]
abbrev z6:w_:=[.nil,.nil,.nil,.bool false,.nil,.nil]
abbrev sd(l:List AI)(ts:u_)(c:BF):BF := .seq (.dr (.ops l false) ts []) c
abbrev se(l:List AI)(ts:u_)(c:BF):BF := .seq (.dr (.ops l true) ts []) c
abbrev sp(l:List AI)(c:BF):BF := .seq (.ops l false) c
abbrev ra(a n:Nat):u_:=xd a n
abbrev rl(l:u_)(a n:Nat):u_:=l++xd a n
end C
end Go.Eng
namespace Go.Eng
def fJ:Value->AV->Bool
 |.int k n,.int k' n'=>k == k'&&n == n'
 |.bool b,.bool b'=>b == b'
 |.slice none 0 0,.nil=>true
 |.string s,.x7 (.string s')=>s.data.toList == s'.data.toList
 |.nilFunc,.x7 .nilFunc=>true
 |.map none,.x7 (.map none)=>true
 |_,_=>false
def QU:List Value->w_->Bool
 |[],[]=>true
 |v::r,a::l=>fJ v a&&QU r l
 |_,_=>false
def mN:Value->AV->Bool
 |.agg cs,.agg l=>QU cs.toList l
 |v,a=>fJ v a
def BT:Operand->AL->Bool
 |.tmp t,.t n=>t == n
 |.const v,.c a=>mN v a
 |.func g,.c (.fn _ _ g' [])=>g == g'
 |_,_=>false
def EH:List Operand->List AL->Bool
 |[],[]=>true
 |v::r,a::l=>BT v a&&EH r l
 |_,_=>false
def OK:Option Operand->Option AL->Bool
 |none,none=>true
 |some x,some y=>BT x y
 |_,_=>false
section
variable (P:Program)
def XN(t:TypeId):Option Bool :=
 match P.underlying t with
 |some (.struct _)=>some true
 |some (.array _ _)=>some true
 |some _=>some false
 |none=>none
def KE(t:TypeId)(n:Nat):Bool:=match P.info? t with|some i=>i.size == n|none=>false
def XQ(t:TypeId)(n:Nat):Bool:=match P.info? t with|some i=>i.bytes == n|none=>false
def XB(t:TypeId)(l:w_):Bool:=match P.info? t with|some i=>(match i.zero with|some z=>QU z.cells.toList l|none=>false)|none=>false
def KF(t:TypeId)(f:TypeId->Bool):Bool:=match P.underlying t with|some (.slice e)=>f e|_=>false
def Rj(t:TypeId)(i off n:Nat):Bool:=match P.underlying t with
 |some (.struct fs)=>(match fs[i]? with|some f=>f.offset == off&&KE P f.type n&&n != 0|none=>false)
 |_=>false
def Rk(t:TypeId)(i:Nat)(agg:Bool):Bool:=match P.underlying t with
 |some (.struct fs)=>(match fs[i]? with|some f=>XN P f.type == some agg|none=>false)
 |_=>false
def WJ(place:Nat->Option (Nat×Nat)):List (Nat×Operand)->List (Nat×Nat×AL)->Bool
 |[],[]=>true
 |(i,x)::r,(off,n,y)::l=>place i == some (off,n)&&BT x y&&WJ place r l
 |_,_=>false
def lG(t:TypeId)(ps:List (Nat×Operand))(cp:List (Nat×Nat×AL)):Bool:=match P.underlying t with
 |some (.struct fs)=>(match fs.toList.mapM (λf=>(P.info? f.type).map λi=>(f.offset,i.size))with|some places=>WJ (places.toArray[·]?) ps cp|none=>false)
 |some (.array _ e)=>(match P.info? e with|some ie=>WJ (λi=>some (i*ie.size,ie.size)) ps cp|none=>false)
 |_=>false
def VY(k:Nat):List (Nat×Operand)->List AL->Bool
 |[],[]=>true
 |(i,x)::r,y::l=>i == k&&BT x y&&VY (k+1) r l
 |_,_=>false
def bD(t:TypeId):Bool:=match P.underlying t with
 |some (.map k e)=>(match P.underlying k with|some .string=>true|_=>false)&&(match P.underlying e with|some (.int .i64)=>true|_=>false)&&(match P.info? e with|some i=>(match i.zero with|some (.int .i64 n)=>n == 0|_=>false)|none=>false)
 |_=>false
def A6(num:Nat->Nat)(op:Op):DU->Bool
 |.nf a7 bytes x' y'=>match op with
  |.call ⟨.builtin .append,xs,ts⟩=>(match xs.toList,ts.toList with
   |[x,y],[t,u]=>BT x x'&&BT y y'&&KF P t (λe=>KE P e a7&&XQ P e bytes&&(match P.info? e with|some i=>(match i.zero with|some z=>z.cells.size == a7|none=>false)|none=>false))&&a7 != 0&&KF P u (λ_=>true)
   |_,_=>false)
  |_=>false
 |.fe fs _ _ x' c'=>match op with
  |.call ⟨.value (.func f),xs,_⟩=>f == num fs&&EH xs.toList [x',c']
  |_=>false
 |.pj s=>Nat.ble D9 s&&(match op with |.makeMap t none=>bD P t|_=>false)
 |.ql x' k'=>match op with |.lookup t x k true=>bD P t&&BT x x'&&BT k k'|_=>false
 |.pn x' k' v'=>match op with |.mapUpdate t x k v=>bD P t&&BT x x'&&BT k k'&&BT v v'|_=>false
 |.o9 y=>match op with |.move x=>BT x y |.assign x=>BT x y|_=>false
 |.z8 _ z=>z != 0&&(match op with |.move (.const (.slice none 0 0))=>true |.assign (.const (.slice none 0 0))=>true|_=>false)
 |.pick c' a' b'=>match op with |.pick c a b=>BT c c'&&BT a a'&&BT b b'|_=>false
 |.bin Al x' y'=>match op with |.binOp op _ x y _=>op == Al&&BT x x'&&BT y y'|_=>false
 |.beq ne x' y'=>match op with |.binOp op t x y _=>(if ne then op == .neq else op == .eql)&&(match P.underlying t with|some .bool=>true|_=>false)&&BT x x'&&BT y y'|_=>false
 |.un Al x'=>match op with |.unOp op _ x=>op == Al&&BT x x'|_=>false
 |.conv k x'=>match op with |.convert s d x=>(P.underlying s).isSome&&(match P.underlying d with|some (.int k')=>k == k'|_=>false)&&BT x x'|_=>false
 |.box _ x'=>match op with |.box _ x=>BT x x'|_=>false
 |.alloc _ z=>match op with |.alloc t=>XB P t z|_=>false
 |.build z cp=>match op with |.build t ps=>XB P t z&&lG P t ps.toList cp|_=>false
 |.b8 _ a7 cp |.lit a7 cp=>match op with
  |.buildSlice t n ps=>KF P t (λe=>KE P e a7)&&a7 != 0&&n == cp.length&&decide (n*a7<=16777216)&&VY 0 ps.toList cp&&(n == 0||KF P t (λe=>match P.info? e with|some i=>(match i.zero with|some z=>z.cells.size == a7|none=>false)|none=>false))
  |_=>false
 |.l8 x' off=>match op with
  |.fieldAddr s x f=>BT x x'&&(match P.underlying s with|some (.struct fs)=>(match fs[f]? with|some fd=>fd.offset == off&&(match P.info? fd.type with|some i=>i.size != 0|none=>false)|none=>false)|_=>false)
  |_=>false
 |.nj x' off n agg=>match op with |.field t x f=>BT x x'&&Rj P t f off n&&Rk P t f agg|_=>false
 |.q8 arr a7 x' i'=>match op with
  |.indexAddr t x i=>BT x x'&&BT i i'&&(match P.underlying t,arr with|some (.array len e),some tc=>len == tc&&KE P e a7&&decide (1<len)|some (.slice e),none=>KE P e a7&&a7 != 0|_,_=>false)
  |_=>false
 |.ld agg n x'=>match op with |.load t x=>BT x x'&&XN P t == some agg&&(if agg then KE P t n else n == 1)|_=>false
 |.st n x' v'=>match op with |.store t x v=>BT x x'&&BT v v'&&KE P t n|_=>false
 |.mk _ a7 bytes z l' c'=>match op with
  |.makeSlice t l c=>BT l l'&&BT c c'&&KF P t (λe=>KE P e a7&&XQ P e bytes&&XB P e z)&&a7 != 0
  |_=>false
 |.ik a7 x' pf w6=>match op with
  |.slice t x lo hi none=>BT x x'&&OK lo pf&&OK hi w6&&KF P t (λe=>KE P e a7)&&a7 != 0
  |_=>false
 |.ext x' i'=>match op with |.extract x i=>BT x x'&&i == i'|_=>false
 |.len x'=>match op with
  |.call ⟨.builtin .len,xs,ts⟩=>(match xs.toList,ts.toList with|[x],[t]=>BT x x'&&KF P t (λ_=>true)|_,_=>false)
  |_=>false
 |.mm max xs'=>match op with
  |.call ⟨.builtin .min,xs,_⟩=>!max&&EH xs.toList xs'
  |.call ⟨.builtin .max,xs,_⟩=>max&&EH xs.toList xs'
  |_=>false
 |.app _ a7 bytes x' y'=>match op with
  |.call ⟨.builtin .append,xs,ts⟩=>(match xs.toList,ts.toList with
   |[x,y],[t,u]=>BT x x'&&BT y y'&&KF P t (λe=>KE P e a7&&XQ P e bytes&&(match P.info? e with|some i=>(match i.zero with|some z=>z.cells.size == a7|none=>false)|none=>false))&&a7 != 0&&KF P u (λ_=>true)
   |_,_=>false)
  |_=>false
 |.di _ a7 bytes x' y'=>match op with
  |.call ⟨.builtin .append,xs,ts⟩=>(match xs.toList,ts.toList with
   |[x,y],[t,u]=>BT x x'&&BT y y'&&KF P t (λe=>KE P e a7&&XQ P e bytes&&(match P.info? e with|some i=>(match i.zero with|some z=>z.cells.size == a7|none=>false)|none=>false))&&a7 != 0&&KF P u (λ_=>true)
   |_,_=>false)
  |_=>false
 |.call f' xs'=>match op with
  |.call ⟨.value (.func f),xs,_⟩=>f == num f'&&EH xs.toList xs'
  |_=>false
 |.j5 f' xs'=>match op with
  |.call ⟨.value (.func f),xs,_⟩=>f == num f'&&EH xs.toList xs'
  |_=>false
 |.cz _ f' xs'=>match op with
  |.call ⟨.value (.func f),xs,_⟩=>f == num f'&&EH xs.toList xs'
  |_=>false
 |.ta ne x'=>match op with
  |.binOp op t x (.const (.slice none 0 0)) _=>(if ne then op == .neq else op == .eql)&&KF P t (λ_=>true)&&BT x x'
  |_=>false
 |.bad=>true
 |.kx x'=>match op with
  |.nilCheck x=>BT x x'
  |_=>false
 |.ix tb i'=>match op with
  |.index t (.const (.string s)) i=>(match P.underlying t with|some .string=>true|_=>false)&&s.data.toList.map (λb=>b.toNat) == tb&&BT i i'
  |_=>false
 |.pg _ f' xs'=>match op with
  |.makeFunc (.func f) first xs=>f == num f'&&first.toList.isEmpty&&EH xs.toList xs'
  |_=>false
 |.o5 f' xs'=>match op with
  |.call ⟨.value (.func f),xs,_⟩=>f == num f'&&EH xs.toList xs'
  |_=>false
 |.x5 _ f' xs'=>match op with
  |.call ⟨.value (.func f),xs,_⟩=>f == num f'&&EH xs.toList xs'
  |_=>false
 |.po _ n x' v'=>match op with |.store t x v=>BT x x'&&BT v v'&&KE P t n|_=>false
 |.u6 x' xs'=>match op with
  |.call ⟨.value x,xs,_⟩=>BT x x'&&EH xs.toList xs'
  |_=>false
def bJ(ops:Array Oper):Option (Nat×Bool)->Option (Nat×Bool)->Bool
 |none,none=>true
 |some (j,b),some (t,b')=>b == b'&&(match ops[j]? with|some o=>o.dst == some t|none=>false)
 |_,_=>false
def Y4(a:DU):Bool:=(match EJ a with|some s=>jd s D9|none=>true)&&(match a with |.app s _ _ _ _=>jd s D9|_=>true)
def iN(num:Nat->Nat)(N:Nat)(ops:Array Oper)(o:Oper)(a:AI):Bool :=
 o.dst == a.dst&&(match a.dst with|some d=>decide (d<N)|none=>true)&&bJ ops o.guard a.guard&&A6 P num o.op a.op&&Y4 a.op
def RA(num:Nat->Nat)(N:Nat)(ops:Array Oper):List Oper->List AI->Bool
 |[],[]=>true
 |o::r,a::l=>iN P num N ops o a&&RA num N ops r l
 |_,_=>false
def GJ:DU->Bool
 |.st .. |.app .. |.j5 .. |.u6 .. |.pj .. |.pn .. |.nf .. |.fe .. =>true
 |_=>false
def WN:DU->Bool
 |.ld .. |.call .. |.x5 .. |.ql .. =>true
 |_=>false
def MR(a:DU):Bool:=GJ a||WN a||(EJ a).isSome
def CD:AL->u_
 |.t n=>[n]
 |.c _=>[]
def qJ:Option AL->u_
 |some x=>CD x
 |none=>[]
def HB:DU->u_
 |.o9 x=>CD x
 |.z8 _ _=>[]
 |.pick c a b=>CD c++CD a++CD b
 |.bin _ x y=>CD x++CD y
 |.beq _ x y=>CD x++CD y
 |.un _ x=>CD x
 |.conv _ x=>CD x
 |.box _ x=>CD x
 |.alloc _ _=>[]
 |.build _ ps=>ps.flatMap (λp=>CD p.2.2)
 |.b8 _ _ ps=>ps.flatMap CD
 |.lit _ ps=>ps.flatMap CD
 |.l8 x _=>CD x
 |.nj x _ _ _=>CD x
 |.q8 _ _ x i=>CD x++CD i
 |.ld _ _ x=>CD x
 |.st _ x v=>CD x++CD v
 |.mk _ _ _ _ l c=>CD l++CD c
 |.ik _ x lo hi=>CD x++qJ lo++qJ hi
 |.ext x _=>CD x
 |.len x=>CD x
 |.mm _ xs=>xs.flatMap CD
 |.app _ _ _ x y=>CD x++CD y
 |.di _ _ _ x y=>CD x++CD y
 |.call _ xs=>xs.flatMap CD
 |.j5 _ xs=>xs.flatMap CD
 |.ta _ x=>CD x
 |.ix _ x=>CD x
 |.pg _ _ xs=>xs.flatMap CD
 |.u6 x xs=>CD x++xs.flatMap CD
 |.o5 _ xs=>xs.flatMap CD
 |.po _ _ x v=>CD x++CD v
 |.x5 _ _ xs=>xs.flatMap CD
 |.cz _ _ xs=>xs.flatMap CD
 |.bad=>[]
 |.kx x=>CD x
 |.pj _=>[]
 |.nf _ _ x y=>CD x++CD y
 |.fe _ _ _ x c=>CD x++CD c
 |.ql x k=>CD x++CD k
 |.pn x k v=>CD x++CD k++CD v
def YL(x:AI):u_:=HB x.op++(match x.guard with|some (g,_)=>[g]|none=>[])++x.dst.toList
def J6(b:Array Nat)(i j:Nat):Bool:=(b.getD (max i j) 0).testBit (min i j)
def OM(x:AI):Option Nat:=match x.op,x.b9 with
 |.j5 _ _,[s]=>some s
 |_,_=>none
def YH(x y:AI):Bool:=match OM x with
 |some s=>EJ y.op == some s&&(!GJ y.op && !WN y.op)
 |none=>false
def Wu(b:Array Nat)(x:AI)(i:Nat)(y:AI)(j:Nat):Bool :=
 i == j||J6 b i j ||
  ((match y.dst with|some t=>!(YL x).contains t|none=>true) &&
   (!GJ x.op || !MR y.op||YH x y) &&
   (!WN x.op||(match EJ y.op with|some s=>x.b9.contains s|none=>true)) )
def VV(ops:Array Oper)(l:List AI):Bool :=
 let b:=Region.before ops
 (l.zipIdx.all λ(x,i)=>l.zipIdx.all λ(y,j)=>Wu b x i y j&&(i == j||J6 b i j||(match EJ x.op,EJ y.op with|some s,some s'=>s != s'|_,_=>true))) &&
 (ops.toList.zipIdx.all λ(o,i)=>o.after.all λe=>decide (e.on<i)||(match e.ground with |.gcOnly _=>true|_=>false)) &&
 (!Region.departs ops||(pd ops.size).all (λi=>(Region.linearise .gc ops 0).contains i))
def FE(num:Nat->Nat)(N:Nat):Code->BF->Bool
 |c,.dr a _ _=>FE num N c a
 |c',.skip=>match c' with |.skip=>true |.label _=>true|_=>false
 |c',.scope a=>match c' with |.scope c=>FE num N c a|_=>false
 |c',.ops l qp=>match c' with |.region _ ops draw=>draw == qp&&RA P num N ops ops.toList l&&(!draw||VV ops l)|_=>false
 |c',.seq a' b'=>match c' with |.seq a b=>FE num N a a'&&FE num N b b'|_=>false
 |c',.cond x' a' b'=>match c' with |.cond x a b=>BT x x'&&FE num N a a'&&FE num N b b'|_=>false
 |c',.block i' a=>match c' with |.block i c=>i == i'&&FE num N c a|_=>false
 |c',.loop a=>match c' with |.loop c=>FE num N c a|_=>false
 |c',.exit i'=>match c' with |.exit i=>i == i'|_=>false
 |c',.ret=>match c' with |.ret=>true|_=>false
def N0:List ResultVar->List LJ->Bool
 |[],[]=>true
 |.tmp t::r,.tmp t'::l=>t == t'&&N0 r l
 |.cell a t::r,.cell a' agg n::l=>a == a'&&XN P t == some agg&&(if agg then KE P t n else n == 1)&&N0 r l
 |_,_=>false
def okFn(num:Nat->Nat)(fn:Func)(a:AFn):Bool :=
 fn.params.size+fn.nfree == a.ch&&decide (a.ch<=fn.ntmps)&&N0 P fn.results.toList a.res&&(match fn.body with|some c=>FE P num fn.ntmps c a.body|none=>false)
end
end Go.Eng

namespace Go.Eng
@[irreducible] def E1(a b:Nat):Nat := (a + 18446744073709551616 - b) % 18446744073709551616
theorem W8(a b:Nat):E1 a b=(a+18446744073709551616-b)%18446744073709551616:=by unfold E1;rfl
def val:u_->Nat
 |[]=>0
 |d::l=>d+4294967296*val l
def A1(l:u_):Prop := ∀d∈l,d<4294967296
def dg(n:Nat):u_:=if h:n=0 then[]else n%4294967296::dg (n/4294967296)
termination_by n
decreasing_by omega
theorem FJ:dg 0=[]:=by rw[dg];simp
theorem KR{n:Nat}(h:n≠0):dg n=n%4294967296::dg (n/4294967296):=by rw[dg];simp[h]
theorem KH:val []=0:=rfl
theorem RI(d:Nat)(l:u_):val (d::l)=d+4294967296*val l:=rfl
theorem BN(n:Nat):val (dg n)=n:=by
 induction n using db with
 |ind n ih=>
  by_cases h:n=0
  ·subst h;rw[FJ];rfl
  ·rw[KR h,RI,ih _ O']
   omega
theorem DX(n:Nat):A1 (dg n):=by
 induction n using db with
 |ind n ih=>
  by_cases h:n=0
  ·subst h;rw[FJ];intro d hd;cases hd
  ·rw[KR h]
   intro d hd;rcases Gc.1 hd with rfl|hd
   ·omega
   ·exact ih _ O' d hd
theorem A1.tail{d:Nat}{l:u_}(h:A1 (d::l)):A1 l:=λx hx=>h x (ga _ hx)
theorem A1.head{d:Nat}{l:u_}(h:A1 (d::l)):d<4294967296:=h d Ja
theorem A1.at{l:u_}(h:A1 l){i d:Nat}(hd:l[i]?=some d):d<4294967296:=h d (zM hd)
theorem A1.take{l:u_}(h:A1 l)(n:Nat):A1 (l.take n):=λx hx=>h x (List.mem_of_mem_take hx)
theorem A1.drop{l:u_}(h:A1 l)(n:Nat):A1 (l.drop n):=λx hx=>h x (List.mem_of_mem_drop hx)
theorem X4:A1 []:=λ_ h=>by cases h
theorem A1.append{a b:u_}(h:A1 a)(h':A1 b):A1 (a++b):=λx hx=>(Aa.1 hx).elim (h x) (h' x)
theorem II{d:Nat}(h:d<4294967296):A1 [d]:=λx hx=>by simp at hx;omega
theorem A1.set{l:u_}(h:A1 l)(i:Nat){d:Nat}(hd:d<4294967296):A1 (l.set i d):=λx hx=>by
 rcases List.mem_or_eq_of_mem_set hx with h1|h1
 ·exact h x h1
 ·omega
theorem KS(n:Nat):A1 (ya n 0):=λx hx=>by rw[(List.mem_replicate.1 hx).2];omega
theorem ZG(a b:u_):val (a++b)=val a+4294967296^a.length*val b:=by
 induction a with
 |nil=>simp[val]
 |cons d l ih=>rw[fc,RI,RI,ih,sa,Gb];grind
theorem N6(l:u_)(v:Nat):val (l++[v])=val l+4294967296^l.length*v:=by
 rw[ZG];simp[val]
theorem FM{l:u_}(h:A1 l):val l<4294967296^l.length:=by
 induction l with
 |nil=>simp[val]
 |cons d l ih=>
  have h1:=ih h.tail;have h2:=h.head;rw[RI,sa,Gb];omega
theorem EB{l:u_}{i v:Nat}(h:l[i]?=some v):val (l.take (i+1))=val (l.take i)+4294967296^i*v:=by
 have hi:=(zS h).1;rw[pc,h,Option.toList_some,N6,da,Ma O']
theorem LH(l:u_)(i:Nat)(h:i<=l.length):val l=val (l.take i)+4294967296^i*val (l.drop i):=by
 have:=ZG (l.take i) (l.drop i)
 rw[Db,da,Ma h]at this;exact this
theorem kF(n:Nat):val (ya n 0)=0:=by
 induction n with
 |zero=>rfl
 |succ n ih=>rw[List.replicate_succ,RI,ih]
theorem Ahg{l:u_}(h:A1 l)(ht:l=[]\/∃d,l[l.length-1]?=some d/\d≠0):dg (val l)=l:=by
 induction l with
 |nil=>exact FJ
 |cons d l ih=>
  have h1:=h.head;by_cases hl:l=[]
  ·subst hl
   rcases ht with ht|⟨x,hx,nc⟩
   ·cases ht
   ·simp at hx
    subst hx;rw[RI,KH,KR O',show(d+4294967296*0)/4294967296=0 by omega,FJ,show(d+4294967296*0)%4294967296=d by omega]
  ·have nb:∃x,l[l.length-1]?=some x/\x≠0:=by
    rcases ht with ht|⟨x,hx,nc⟩
    ·cases ht
    ·refine⟨x,?_,nc⟩
     have:l.length≠0:=λe=>hl (kb e)
     rw[sa,show l.length+1-1=(l.length-1)+1 by omega,Ba]at hx;exact hx
   have Hu:=ih h.tail (Or.inr nb);have yi:val l≠0:=by
    intro e;rw[e,FJ]at Hu;exact hl Hu.symm
   rw[RI,KR O',show(d+4294967296*val l)/4294967296=val l by omega,Hu,show(d+4294967296*val l)%4294967296=d by omega]
theorem HU{l:u_}(h:A1 l){n:Nat}(hn:n<=l.length)(hz:∀i,n<=i->i<l.length->l[i]?=some 0)(ht:n=0\/∃d,l[n-1]?=some d/\d≠0):l.take n=dg (val l):=by
 have hv:val l=val (l.take n):=by
  have h0:l.drop n=ya (l.length-n) 0:=by
   apply List.ext_getElem?;intro i;rw[xc,List.getElem?_replicate];by_cases hi:n+i<l.length
   ·rw[hz (n+i) O' hi,if_pos O']
   ·rw[List.getElem?_eq_none O',if_neg O']
  rw[LH l n hn,h0,kF];omega
 rw[hv];refine(Ahg (h.take n) ?_).symm;rcases ht with rfl|⟨d,hd,qa⟩
 ·exact Or.inl Z'
 ·have hlt:=(zS hd).1
  by_cases oa:n=0
  ·subst oa;exact Or.inl Z'
  ·refine Or.inr ⟨d,?_,qa⟩
   rw[da,Ma hn,List.getElem?_take,if_pos O'];exact hd
theorem NM{n k:Nat}:(dg n).length<=k↔n<4294967296^k:=by
 induction k generalizing n with
 |zero=>
  by_cases h:n=0
  ·subst h;simp[FJ]
  ·rw[KR h];simp;omega
 |succ k ih=>
  by_cases h:n=0
  ·subst h;simp[FJ];exact uc Z'
  ·rw[KR h,sa,Nat.succ_le_succ_iff,ih,Gb]
   rw[na O']
theorem FA{l:u_}(h:A1 l):(dg (val l)).length<=l.length:=NM.2 (FM h)
theorem lZ{n:Nat}(h:n≠0):∃d,(dg n)[(dg n).length-1]?=some d/\d≠0:=by
 induction n using db with
 |ind n ih=>
  rw[KR h];by_cases h2:n/4294967296=0
  ·rw[h2,FJ]
   exact⟨n%4294967296,Z',O'⟩
  ·obtain⟨d,hd,qa⟩:=ih _ O' h2
   refine⟨d,?_,qa⟩;have hl:(dg (n/4294967296)).length≠0:=λe=>by rw[kb e]at hd;simp at hd
   rw[sa,show(dg (n/4294967296)).length+1-1=(dg (n/4294967296)).length-1+1 by omega,Ba];exact hd
theorem lX{n:Nat}:dg n=[]↔n=0:=by
 constructor
 ·intro h
  by_cases h0:n=0
  ·exact h0
  ·rw[KR h0]at h;cases h
 ·rintro rfl;exact FJ
theorem aD{n:Nat}(h:n≠0):1<=(dg n).length:=by rw[KR h];simp
theorem Am7{o:u_}{i v:Nat}(h:i<o.length):(o.set i v).take (i+1)=o.take i++[v]:=by
 rw[pc,Hb h,zc (Ga i)];rfl
theorem HD{o:u_}{i v:Nat}(h:i<o.length):val ((o.set i v).take (i+1))=val (o.take i)+4294967296^i*v:=by
 rw[Am7 h,N6,da,Ma O']
theorem QO(V p t:Nat):V+p*(t%4294967296)+p*4294967296*(t/4294967296)=V+p*t:=by
 have h:=Pb t 4294967296;have:p*(t%4294967296)+p*4294967296*(t/4294967296)=p*t:=by
  rw[Fa,<-Na,h]
 omega
theorem C8{l:u_}{n:Nat}(h:l.length<=n):val (l.take n)=val l:=by rw[zT h]
theorem Ww(i:Nat):1<=4294967296^i:=uc Z'
theorem IU{l:u_}{i d:Nat}(h:l[i]?=some d):val (l.drop i)=d+4294967296*val (l.drop (i+1)):=by
 obtain⟨hi,rfl⟩:=zS h;rw[List.drop_eq_getElem_cons hi,RI]
theorem jZ{a b:u_}(ha:A1 a)(hb:A1 b)(hl:a.length=b.length){i:Nat}{x y:Nat}(hx:a[i]?=some x)(hy:b[i]?=some y)(he:a.drop (i+1)=b.drop (i+1))(h:x<y):val a<val b:=by
 have hia:=(zS hx).1;have hib:=(zS hy).1;rw[LH a i O',LH b i O',IU hx,IU hy,he];have h1:=FM (ha.take i);rw[da,Ma O']at h1;generalize val (b.drop (i+1))=r;generalize 4294967296^i=p at*;have:p*(x+4294967296*r)+p<=p*(y+4294967296*r):=by
  rw[<-ob];exact va p O'
 omega
theorem kC{o:u_}{k v old:Nat}(h:o[k]?=some old):val (o.set k v)+4294967296^k*old=val o+4294967296^k*v:=by
 have hk:=(zS h).1;have h1:val (o.set k v)=val (o.take k)+4294967296^k*(v+4294967296*val (o.drop (k+1))):=by
  rw[LH (o.set k v) k K',zc (Ga k),IU (l:=o.set k v) (d:=v) (by rw[Hb hk]),List.drop_set_of_lt O']
 have h2:val o=val (o.take k)+4294967296^k*(old+4294967296*val (o.drop (k+1))):=by
  rw[LH o k O',IU h]
 rw[h1,h2,Na,Na];omega
theorem cJ{l:u_}(h:A1 l):l.take (dg (val l)).length=dg (val l):=by
 induction l with
 |nil=>rw[KH,FJ];rfl
 |cons d l ih=>
  have h1:=h.head;by_cases h0:val (d::l)=0
  ·rw[h0,FJ];rfl
  ·rw[KR h0,RI,show(d+4294967296*val l)/4294967296=val l by omega,show(d+4294967296*val l)%4294967296=d by omega,sa,List.take_succ_cons,ih h.tail]
theorem ZH{a b:Nat}(h:(dg a).length<(dg b).length):a<b:=by
 have h1:a<4294967296^(dg a).length:=NM.1 (Ga _);have h2:¬b<4294967296^((dg b).length-1):=λh3=>by have:=NM.2 h3;omega
 have h3:4294967296^(dg a).length<=4294967296^((dg b).length-1):=vb O' O';omega
end Go.Eng

namespace Go.Eng
def B0:List Int->List Int->Int
 |[],[]=>0
 |[],_::_=>-1
 |_::_,[]=>1
 |a::x,b::y=>if a<b then -1 else if b<a then 1 else B0 x y
theorem XY:∀x,B0 x x=0
 |[]=>rfl
 |a::x=>by simp only[B0,Int.lt_irrefl,if_false];exact XY x
theorem VP:∀{x y},B0 x y=0->x=y
 |[],[],_=>rfl
 |[],_::_,h=>by simp[B0]at h
 |_::_,[],h=>by simp[B0]at h
 |a::x,b::y,h=>by
  simp only[B0]at h;split at h
  ·simp at h
  ·split at h
   ·simp at h
   ·rw[show a=b by omega,VP h]
theorem VO:∀x y,B0 y x = -B0 x y
 |[],[]=>rfl
 |[],_::_=>rfl
 |_::_,[]=>rfl
 |a::x,b::y=>by
  simp only[B0];have:=VO x y
  split<;>split<;>first|omega|(split<;>omega)|skip
theorem Z9:∀{x y z},B0 x y<0->B0 y z<0->B0 x z<0
 |[],[],_,h,_=>by simp[B0]at h
 |[],_::_,[],_,h=>by simp[B0]at h
 |[],_::_,_::_,_,_=>by simp[B0]
 |_::_,[],_,h,_=>by simp[B0]at h
 |_::_,_::_,[],_,h=>by simp[B0]at h
 |a::x,b::y,c::z,h1,h2=>by
  simp only[B0]at*;have := @Z9 x y z;split at h1<;>split at h2<;>(try split at h1)<;>(try split at h2)<;>(try omega)
  all_goals (split;omega;split;omega;first|omega|exact this h1 h2)
theorem vT:∀x y,B0 x y = -1\/B0 x y=0\/B0 x y=1
 |[],[]=>by simp[B0]
 |[],_::_=>by simp[B0]
 |_::_,[]=>by simp[B0]
 |a::x,b::y=>by
  simp only[B0];have:=vT x y
  split
  ·simp
  ·split
   ·simp
   ·exact this
section
variable (f:List Int->List Int)
def AQ:Nat->List Int->List Int
 |0,s=>s
 |k+1,s=>AQ k (f s)
def A4:Nat->List Int->List (List Int)
 |0,_=>[]
 |k+1,s=>s::A4 k (f s)
variable {f}
theorem Q2:∀(k:Nat)(s:List Int),AQ f (k+1) s=f (AQ f k s)
 |0,_=>rfl
 |k+1,s=>Q2 k (f s)
theorem GO:∀(a b:Nat)(s:List Int),AQ f (a+b) s=AQ f b (AQ f a s)
 |0,b,s=>by rw[Bc];rfl
 |a+1,b,s=>by rw[show a+1+b=(a+b)+1 by omega];exact GO a b (f s)
theorem FL:∀(k:Nat)(s:List Int),(A4 f k s).length=k
 |0,_=>rfl
 |k+1,s=>by simp only[A4,sa,FL k]
theorem O0:∀{k j:Nat}{s:List Int},j<k->(A4 f k s)[j]?=some (AQ f j s)
 |0,_,_,h=>O'
 |k+1,0,s,_=>rfl
 |k+1,j+1,s,h=>by
  simp only[A4,Ba];exact O0 O'
theorem EY{k:Nat}{s t:List Int}:t∈A4 f k s ↔ ∃j,j<k/\t=AQ f j s:=by
 constructor
 ·intro h
  obtain⟨j,hj⟩:=yb h;have hl:j<k:=by have:=(zS hj).1;rwa [FL]at this
  rw[O0 hl]at hj;exact⟨j,hl,(za hj).symm⟩
 ·rintro⟨j,hj,rfl⟩
  exact zM (O0 hj)
theorem bP:∀(a b:Nat)(s:List Int),A4 f (a+b) s=A4 f a s++A4 f b (AQ f a s)
 |0,b,s=>by rw[Bc];rfl
 |a+1,b,s=>by
  rw[show a+1+b=(a+b)+1 by omega];simp only[A4,fc,bP a b];rfl
theorem O1(k:Nat)(s:List Int):A4 f (k+1) s=A4 f k s++[AQ f k s]:=bP k 1 s
theorem YV(a b:Nat)(s:List Int):(A4 f (a+b) s).drop a=A4 f b (AQ f a s):=by
 rw[bP,List.drop_left' (FL a s)]
theorem Amf(a b:Nat)(s:List Int):(A4 f (a+b) s).take a=A4 f a s:=by
 rw[bP,List.take_left' (FL a s)]
theorem YW{k i j:Nat}{s:List Int}(h:(A4 f k s).Nodup)(hi:i<k)(hj:j<k)(e:AQ f i s=AQ f j s):i=j:=by
 refine(List.getElem?_inj (by rwa [FL]) h).1 ?_;rw[O0 hi,O0 hj,e]
theorem aY{n:Nat}{s:List Int}(h:AQ f n s=s):∀q,AQ f (n*q) s=s
 |0=>rfl
 |q+1=>by rw[ob,GO,aY h q,h]
theorem Ak5{n:Nat}{s:List Int}(h:AQ f n s=s)(m:Nat):AQ f m s=AQ f (m%n) s:=by
 conv=>lhs;rw[<-Nb m n]
 rw[GO,aY h]
theorem aZ{n:Nat}{s:List Int}(h0:0<n)(h:AQ f n s=s)(m:Nat):AQ f m s∈A4 f n s :=
 EY.2 ⟨m%n,sc _ h0,Ak5 h m⟩
theorem oO{n:Nat}{s:List Int}(h0:0<n)(h:AQ f n s=s)(m:Nat):AQ f (n*m) s=s/\m<=n*m/\AQ f (n*m-m) (AQ f m s)=s:=by
 have h1:m<=n*m:=Eb m h0;refine⟨aY h m,h1,?_⟩;rw[<-GO,show m+(n*m-m)=n*m by omega,aY h]
theorem oP{n:Nat}{s:List Int}(h:AQ f n s=s)(m:Nat):AQ f n (AQ f m s)=AQ f m s:=by
 rw[<-GO,yd,GO,h]
def G7{α:Type}(m:Nat)(l:List α):List α:=l.drop m++l.take m
theorem bZ{n m:Nat}{s:List Int}(h:AQ f n s=s)(hm:m<=n):G7 m (A4 f n s)=A4 f n (AQ f m s):=by
 obtain⟨d,rfl⟩:∃d,n=m+d:=⟨n-m,O'⟩;unfold G7;rw[YV,Amf,yd m d,bP d m,<-GO,h]
theorem rB{α β:Type}(g:α->β)(m:Nat)(l:List α):G7 m (l.map g)=(G7 m l).map g:=by simp[G7,List.map_drop,List.map_take]
theorem Vg{α:Type}{m:Nat}{l:List α}(h:m<=l.length):(G7 m l).length=l.length:=by
 simp only[G7,List.length_append,Ca,da];omega
theorem Vf{α:Type}{m i:Nat}{l:List α}(hm:m<l.length)(hi:i<l.length):(G7 m l)[i]?=l[(m+i)%l.length]? := by
 unfold G7;by_cases h:m+i<l.length
 ·rw[List.getElem?_append_left (by rw[Ca];omega),xc,ec h]
 ·rw[List.getElem?_append_right (by rw[Ca];omega),Ca,List.getElem?_take_of_lt O',Nat.mod_eq_sub_mod O',ec O']
  congr 1;omega
theorem UR{α:Type}(m:Nat)(l:List α):(G7 m l).Perm l:=by
 unfold G7;exact List.perm_append_comm.trans (by rw[Db])
variable (f) in
structure GX(g:List Int->Int)(B:List Int->Prop)(c:List (List Int)×List Int)(s:List Int)(k:Nat):Prop where
 pos:0<k
 Am:AQ f k s=s
 nd:(A4 f k s).Nodup
 st:c.1=A4 f k s
 out:c.2=(A4 f k s).map g
 box:∀t∈A4 f k s,B t
 low:∀t∈A4 f k s,0<=B0 t s
variable {g:List Int->Int} {B B':List Int->Prop} {c d:List (List Int) × List Int} {s u:List Int} {k m:Nat}
theorem GX.uniq(h:GX f g B c s k)(h':GX f g B' d u m){t:List Int}(h1:t∈c.1)(h2:t∈d.1):c=d/\s=u/\k=m:=by
 rw[h.st]at h1;rw[h'.st]at h2;obtain⟨a,ha,rfl⟩:=EY.1 h1;obtain⟨b,hb,e⟩:=EY.1 h2;have r1:s∈A4 f m u:=by
  have:=(oO h.pos h.Am a).2.2
  rw[e,<-GO]at this;rw[<-this];exact aZ h'.pos h'.Am _
 have r2:u∈A4 f k s:=by
  have:=(oO h'.pos h'.Am b).2.2
  rw[<-e,<-GO]at this;rw[<-this];exact aZ h.pos h.Am _
 have q1:=h'.low s r1;have q2:=h.low u r2;rw[VO]at q2;obtain rfl:s=u:=VP O';have hkm:k=m:=by
  rcases kc k m with hlt|he|hlt
  ·have:=YW h'.nd (i:=k) (j:=0) hlt h'.pos h.Am
   have:=h.pos
   omega
  ·exact he
  ·have:=YW h.nd (i:=m) (j:=0) hlt h.pos h'.Am
   have:=h'.pos
   omega
 subst hkm;refine⟨?_,rfl,rfl⟩;have e1:=h.st.trans h'.st.symm;have e2:=h.out.trans h'.out.symm;exact kd e1 e2
theorem GX.Po{p j:Nat}(hp:0<p)(hu:AQ f p u=u)(hn:(A4 f p u).Nodup)(hj:j<p)(jv:∀t∈A4 f p u,0<=B0 t (AQ f j u))(hB:∀t∈A4 f p u,B t) :
  GX f g B (G7 j (A4 f p u),G7 j ((A4 f p u).map g)) (AQ f j u) p:=by
 have e:=bZ hu (m:=j) O';have hm:∀t,t∈A4 f p (AQ f j u)↔t∈A4 f p u:=λt=>by rw[<-e];exact(UR j _).mem_iff
 exact⟨hp,oP hu j,by rw[<-e];exact(UR j _).nodup_iff.2 hn,e,by rw[rB,e],λt ht=>hB t ((hm t).1 ht),λt ht=>jv t ((hm t).1 ht)⟩
end
def B9:List Int->List Int->Prop
 |[],[]=>True
 |b::box,v::s=>(-b<=v/\v<=b)/\B9 box s
 |_,_=>False
def BU:List Int->Nat
 |[]=>1
 |b::box=>(2*b+1).toNat*BU box
def B2:List Int->List Int->Nat
 |b::box,v::s=>(v+b).toNat*BU box+B2 box s
 |_,_=>0
theorem Q1:∀{box s},B9 box s->s.length=box.length
 |[],[],_=>rfl
 |_::_,_::_,h=>by simp only[sa,Q1 h.2]
 |[],_::_,h=>h.elim
 |_::_,[],h=>h.elim
theorem aX:∀{box s:List Int}{i:Nat}{v b:Int},B9 box s->s[i]?=some v->box[i]?=some b->-b<=v/\v<=b
 |[],[],_,_,_,_,h,_=>by simp at h
 |_::_,_::_,0,_,_,h,h1,h2=>by
  obtain rfl:=za h1;obtain rfl:=za h2;exact h.1
 |_::_,_::_,i+1,_,_,h,h1,h2=>aX h.2 h1 h2
 |[],_::_,_,_,_,h,_,_=>h.elim
 |_::_,[],_,_,_,h,_,_=>h.elim
theorem JI:∀{box s:List Int},B9 box s->B2 box s<BU box
 |[],[],_=>by simp[B2,BU]
 |b::box,v::s,h=>by
  obtain⟨⟨h1,h2⟩,h3⟩:=h;have ih:=JI h3;simp only[B2,BU];have:(v+b).toNat+1<=(2*b+1).toNat:=O'
  have:=zR (BU box) this
  rw[qb]at this;omega
 |[],_::_,h=>h.elim
 |_::_,[],h=>h.elim
theorem aW:∀{box s t:List Int},B9 box s->B9 box t->B2 box s=B2 box t->s=t
 |[],[],[],_,_,_=>rfl
 |b::box,v::s,w::t,h,h',e=>by
  obtain⟨⟨h1,h2⟩,h3⟩:=h;obtain⟨⟨g1,g2⟩,g3⟩:=h';have l1:=JI h3;have l2:=JI g3;simp only[B2]at e;have e1:(v+b).toNat=(w+b).toNat:=by
   have d1:((v+b).toNat*BU box+B2 box s)/BU box=(v+b).toNat:=by
    rw[La,Lc O',Nc l1,Ac]
   have d2:((w+b).toNat*BU box+B2 box t)/BU box=(w+b).toNat:=by
    rw[La,Lc O',Nc l2,Ac]
   rw[<-d1,<-d2,e]
  rw[e1]at e;rw[aW h3 g3 O',show v=w by omega]
 |[],_::_,_,h,_,_=>h.elim
 |_::_,[],_,h,_,_=>h.elim
 |[],[],_::_,_,h,_=>h.elim
 |_::_,_::_,[],_,h,_=>h.elim
theorem pV{box:List Int}{l:List (List Int)}(hn:l.Nodup)(hb:∀s∈l,B9 box s):l.length<=BU box:=by
 have h1:(l.map (B2 box)).Nodup:=by
  rw[List.Nodup,List.pairwise_map];refine List.Pairwise.imp_of_mem ?_ hn;intro a b ha j8 o7 e;exact o7 (aW (hb a ha) (hb b j8) e)
 have h2:=h1.length_le_of_subset (l₂:=pd (BU box)) (λx hx=>by
  obtain⟨s,hs,rfl⟩:=Dc.1 hx;exact List.mem_range.2 (JI (hb s hs)))
 simpa using h2
def JK:List Int->List Int->Option (List Int)
 |b::box,v::s=>match JK box s with
  |some s'=>some (v::s')
  |none=>if v<b then some ((v+1)::box.map λx=>-x)else none
 |_,_=>none
theorem oI:∀{box:List Int},(∀b∈box,0<=b)->B9 box (box.map λx=>-x)/\B2 box (box.map λx=>-x)=0
 |[],_=>⟨trivial,rfl⟩
 |b::box,h=>by
  have h0:=h b Ja;obtain⟨i1,i2⟩:=oI λx hx=>h x (ga _ hx)
  refine⟨⟨by show -b <= -b/\-b<=b;omega,i1⟩,?_⟩;simp only[Fc,B2,i2];rw[show(-b+b).toNat=0 by omega];simp
theorem Yf:∀{box:List Int},(∀b∈box,0<=b)->0<BU box
 |[],_=>by simp[BU]
 |b::box,h=>by
  have h0:=h b Ja;have:=Yf λx hx=>h x (ga _ hx)
  exact Nat.mul_pos O' this
theorem iG:∀{box s:List Int},(∀b∈box,0<=b)->B9 box s->JK box s=none->B2 box s+1=BU box
 |[],[],_,_,_=>rfl
 |[],_::_,_,h,_=>h.elim
 |_::_,[],_,h,_=>h.elim
 |b::box,v::s,hb,h,hn=>by
  have j8:∀x∈box,0<=x:=λx hx=>hb x (ga _ hx)
  simp only[JK]at hn;split at hn
  ·cases hn
  ·rename_i ht
   split at hn
   ·cases hn
   ·have:=iG j8 h.2 ht
    simp only[B2,BU];have e:(2*b+1).toNat=(v+b).toNat+1:=by have:=h.1;omega
    rw[e,qb];omega
theorem pU:∀{box s s':List Int},(∀b∈box,0<=b)->B9 box s->JK box s=some s'->B9 box s'/\B2 box s'=B2 box s+1
 |[],_,_,_,_,h=>by simp[JK]at h
 |_::_,[],_,_,h,_=>h.elim
 |b::box,v::s,s',hb,h,hn=>by
  have j8:∀x∈box,0<=x:=λx hx=>hb x (ga _ hx)
  simp only[JK]at hn;split at hn
  ·rename_i t ht
   obtain rfl:=za hn;obtain⟨i1,i2⟩:=pU j8 h.2 ht;refine⟨⟨h.1,i1⟩,?_⟩;simp only[B2,i2];omega
  ·rename_i ht
   split at hn
   ·rename_i hlt
    obtain rfl:=za hn;obtain⟨i1,i2⟩:=oI j8;have h1:=h.1;refine⟨⟨O',i1⟩,?_⟩;have Apj:=iG j8 h.2 ht;simp only[B2,i2];have e:(v+1+b).toNat=(v+b).toNat+1:=O'
    rw[e,qb];omega
   ·cases hn
theorem iF:∀{box s:List Int},s.length=box.length->(∀(j:Nat)(x y:Int),s[j]?=some x->box[j]?=some y->y<=x)->JK box s=none
 |[],_,_,_=>by simp[JK]
 |_::_,[],_,_=>by simp[JK]
 |b::box,v::s,hl,h=>by
  have:=iF (box:=box) (s:=s) (by simpa using hl) λj x y hx hy=>h (j+1) x y hx hy
  have h0:=h 0 v b rfl rfl;simp only[JK,this];rw[if_neg O']
theorem pT:∀{box s:List Int}{i:Nat}{v b:Int},s.length=box.length->s[i]?=some v->box[i]?=some b->v<b->(∀(j:Nat)(x y:Int),i<j->s[j]?=some x->box[j]?=some y->y<=x)->JK box s=some (s.take i++(v+1)::(box.drop (i+1)).map λx=>-x)
 |[],_,_,_,_,_,_,h,_,_=>by simp at h
 |_::_,[],_,_,_,_,h,_,_,_=>by simp at h
 |b'::box,v'::s,0,v,b,hl,h1,h2,hlt,hr=>by
  obtain rfl:=za h1;obtain rfl:=za h2;have:JK box s=none:=iF (by simpa using hl) λj x y hx hy=>hr (j+1) x y O' hx hy
  simp[JK,this,hlt]
 |b'::box,v'::s,i+1,v,b,hl,h1,h2,hlt,hr=>by
  have:=pT (box:=box) (s:=s) (i:=i) (by simpa using hl) h1 h2 hlt λj x y hj hx hy=>hr (j+1) x y O' hx hy
  simp[JK,this]
def HW:List (List Int×Int)->List Int->Option Int
 |[],_=>none
 |p::r,s=>if p.1=s then some p.2 else HW r s
abbrev DJ(seen:List (List Int×Int)):List (List Int):=seen.map Mc
theorem gU:∀{seen:List (List Int×Int)}{s:List Int},HW seen s=none↔s ∉ DJ seen
 |[],s=>by simp[HW]
 |p::r,s=>by
  simp only[HW,DJ,Fc,Gc,not_or];split
  ·rename_i h;simp[h]
  ·rename_i h
   rw[gU];exact⟨λh'=>⟨λe=>h e.symm,h'⟩,λh'=>h'.2⟩
theorem bB:∀{seen:List (List Int×Int)}{s:List Int}{w:Int},HW seen s=some w->(s,w)∈seen
 |[],_,_,h=>by simp[HW]at h
 |p::r,s,w,h=>by
  simp only[HW]at h;split at h
  ·rename_i e
   obtain rfl:=za h;subst e;exact Ja
  ·exact ga _ (bB h)
section
variable (f:List Int->List Int) (g:List Int->Int) (box:List Int)
def E3(seen:List (List Int×Int))(s:List Int)(w:Int)(k:Nat):List (List Int×Int):=((A4 f k s).map λt=>(t,w)).reverse++seen
theorem Vv(seen:List (List Int×Int))(s:List Int)(w:Int)(k:Nat):E3 f seen s w (k+1)=(AQ f k s,w)::E3 f seen s w k:=by
 unfold E3;rw[O1,ib,List.reverse_append];rfl
theorem JV{seen:List (List Int×Int)}{s:List Int}{w:Int}{k:Nat}{t:List Int}:t∈DJ (E3 f seen s w k)↔t∈A4 f k s\/t∈DJ seen:=by
 unfold E3;simp only[DJ,ib,ic,Cc,Aa,mb];rw[show(Mc ∘ λt:List Int=>(t,w))=id from rfl,vd]
structure MC(seen:List (List Int×Int))(s:List Int)(k:Nat):Prop where
 nd:(A4 f k s).Nodup
 bx:∀t∈A4 f k s,B9 box t
 nw:∀t∈A4 f k s,t ∉ DJ seen
inductive LP(seen:List (List Int×Int))(s:List Int)(k:Nat):Option (List (List Int)×List Int)->Prop where
 |out (h:¬B9 box (AQ f k s)):LP seen s k none
 |old (h:AQ f k s∈DJ seen):LP seen s k none
 |new (i:Nat) (c:List (List Int)×List Int) (u:List Int) (hi:i<k) (h:AQ f k s=AQ f i s) (hc:GX f g (B9 box) c u (k-i)) (hu:∀t,t∈c.1 ↔ ∃j,i<=j/\j<k/\t=AQ f j s):LP seen s k (some c)
structure IE(seen:List (List Int×Int))(l:List (List (List Int)×List Int))(w:Int):Prop where
 nd:(DJ seen).Nodup
 bx:∀t∈DJ seen,B9 box t
 num:∀p∈seen,p.2<=w
 cl:∀t∈DJ seen,B9 box (f t)->f t∈DJ seen
 oo:∀c∈l,(∃s k,GX f g (B9 box) c s k)/\∀t∈c.1,t∈DJ seen
 all:∀t∈DJ seen,∀n,0<n->AQ f n t=t->(∀u∈A4 f n t,B9 box u)->∃c∈l,t∈c.1
 dis:l.Pairwise λc d=>∀t∈c.1,t ∉ d.1
variable {f g box}
theorem IE.start:IE f g box [] [] 0:=⟨List.nodup_nil,Z',Z',Z',Z',Z',List.Pairwise.nil⟩
theorem IE.it{seen:List (List Int×Int)}{l:List (List (List Int)×List Int)}{w:Int}(h:IE f g box seen l w):∀(m:Nat){t:List Int},t∈DJ seen->(∀j,B9 box (AQ f j t))->AQ f m t∈DJ seen
 |0,_,ht,_=>ht
 |m+1,t,ht,hb=>h.it m (h.cl t ht (hb 1)) λj=>hb (j+1)
theorem IE.walk{seen:List (List Int×Int)}{l:List (List (List Int)×List Int)}{w:Int}(h:IE f g box seen l w){s:List Int}{k:Nat}{r:Option (List (List Int)×List Int)}(hk:MC f box seen s k)(hr:LP f g box seen s k r) :
  IE f g box (E3 f seen s (w+1) k) (l++r.toList) (w+1):=by
 have s8:∀t∈A4 f k s,B9 box (f t)->f t∈A4 f k s\/f t∈DJ seen:=λt ht hb=>by
  obtain⟨j,hj,rfl⟩:=EY.1 ht;rw[<-Q2 (f:=f)]at hb⊢;by_cases e:j+1<k
  ·exact .inl (EY.2 ⟨j+1,e,rfl⟩)
  ·have e:j+1=k:=O'
   rw[e]at hb⊢;cases hr with
   |out h'=>exact absurd hb h'
   |old h'=>exact .inr h'
   |new i c u hi h' _ _=>rw[h'];exact .inl (EY.2 ⟨i,hi,rfl⟩)
 refine⟨?_,λt ht=>?_,λp hp=>?_,λt ht hb=>?_,λc hc=>?_,λt ht n hn hp hb=>?_,?_⟩
 ·unfold E3
  simp only[DJ,ib,ic,Cc];rw[show(Mc ∘ λt:List Int=>(t,w+1))=id from rfl,vd,List.nodup_append];exact⟨(List.reverse_perm _).nodup_iff.2 hk.nd,h.nd,λa ha b hb e=>hk.nw a (mb.1 ha) (e▸hb)⟩
 ·rcases(JV f).1 ht with ht|ht
  ·exact hk.bx t ht
  ·exact h.bx t ht
 ·unfold E3 at hp
  rcases Aa.1 hp with hp|hp
  ·obtain⟨t,_,rfl⟩:=Dc.1 (mb.1 hp)
   exact Int.le_refl _
  ·have:=h.num p hp;omega
 ·rcases(JV f).1 ht with ht|ht
  ·exact(JV f).2 (s8 t ht hb)
  ·exact(JV f).2 (.inr (h.cl t ht hb))
 ·rcases Aa.1 hc with hc|hc
  ·obtain⟨h1,h2⟩:=h.oo c hc
   exact⟨h1,λt ht=>(JV f).2 (.inr (h2 t ht))⟩
  ·cases hr with
   |out=>simp at hc
   |old=>simp at hc
   |new i c' u hi h' h1 h2=>
    obtain rfl:c=c':=by simpa using hc
    refine⟨⟨_,_,h1⟩,λt ht=>(JV f).2 (.inl ?_)⟩;obtain⟨j,_,hj,rfl⟩:=(h2 t).1 ht;exact EY.2 ⟨j,hj,rfl⟩
 ·have jc:∀j,B9 box (AQ f j t):=λj=>hb _ (aZ hn hp j)
  rcases(JV f).1 ht with ht|ht
  ·obtain⟨j,hj,rfl⟩:=EY.1 ht
   have he:AQ f k s=AQ f (k-j) (AQ f j s):=by rw[<-GO,show j+(k-j)=k by omega]
   cases hr with
   |out h'=>rw[he]at h';exact absurd (jc _) h'
   |old h'=>
    exfalso;obtain⟨_,_,fg⟩:=oO hn hp (k-j);rw[<-he]at fg;have:=h.it (n*(k-j)-(k-j)) h' (λm=>by rw[he,<-GO];exact jc _)
    rw[fg]at this;exact hk.nw _ ht this
   |new i c u hi h' h1 h2=>
    refine⟨c,Z',(h2 _).2 ?_⟩;have dt:AQ f (k-i) (AQ f i s)=AQ f i s:=by rw[<-GO,show i+(k-i)=k by omega];exact h'
    have e:AQ f j s=AQ f (n*i+j-i) (AQ f i s):=by
     have h3:=aY hp i;have h4:i<=n*i:=Eb i hn;rw[<-GO,show i+(n*i+j-i)=j+n*i by omega,GO,h3]
    rw[e];obtain⟨q,hq,e2⟩:=EY.1 (aZ (show 0<k-i by omega) dt (n*i+j-i));exact⟨i+q,O',O',by rw[e2,<-GO]⟩
  ·obtain⟨c,hc,hm⟩:=h.all t ht n hn hp hb
   exact⟨c,List.mem_append_left _ hc,hm⟩
 ·rw[List.pairwise_append]
  refine⟨h.dis,by cases r<;>simp,λc hc d hd t Om htd=>?_⟩;cases hr with
  |out=>simp at hd
  |old=>simp at hd
  |new i c' u hi h' h1 h2=>
   obtain rfl:d=c':=by simpa using hd
   obtain⟨j,_,hj,rfl⟩:=(h2 t).1 htd;exact hk.nw _ (EY.2 ⟨j,hj,rfl⟩) ((h.oo c hc).2 _ Om)
structure LK(f:List Int->List Int)(g:List Int->Int)(box:List Int)(l:List (List (List Int)×List Int)):Prop where
 oo:∀c∈l,∃s k,GX f g (B9 box) c s k
 all:∀c s k,GX f g (B9 box) c s k->c∈l
 Ic:l.Pairwise λc d=>∀s t,c.1[0]?=some s->d.1[0]?=some t->B0 s t<0
theorem GX.head{B:List Int->Prop}{c:List (List Int)×List Int}{s:List Int}{k:Nat}(h:GX f g B c s k):c.1[0]?=some s:=by
 rw[h.st,O0 h.pos];rfl
theorem IE.full{seen:List (List Int×Int)}{l l':List (List (List Int)×List Int)}{w:Int}(h:IE f g box seen l w)(hf:∀t,B9 box t->t∈DJ seen)(hp:l'.Perm l)(ho:∀(i j:Nat)(x y:List (List Int)×List Int),l'[i]?=some x->l'[j]?=some y->i<j->∀s t,x.1[0]?=some s->y.1[0]?=some t->B0 s t<0):LK f g box l':=by
 refine⟨λc hc=>(h.oo c (hp.mem_iff.1 hc)).1,λc s k hc=>hp.mem_iff.2 ?_,?_⟩
 ·have hs:s∈A4 f k s:=EY.2 ⟨0,hc.pos,rfl⟩
  obtain⟨d,hd,hm⟩:=h.all s (hf s (hc.box s hs)) k hc.pos hc.Am hc.box;obtain⟨u,m,hu⟩:=(h.oo d hd).1;rw[(hc.uniq hu (by rw[hc.st];exact hs) hm).1];exact hd
 ·rw[Ha]
  intro i j hi hj jf;exact ho i j _ _ (zE hi) (zE hj) jf
theorem IE.zy{seen:List (List Int×Int)}{l:List (List (List Int)×List Int)}{w:Int}(h:IE f g box seen l w){i j:Nat}{c d:List (List Int)×List Int}{s t:List Int}(hi:l[i]?=some c)(hj:l[j]?=some d)(hc:c.1[0]?=some s)(hd:d.1[0]?=some t)(e:s=t):i=j:=by
 obtain⟨i1,rfl⟩:=zS hi;obtain⟨j1,rfl⟩:=zS hj;have hp:=Ha.1 h.dis;subst e;rcases kc i j with h1|h1|h1
 ·exact absurd (zM hd) (hp i j i1 j1 h1 s (zM hc))
 ·exact h1
 ·exact absurd (zM hc) (hp j i j1 i1 h1 s (zM hd))
theorem LK.uniq{l l':List (List (List Int)×List Int)}(h:LK f g box l)(h':LK f g box l'):l=l':=by
 have lt:∀{l:List (List (List Int)×List Int)},LK f g box l->l.Pairwise λc d=>∀s t,c.1[0]?=some s->d.1[0]?=some t->B0 s t<0:=λh=>h.Ic
 have nd:∀{l:List (List (List Int)×List Int)},LK f g box l->l.Nodup:=λ{l} h=>by
  refine List.Pairwise.imp_of_mem ?_ h.Ic;intro a b ha hb xq e;subst e;obtain⟨s,k,hc⟩:=h.oo a ha;have:=xq s s hc.head hc.head
  rw[XY]at this;omega
 have hm:∀c,c∈l↔c∈l':=λc=>⟨λhc=>by obtain⟨s,k,h1⟩:=h.oo c hc;exact h'.all c s k h1,λhc=>by obtain⟨s,k,h1⟩:=h'.oo c hc;exact h.all c s k h1⟩
 have hp:l.Perm l':=(List.perm_ext_iff_of_nodup (nd h) (nd h')).2 hm;refine List.Perm.eq_of_pairwise (λa b ha hb xq hba=>?_) h.Ic h'.Ic hp;obtain⟨s,k,h1⟩:=h.oo a ha;obtain⟨t,m,h2⟩:=h'.oo b hb;have q1:=xq s t h1.head h2.head;have q2:=hba t s h2.head h1.head;rw[VO]at q2;omega
end
end Go.Eng

namespace Go.Eng
section
variable {U V UL VL p u0 u1 u2 v1 v2 top q r:Nat}
theorem Ako(hU:U=UL+p*(u2+4294967296*top))(hV:V=VL+p*(v2+4294967296*v1))(hl:UL<p)(h2:u2<4294967296)(bn:0<V):U/V*v1<=top:=by
 have h1:U/V*V<=U:=yc U V;generalize U/V=Q at*;have h3:U<p*(4294967296*(top+1)):=by
  have:p*(u2+4294967296*top)+p<=p*(4294967296*(top+1)):=by
   rw[<-ob];exact va p O'
  omega
 have h4:p*(4294967296*(Q*v1))<=Q*V:=by
  have e:Q*V=Q*VL+Q*(p*v2)+p*(4294967296*(Q*v1)):=by rw[hV];grind
  omega
 have h5:p*(4294967296*(Q*v1))<p*(4294967296*(top+1)):=O'
 have:=Nat.lt_of_mul_lt_mul_left h5
 omega
theorem Akn(hU:U=UL+p*(u2+4294967296*top))(hV:V=VL+p*(v2+4294967296*v1))(hl:UL<p)(hq:q*v1+r=top)(h:r*4294967296+u2<q*v2)(bn:0<V):U/V<q:=by
 rw[na bn];have e:q*V=q*VL+p*(q*v2+4294967296*(q*v1)):=by rw[hV];grind
 have h1:p*(u2+4294967296*top)+p<=p*(q*v2+4294967296*(q*v1)):=by
  rw[<-ob];exact va p O'
 omega
theorem Akm(h:U<4294967296*V)(hq:4294967296<=q)(bn:0<V):U/V<q:=by
 have:U/V<4294967296:=(na bn).2 h
 omega
theorem Qj(hU:U=UL+p*(u2+4294967296*top))(hV:V=VL+p*(v2+4294967296*v1))(Bf:VL<p)(h1:2147483648<=v1)(hq:q*v1+r=top)(h:q*v2<=r*4294967296+u2)(hqB:q<4294967296):q<=U/V+1:=by
 have bn:0<V:=by
  have:p*4294967296<=p*(v2+4294967296*v1):=va p O'
  omega
 by_cases h0:q=0
 ·subst h0;exact Nat.zero_le _
 have e:q*V=q*VL+p*(q*v2+4294967296*(q*v1)):=by rw[hV];grind
 have h2:p*(q*v2+4294967296*(q*v1))<=p*(u2+4294967296*top):=va p O';have h3:q*VL<V:=by
  have a1:q*VL<=4294967296*VL:=zR _ O';have a2:p*4294967296<=p*(v2+4294967296*v1):=va p O';omega
 have h4:(q-1)*V<U+1:=by
  have:(q-1)*V+V=q*V:=by
   have:q=q-1+1:=O'
   rw[<-qb,Nat.succ_eq_add_one,<-this]
  omega
 have h5:q-1<=U/V:=(zb bn).2 O';omega
end
theorem wR{U V U' q:Nat}(bn:0<V)(h1:U/V<=q)(h:U'+q*V=U):q=U/V/\U'=U%V:=by
 have h2:q*V<=U:=O'
 have h3:q<=U/V:=(zb bn).2 h2;have h4:q=U/V:=O'
 have:=Nb U V
 rw[La,<-h4]at this;exact⟨h4,O'⟩
theorem wP{U V U' q P:Nat}(bn:0<V)(h2:q<=U/V+1)(Da:U'<P)(h:U'+q*V=U+P):q-1=U/V/\1<=q/\U'+V=U%V+P:=by
 have h3:U/V*V<=U:=yc U V;have h4:U/V<q:=by
  rcases Nat.lt_or_ge (U/V) q with h|h
  ·exact h
  ·have:q*V<=U/V*V:=zR _ h
   omega
 have h6:=Nb U V;rw[La]at h6;generalize U/V=Q at*;generalize U%V=R at*;obtain rfl:q=Q+1:=O'
 rw[Ab,ud]at h;exact⟨O',O',O'⟩
theorem jY{u pl bw:Nat}(hu:u<4294967296)(hp:pl<4294967296)(hb:bw<=1):E1 (E1 u pl) bw%4294967296+pl+bw=u+4294967296*(E1 (E1 u pl) bw/9223372036854775808)/\E1 (E1 u pl) bw/9223372036854775808<=1:=by
 rw[W8,W8];omega
theorem AnL{d e bw:Nat}(hu:d<4294967296)(hp:e<4294967296)(hb:bw<=1):E1 (E1 d bw) e%4294967296+e+bw=d+4294967296*(E1 (E1 d bw) e/9223372036854775808)/\E1 (E1 d bw) e/9223372036854775808<=1:=by
 rw[W8,W8];omega
theorem AnK{d bw:Nat}(hu:d<4294967296)(hb:bw<=1):E1 d bw%4294967296+bw=d+4294967296*(E1 d bw/9223372036854775808)/\E1 d bw/9223372036854775808<=1:=by
 rw[W8];omega
theorem Zm{V Y X p D e bw dc d:Nat}(h:V+Y=X+p*bw)(hd:D+e+bw=d+4294967296*dc):V+p*D+(Y+p*e)=X+p*d+p*4294967296*dc:=by
 have h2:p*D+p*e+p*bw=p*d+p*4294967296*dc:=by
  rw[<-Na,<-Na,hd,Na,Fa]
 omega
theorem YR{a b:Nat}(ha:a<4294967296)(hb:b<4294967296):a*b<=18446744065119617025 :=
 Hc (show a<=4294967295 by omega) (show b<=4294967295 by omega)
theorem wU{X Y s:Nat}(hs:0<s):X*s/(Y*s)=X/Y/\X*s%(Y*s)/s=X%Y:=by
 refine⟨Nat.mul_div_mul_right X Y hs,?_⟩;rw[Cb,Nat.mul_div_cancel _ hs]
end Go.Eng

namespace Go.Eng
@[irreducible] def RE(d s:Nat):Nat := d * 2 ^ s % 4294967296
@[irreducible] def WS(d s:Nat):Nat := d * 2 ^ s / 4294967296
theorem rR(d s:Nat):RE d s=d*2^s%4294967296:=by unfold RE;rfl
theorem WT(d s:Nat):WS d s=d*2^s/4294967296:=by unfold WS;rfl
theorem UT{s:Nat}(hs:s<=32):4294967296=2^s*2^(32-s):=by
 rw[<-Oa,show s+(32-s)=32 by omega]
theorem Anb(d s:Nat):RE d s+4294967296*WS d s=d*2^s:=by
 rw[rR,WT];exact Pb _ _
theorem Wc{d s:Nat}(hs:s<=32):RE d s=2^s*(d%2^(32-s)):=by
 rw[rR,UT hs,La d,Nat.mul_mod_mul_left]
theorem Wb{d s:Nat}(hs:s<=32):WS d s=d/2^(32-s):=by
 rw[WT,UT hs,La d,Nat.mul_div_mul_left _ _ (ja s)]
theorem WU{d s:Nat}(hd:d<4294967296)(hs:s<=32):RE d s%2^s=0/\WS d s<2^s/\RE d s+2^s<=4294967296/\d*2^s<=18446744073709551615:=by
 refine⟨by rw[Wc hs,Nat.mul_mod_right],?_,?_,?_⟩
 ·rw[Wb hs,na (ja _),<-Oa,show s+(32-s)=32 by omega];exact hd
 ·rw[Wc hs]
  have h1:d%2^(32-s)+1<=2^(32-s):=sc _ (ja _);have h2:=va (2^s) h1;rw[Na,Nat.mul_one,<-UT hs]at h2;exact h2
 ·have h1:2^s<=2^32:=vb O' hs
  have h2:d*2^s<=4294967295*4294967296:=Hc O' h1;omega
theorem bQ{s:Nat}(hs:s<=32):2^s<=4294967296:=(vb O' hs:2^s<=2^32)
theorem Up{V X p lo s d:Nat}(h:V+p*lo=X*2^s):V+p*(RE d s+lo)+p*4294967296*WS d s=(X+p*d)*2^s:=by
 have h1:=Anb d s;have h2:p*(RE d s+lo)+p*4294967296*WS d s=p*lo+p*(d*2^s):=by
  rw[<-h1];grind
 rw[Ab,<-h,Fa p d];omega
theorem pC{d V s:Nat}(hs:s<=32):(d+4294967296*V)/2^s=d/2^s+V%2^s*2^(32-s)+4294967296*(V/2^s):=by
 have e:4294967296*V=2^s*(2^(32-s)*V):=by rw[<-Fa,<-UT hs]
 rw[e,Nat.add_mul_div_left _ _ (ja s)];have h:=Pb V (2^s);have h2:2^(32-s)*V=V%2^s*2^(32-s)+4294967296*(V/2^s):=by
  have h3:2^(32-s)*V=2^(32-s)*(V%2^s+2^s*(V/2^s)):=by rw[h]
  rw[h3,UT hs];grind
 omega
theorem Sr{d V s:Nat}(hs:s<=32):(d+4294967296*V)%2^s=d%2^s:=by
 have e:4294967296*V=2^s*(2^(32-s)*V):=by rw[<-Fa,<-UT hs]
 rw[e,Nat.add_mul_mod_self_left]
theorem Alx{d s:Nat}(hs:s<=32):d*2^(32-s)%4294967296=d%2^s*2^(32-s):=by
 have e:4294967296=2^s*2^(32-s):=UT hs;rw[e,Cb]
theorem Ut{d V s:Nat}(hd:d<4294967296)(hs:s<=32):d/2^s<2^(32-s)/\V%2^s*2^(32-s)%2^(32-s)=0/\V%2^s*2^(32-s)+2^(32-s)<=4294967296:=by
 refine⟨?_,Nat.mul_mod_left _ _,?_⟩
 ·rw[na (ja _),<-Oa,show 32-s+s=32 by omega];exact hd
 ·have h1:V%2^s+1<=2^s:=sc _ (ja _)
  have h2:=zR (2^(32-s)) h1;rw[Ab,ud,<-UT hs]at h2;exact h2
def u7(x:Nat):Nat:=if x=0 then 0 else x.log2+1
theorem uW{x:Nat}(h:x≠0):2^(u7 x-1)<=x/\x<2^u7 x/\1<=u7 x:=by
 unfold u7;rw[if_neg h];exact⟨Oc h,Pc,O'⟩
theorem dT{x k:Nat}(h:x<2^k):u7 x<=k:=by
 by_cases h0:x=0
 ·subst h0;unfold u7;simp
 ·obtain⟨h1,_,h3⟩:=uW h0
  have h2:2^(u7 x-1)<2^k:=O'
  have:=(Nat.pow_lt_pow_iff_right O').1 h2
  omega
theorem Z1{x:Nat}(n:Nat)(h:2^n<=x):u7 (x/2^n)+n=u7 x:=by
 have hp:=ja n;have hx:x≠0:=O'
 have hq:x/2^n≠0:=by have:=Nat.div_pos h hp;omega
 unfold u7;rw[if_neg hx,if_neg hq];have:(x/2^n).log2+n=x.log2:=by
  symm
  rw[Nat.log2_eq_iff hx];have h1:=Oc hq;have h2:x/2^n<2^((x/2^n).log2+1):=Pc;rw[zb hp,<-Oa]at h1;rw[na hp,<-Oa]at h2;exact⟨h1,by rw[show(x/2^n).log2+n+1=(x/2^n).log2+1+n by omega];exact h2⟩
 omega
theorem pD{x:Nat}(h0:x≠0)(hx:x<4294967296):u7 x<=32/\1<=u7 x/\2147483648<=x*2^(32-u7 x)/\x*2^(32-u7 x)<4294967296:=by
 obtain⟨h1,h2,h3⟩:=uW h0;have hk:u7 x<=32:=dT (k:=32) hx;refine⟨hk,h3,?_,?_⟩
 ·have:=zR (2^(32-u7 x)) h1
  rw[<-Oa,show u7 x-1+(32-u7 x)=31 by omega]at this;exact this
 ·have:=Nat.mul_lt_mul_of_pos_right h2 (ja (32-u7 x))
  rw[<-Oa,show u7 x+(32-u7 x)=32 by omega]at this;exact this
def kI(a b c d:Int):Prop:=(0<=a/\b<=0/\c<=0/\0<=d)\/(a<=0/\0<=b/\0<=c/\d<=0)
structure U5(P Q a b c d p q:Int):Prop where
 hp:p=a*P+b*Q
 hq:q=c*P+d*Q
 sg:kI a b c d
 pa:0<=p+a
 pb:0<=p+b
 qc:0<=q+c
 qd:0<=q+d
theorem U5.start{P Q:Int}(hP:0<=P)(hQ:0<=Q):U5 P Q 1 0 0 1 P Q :=
 ⟨O',O',Or.inl O',O',O',O',O'⟩
def ZP(P Q a b c d:Int):Prop := ∀x y K e1 e2:Int,0<K->x=K*P+e1->y=K*Q+e2->0<=e1->e1<=K->0<=e2->e2<=K ->
 0<=c*x+d*y/\c*x+d*y<a*x+b*y/\a*x+b*y<=y/\Lb (a*x+b*y) (c*x+d*y)=Lb x y
def XH(P Q a b c d:Int):Prop := ∀x y K e1 e2:Int,0<K->x=K*P+e1->y=K*Q+e2->0<=e1->e1<=K->0<=e2->e2<=K ->
 c*x+d*y<=y/\Lb (a*x+b*y) (c*x+d*y)=Lb x y
theorem XH.start(P Q:Int):XH P Q 1 0 0 1:=by
 intro x y K e1 e2 _ _ _ _ _ _ _;simp
theorem ZP.half{P Q a b c d:Int}(h:ZP P Q a b c d):XH P Q a b c d:=λx y K e1 e2 h1 h2 h3 h4 h5 h6 h7=>by
 obtain⟨g1,g2,g3,g4⟩:=h x y K e1 e2 h1 h2 h3 h4 h5 h6 h7;exact⟨O',g4⟩
theorem Aj7(X Y f:Int):Lb Y (X-f*Y)=Lb X Y:=by
 rw[Int.gcd_comm X Y];exact Int.gcd_sub_mul_right_right Y X f
theorem U5.step{P Q a b c d p q f:Int}(h:U5 P Q a b c d p q)(hc:q+c≠0)(hd:q+d≠0)(h1:f=(p+a)/(q+c))(h2:f=(p+b)/(q+d)) :
  U5 P Q c d (a-f*c) (b-f*d) q (p-f*q)/\0<=f/\p-f*q<q/\(XH P Q a b c d->ZP P Q c d (a-f*c) (b-f*d)):=by
 have c0:0<q+c:=by have:=h.qc;omega
 have d0:0<q+d:=by have:=h.qd;omega
 have f0:0<=f:=by rw[h1];exact Int.ediv_nonneg h.pa h.qc
 have m1:p-f*q+(a-f*c)=(p+a)%(q+c):=by
  have:=Bb (p+a) (q+c)
  rw[<-h1]at this;grind
 have m2:p-f*q+(b-f*d)=(p+b)%(q+d):=by
  have:=Bb (p+b) (q+d)
  rw[<-h2]at this;grind
 have n1:0<=p-f*q+(a-f*c):=by rw[m1];exact Jc _ hc
 have n2:0<=p-f*q+(b-f*d):=by rw[m2];exact Jc _ hd
 have n3:p-f*q+(a-f*c)<q+c:=by rw[m1];exact oc _ c0
 have n4:p-f*q+(b-f*d)<q+d:=by rw[m2];exact oc _ d0
 have Dr:p-f*q=(a-f*c)*P+(b-f*d)*Q:=by rw[h.hp,h.hq];grind
 have ym:kI c d (a-f*c) (b-f*d):=by
  rcases h.sg with⟨s1,s2,s3,s4⟩|⟨s1,s2,s3,s4⟩
  ·have t1:f*c<=0:=rb f0 s3
   have t2:0<=f*d:=Pa f0 s4;exact Or.inr O'
  ·have t1:0<=f*c:=Pa f0 s3
   have t2:f*d<=0:=rb f0 s4;exact Or.inl O'
 have hlt:p-f*q<q:=by
  rcases ym with⟨s1,s2,s3,s4⟩|⟨s1,s2,s3,s4⟩
  ·omega
  ·omega
 refine⟨⟨h.hq,Dr,ym,h.qc,h.qd,n1,n2⟩,f0,hlt,λhh=>?_⟩;intro x y K e1 e2 hK hx hy a1 a2 b1 b2;obtain⟨k1,k2⟩:=hh x y K e1 e2 hK hx hy a1 a2 b1 b2;have eY:c*x+d*y=K*q+c*e1+d*e2:=by rw[hx,hy,h.hq];grind
 have eX:(a-f*c)*x+(b-f*d)*y=K*(p-f*q)+(a-f*c)*e1+(b-f*d)*e2:=by rw[hx,hy,Dr];grind
 have eS:(a-f*c)*x+(b-f*d)*y=(a*x+b*y)-f*(c*x+d*y):=A'
 generalize hE:a-f*c=E at*;generalize hG:b-f*d=G at*;generalize Ds:p-f*q=q2 at*;have key:0<=E*x+G*y/\E*x+G*y<c*x+d*y:=by
  rw[eX,eY];rcases ym with⟨s1,s2,s3,s4⟩|⟨s1,s2,s3,s4⟩
  ·-- c≥0,d<=0,E<=0,G≥0
   have t1:E*K<=E*e1:=fb s3 a2;have t2:0<=G*e2:=Pa s4 b1;have t3:0<=K*(q2+E):=Pa O' n1;have t4:(G-d)*e2<=(G-d)*K:=eb b2 O';have t5:(E-c)*e1<=0:=ub O' a1;have t6:0<K*((q+d)-(q2+G)):=od hK O';constructor
   ·grind
   ·grind
  ·have t1:G*K<=G*e2:=fb s4 b2
   have t2:0<=E*e1:=Pa s3 a1;have t3:0<=K*(q2+G):=Pa O' n2;have t4:(E-c)*e1<=(E-c)*K:=eb a2 O';have t5:(G-d)*e2<=0:=ub O' b1;have t6:0<K*((q+c)-(q2+E)):=od hK O';constructor
   ·grind
   ·grind
 refine⟨key.1,key.2,k1,?_⟩;rw[<-k2,eS];exact Aj7 _ _ _
end Go.Eng

namespace Go.Eng.F
open C
def RY:AFn:=⟨1,(sd [mv 2 kf] [2] (sd [m 3 0,m 4 0,bi 5 .neq 3 4,m 2 5] [0,3,4,5] .ret)),[.tmp 2],false⟩
def RZ:AFn:=⟨1,(sd [mv 2 kf] [2] (sd [m 3 0,m 4 0,bi 5 .neq 3 4,m 2 5] [0,3,4,5] .ret)),[.tmp 2],false⟩
def RV:AFn:=⟨2,(sd [mv 4 k0] [4] (sd [m 7 0,ca 8 58 [7],m 5 8] [7,8] (sd [m 9 1,ca 10 58 [9],m 6 10] [9,10] (s (sd [m 11 5] [5] (i 11 (s (sd [m 12 6] [0,1,6,11] (i 12 (sd [mv 4 k0] [12] .ret) .skip)) (sd [mv 4 (k (-1))] [12] .ret)) .skip)) (s (sd [m 13 6] [6,11] (i 13 (sd [mv 4 k1] [0,1,13] .ret) .skip)) (s (sd [m 14 0,m 15 1,ls 16 14 15] [13,14,15] (i 16 (sd [mv 4 (k (-1))] [0,1,16] .ret) .skip)) (s (sd [m 17 0,m 18 1,bi 19 .gtr 17 18] [0,1,16,17,18] (i 19 (sd [mv 4 k1] [19] .ret) .skip)) (sd [mv 4 k0] [19] .ret)))))))),[.tmp 4],false⟩
def RW:AFn:=⟨2,(sd [mv 4 k0] [4] (sd [m 7 0,ca 8 59 [7],m 5 8] [7,8] (sd [m 9 1,ca 10 59 [9],m 6 10] [9,10] (s (sd [m 11 5] [5] (i 11 (s (sd [m 12 6] [0,1,6,11] (i 12 (sd [mv 4 k0] [12] .ret) .skip)) (sd [mv 4 (k (-1))] [12] .ret)) .skip)) (s (sd [m 13 6] [6,11] (i 13 (sd [mv 4 k1] [0,1,13] .ret) .skip)) (s (sd [m 14 0,m 15 1,ls 16 14 15] [13,14,15] (i 16 (sd [mv 4 (k (-1))] [0,1,16] .ret) .skip)) (s (sd [m 17 0,m 18 1,bi 19 .gtr 17 18] [0,1,16,17,18] (i 19 (sd [mv 4 k1] [19] .ret) .skip)) (sd [mv 4 k0] [19] .ret)))))))),[.tmp 4],false⟩
def LE:AFn:=⟨1,(sd [mv 2 (.c .nil)] [2] (s (sd [m 3 0,o 4 (.ta false 3)] [3] (i 4 (sd [mv 2 (.c .nil)] [0,4] .ret) .skip)) (sd [o 5 (.b8 5 1 []),m 6 0,o 7 (.app 7 1 4 5 6),m 2 7] [0,4,5,6,7] .ret))),[.tmp 2],true⟩
def SW:AFn:=⟨1,(sp [mv 2 k0] (s (sd [m 3 0,bi 4 .geq 3 (.c (.int .u32 (65536)))] [3] (i 4 (sd [m 5 0,bi 6 .shr 5 (.c (.int .u64 (16))),m 0 6] [2,4,5,6] (p [mv 2 (k 16)])) .skip)) (s (sd [m 7 0,bi 8 .geq 7 (.c (.int .u32 (256)))] [4,7] (i 8 (sd [m 9 0,bi 10 .shr 9 (.c (.int .u64 (8))),m 0 10] [8,9,10] (d [m 11 2,ad 12 11 (k 8),m 2 12] [11,12])) .skip)) (sd [m 13 2,m 14 0,o 15 (.conv .u8 14),o 16 (.ix (ya 1 0++ya 1 1++ya 2 2++ya 4 3++ya 8 4++ya 16 5++ya 32 6++ya 64 7++ya 128 8) 15),o 17 (.conv .i64 16),ad 18 13 17,m 2 18] (rl [0,8] 13 6) .ret)))),[.tmp 2],false⟩
def SV:AFn:=⟨1,(sd [mv 2 k0] [2] (sd [m 3 0,ca 4 63 [3],sb 5 (k 32) 4,m 2 5] [0,3,4,5] .ret)),[.tmp 2],false⟩
def G3.l1:=(s (sd [m 6 3,bi 7 .gtr 6 k0,m 8 7,g 9 8 true (.o9 0),g 10 8 true (.o9 3),g 11 8 true (.bin .sub 10 k1),g 12 8 true (.q8 none 1 9 11),g 13 8 true (.ld false 1 12),g 14 8 true (.bin .eql 13 (.c (.int .u32 (0)))),pk 15 8 14 kf] (ra 6 9) (i 15 .skip (x 0))) (b 1 (d [m 16 3,sb 17 16 k1,m 3 17] [15,16,17])))
def G3:AFn:=⟨1,(sd [mv 2 (.c .nil)] [2] (sd [m 4 0,ln 5 4,m 3 5] [4,5] (s (b 0 (w G3.l1)) (sd [m 18 0,m 19 3,o 20 (.ik 1 18 none (some 19)),m 2 20] [0,3,15,18,19,20] .ret)))),[.tmp 2],false⟩
def S1:AFn:=⟨1,(sd [mv 2 (.c .nil)] [2] (sd [m 3 0,o 4 (.j5 65 [3]),ca 5 62 [4],m 2 5] [0,3,4,5] .ret)),[.tmp 2],false⟩
def OS.l1:=(s (sd [m 25 7,bi 26 .geq 25 k0] [25] (i 26 .skip (x 0))) (s (b 1 (se [m 29 5,m 30 7,ia 31 1 29 30,uu 32 1 31,m 33 6,m 34 7,ia 35 1 33 34,uu 36 1 35,bi 37 .neq 32 36] (rl [26] 29 8) (i 37 (se [m 38 5,m 39 7,ia 40 1 38 39,uu 41 1 40,m 42 6,m 43 7,ia 44 1 42 43,uu 45 1 44,ca 46 61 [41,45],m 4 46] (rl [5,6,7] 37 10) .ret) .skip))) (d [m 27 7,sb 28 27 k1,m 7 28] [27,28,37])))
def OS:AFn:=⟨2,(sd [mv 4 k0] [4] (sd [m 8 0,o 9 (.j5 65 [8]),m 10 1,o 11 (.j5 65 [10]),m 5 9,m 6 11] (rl [0,1] 8 4) (s (sd [m 12 5,ln 13 12,m 14 6,ln 15 14,bi 16 .neq 13 15] (ra 12 4) (i 16 (sd [m 17 5,ln 18 17,m 19 6,ln 20 19,ca 21 60 [18,20],m 4 21] (rl [5,6] 16 6) .ret) .skip)) (s (sd [m 22 5,ln 23 22,sb 24 23 k1,m 7 24] [16,22,23,24] (b 0 (w OS.l1))) (sd [mv 4 k0] [5,6,7,26] .ret))))),[.tmp 4],false⟩
def OR.l1:=(sp [ls 30 29 28] (s (i 30 .skip (x 0)) (s (b 1 (sd [m 31 29,ia 32 1 27 29,uu 33 1 32,m 9 31,m 10 33] (ra 30 4) (sd [m 34 10,cu 35 34,m 36 8,ad 37 35 36,m 11 37] (rl [8,10] 34 4) (s (sd [m 38 9,m 39 6,ln 40 39,ls 41 38 40] [38,39,40] (i 41 (d [m 42 11,m 43 6,m 44 9,ia 45 1 43 44,uu 46 1 45,cu 47 46,ad 48 42 47,m 11 48] (ra 41 8)) .skip)) (sd [m 49 7,m 50 9,m 51 11,o 52 (.conv .u32 51),ia 53 1 49 50,so 1 53 52] (rl [9,41] 49 5) (d [m 54 11,bi 55 .shr 54 (.c (.int .u64 (32))),m 8 55] [11,54,55])))))) (d [ad 56 29 k1,m 29 56] [56]))))
def OR:AFn:=⟨2,(sd [mv 4 (.c .nil)] [4] (sd [m 12 0,o 13 (.j5 65 [12]),m 14 1,o 15 (.j5 65 [14]),m 5 13,m 6 15] (rl [0,1] 12 4) (s (sd [m 16 5,ln 17 16,m 18 6,ln 19 18,ls 20 17 19] (ra 16 4) (i 20 (d [m 21 6,m 22 5,m 5 21,m 6 22] [20,21,22]) .skip)) (sd [m 23 5,ln 24 23,ad 25 24 k1,o 26 (.mk 26 1 4 [(.int .u32 (0))] 25 25),m 7 26] (rl [20] 23 4) (sp [mv 8 (.c (.int .u64 (0)))] (s (sp [m 27 5,ln 28 27,mv 29 k0] (b 0 (w OR.l1))) (sd [m 57 7,m 58 5,ln 59 58,m 60 8,o 61 (.conv .u32 60),ia 62 1 57 59,so 1 62 61] (rl [5,6,8,27,28,29,30] 57 6) (sd [m 63 7,o 64 (.j5 65 [63]),m 4 64] [7,63,64] .ret)))))))),[.tmp 4],false⟩
def OT.l1:=(sp [ls 26 25 24] (s (i 26 .skip (x 0)) (s (b 1 (sd [m 27 25,ia 28 1 23 25,uu 29 1 28,m 9 27,m 10 29] (ra 26 4) (sd [m 30 10,cu 31 30,m 32 8,sb 33 31 32,m 11 33] (rl [8,10] 30 4) (s (sd [m 34 9,m 35 6,ln 36 35,ls 37 34 36] [34,35,36] (i 37 (d [m 38 11,m 39 6,m 40 9,ia 41 1 39 40,uu 42 1 41,cu 43 42,sb 44 38 43,m 11 44] (ra 37 8)) .skip)) (sd [m 45 7,m 46 9,m 47 11,o 48 (.conv .u32 47),ia 49 1 45 46,so 1 49 48] (rl [9,37] 45 5) (d [m 50 11,bi 51 .shr 50 (.c (.int .u64 (63))),m 8 51] [11,50,51])))))) (d [ad 52 25 k1,m 25 52] [52]))))
def OT:AFn:=⟨2,(sd [mv 4 (.c .nil)] [4] (s (sd [m 12 0,m 13 1,ca 14 67 [12,13],bi 15 .leq 14 k0] [12,13,14] (i 15 (sd [mv 4 (.c .nil)] [0,1,15] .ret) .skip)) (sd [m 16 0,o 17 (.j5 65 [16]),m 18 1,o 19 (.j5 65 [18]),m 5 17,m 6 19] (rl [0,1] 15 5) (sd [m 20 5,ln 21 20,o 22 (.mk 22 1 4 [(.int .u32 (0))] 21 21),m 7 22] [20,21,22] (sp [mv 8 (.c (.int .u64 (0)))] (s (sd [m 23 5,ln 24 23,mv 25 k0] [5] (b 0 (w OT.l1))) (sd [m 53 7,o 54 (.j5 65 [53]),m 4 54] [6,7,8,23,24,25,26,53,54] .ret))))))),[.tmp 4],false⟩
def MT.l2:=(sp [ls 44 43 42] (s (i 44 .skip (x 2)) (s (b 3 (sd [m 45 43,ia 46 1 41 43,uu 47 1 46,m 11 45,m 12 47] (ra 44 4) (sd [m 48 9,cu 49 48,m 50 12,cu 51 50,bi 52 .mul 49 51,m 53 7,m 54 8,m 55 11,ad 56 54 55,ia 57 1 53 56,uu 58 1 57,cu 59 58,ad 60 52 59,m 61 10,ad 62 60 61,m 13 62] (rl [10,12] 48 15) (sd [m 63 7,m 64 8,m 65 11,ad 66 64 65,m 67 13,o 68 (.conv .u32 67),ia 69 1 63 66,so 1 69 68] (rl [11] 63 7) (d [m 70 13,bi 71 .shr 70 (.c (.int .u64 (32))),m 10 71] [13,70,71]))))) (d [ad 72 43 k1,m 43 72] [72]))))
def MT.l1:=(sp [ls 35 34 33] (s (i 35 .skip (x 0)) (s (b 1 (sd [m 36 34,ia 37 1 32 34,uu 38 1 37,m 8 36,m 9 38] (ra 35 4) (s (sd [m 39 9,bi 40 .eql 39 (.c (.int .u32 (0)))] [39] (i 40 (x 1) .skip)) (sd [mv 10 (.c (.int .u64 (0)))] [40] (s (sp [m 41 6,ln 42 41,mv 43 k0] (b 2 (w MT.l2))) (d [m 73 7,m 74 8,m 75 6,ln 76 75,ad 77 74 76,m 78 10,o 79 (.conv .u32 78),ia 80 1 73 77,so 1 80 79] (rl [8,9,10,41,42,43,44] 73 8))))))) (d [ad 81 34 k1,m 34 81] [8,9,40,81]))))
def MT:AFn:=⟨2,(sd [mv 4 (.c .nil)] [4] (sd [m 14 0,o 15 (.j5 65 [14]),m 16 1,o 17 (.j5 65 [16]),m 5 15,m 6 17] (rl [0,1] 14 4) (s (sd [m 18 5,ln 19 18,bi 20 .eql 19 k0,m 21 20,g 22 21 false (.o9 6),g 23 21 false (.len 22),g 24 21 false (.bin .eql 23 k0),pk 25 21 kt 24] (ra 18 7) (i 25 (sd [mv 4 (.c .nil)] [5,6,25] .ret) .skip)) (sd [m 26 5,ln 27 26,m 28 6,ln 29 28,ad 30 27 29,o 31 (.mk 31 1 4 [(.int .u32 (0))] 30 30),m 7 31] (ra 25 7) (s (sd [m 32 5,ln 33 32,mv 34 k0] [5] (b 0 (w MT.l1))) (sd [m 82 7,o 83 (.j5 65 [82]),m 4 83] [6,7,32,33,34,35,82,83] .ret)))))),[.tmp 4],false⟩
def MW.l1:=(sp [ls 16 15 14] (s (i 16 .skip (x 0)) (s (b 1 (sd [m 17 15,ia 18 1 13 15,uu 19 1 18,m 9 17,m 10 19] (ra 16 4) (sd [m 20 7,m 21 9,m 22 10,m 23 1,bi 24 .shl 22 23,m 25 8,bi 26 .or 24 25,ia 27 1 20 21,so 1 27 26] (rl [8,9] 20 8) (d [m 28 10,cu 29 28,m 30 1,bi 31 .shl 29 30,bi 32 .shr 31 (.c (.int .u64 (32))),o 33 (.conv .u32 32),m 8 33] (rl [10] 28 6))))) (d [ad 34 15 k1,m 15 34] [34]))))
def MW:AFn:=⟨3,(sd [mv 6 (.c .nil)] [6] (sd [m 11 2,o 12 (.mk 71012 1 4 [(.int .u32 (0))] 11 11),m 7 12] [11,12] (sp [mv 8 (.c (.int .u32 (0)))] (s (sp [m 13 0,ln 14 13,mv 15 k0] (b 0 (w MW.l1))) (s (sd [m 35 2,m 36 0,ln 37 36,bi 38 .gtr 35 37] [1,2,13,14,15,16,35,36,37] (i 38 (d [m 39 7,m 40 0,ln 41 40,m 42 8,ia 43 1 39 41,so 1 43 42] (rl [0,8] 38 6)) .skip)) (sd [m 44 7,m 6 44] [0,7,8,38,44] .ret)))))),[.tmp 6],false⟩
def OW.l1:=(s (sd [m 14 7,bi 15 .geq 14 k0] [14] (i 15 .skip (x 0))) (s (b 1 (sd [m 18 5,m 19 7,m 20 0,m 21 7,ia 22 1 20 21,uu 23 1 22,m 24 1,bi 25 .shr 23 24,m 26 6,bi 27 .or 25 26,ia 28 1 18 19,so 1 28 27] (rl [6,15] 18 11) (d [m 29 0,m 30 7,ia 31 1 29 30,uu 32 1 31,cu 33 32,m 34 1,sb 35 (.c (.int .u64 (32))) 34,bi 36 .shl 33 35,o 37 (.conv .u32 36),m 6 37] (ra 29 9)))) (d [m 16 7,sb 17 16 k1,m 7 17] [16,17])))
def OW:AFn:=⟨2,(sd [mv 4 (.c .nil)] [4] (sd [m 8 0,ln 9 8,o 10 (.mk 10 1 4 [(.int .u32 (0))] 9 9),m 5 10] [8,9,10] (sp [mv 6 (.c (.int .u32 (0)))] (s (sd [m 11 0,ln 12 11,sb 13 12 k1,m 7 13] [11,12,13] (b 0 (w OW.l1))) (sd [m 38 5,m 4 38] [0,1,5,6,7,15,38] .ret))))),[.tmp 4],false⟩
namespace G4
def r0:=[mv 4 (.c (.int .u32 (0)))]
def r1:=[m 19 1,ln 20 19,m 5 20]
def r2:=[m 21 0,m 22 5,ia 23 1 21 22,uu 24 1 23,cu 25 24,bi 26 .shl 25 (.c (.int .u64 (32))),m 27 0,m 28 5,
 sb 29 28 k1,ia 30 1 27 29,uu 31 1 30,cu 32 31,bi 33 .or 26 32,m 6 33]
def r3:=[m 34 6,m 35 1,m 36 5,sb 37 36 k1,ia 38 1 35 37,uu 39 1 38,cu 40 39,bi 41 .quo 34 40,m 42 6,
 m 43 1,m 44 5,sb 45 44 k1,ia 46 1 43 45,uu 47 1 46,cu 48 47,bi 49 .rem 42 48,m 7 41,m 8 49]
def r4:=[m 50 7,bi 51 .geq 50 (.c (.int .u64 (4294967296))),m 52 51,g 53 52 false (.o9 7),g 54 52 false (.o9 1),g 55 52 false (.o9 5),
 g 56 52 false (.bin .sub 55 (k 2)),g 57 52 false (.q8 none 1 54 56),g 58 52 false (.ld false 1 57),g 59 52 false (.conv .u64 58),
 g 60 52 false (.bin .mul 53 59),g 61 52 false (.o9 8),g 62 52 false (.bin .shl 61 (.c (.int .u64 (32)))),g 63 52 false (.o9 0),g 64 52 false (.o9 5),
 g 65 52 false (.bin .sub 64 (k 2)),g 66 52 false (.q8 none 1 63 65),g 67 52 false (.ld false 1 66),g 68 52 false (.conv .u64 67),
 g 69 52 false (.bin .or 62 68),g 70 52 false (.bin .gtr 60 69),pk 71 52 kt 70]
def r5:=[m 72 7,sb 73 72 (.c (.int .u64 (1))),m 7 73]
def r6:=[m 74 8,m 75 1,m 76 5,sb 77 76 k1,ia 78 1 75 77,uu 79 1 78,cu 80 79,ad 81 74 80,m 8 81]
def r7:=[m 82 8,bi 83 .geq 82 (.c (.int .u64 (4294967296)))]
def r8:=[mv 9 (.c (.int .u64 (0))),mv 10 (.c (.int .u64 (0)))]
def r9:=[m 84 1,ln 85 84,mv 86 k0]
def WK:=[ls 87 86 85]
def WL:=[m 88 86,ia 89 1 84 86,uu 90 1 89,m 11 88,m 12 90]
def An:=[m 91 7,m 92 12,cu 93 92,bi 94 .mul 91 93,m 95 9,ad 96 94 95,m 13 96]
def bT:=[m 97 13,bi 98 .shr 97 (.c (.int .u64 (32))),m 9 98]
def Dy:=[m 99 0,m 100 11,ia 101 1 99 100,uu 102 1 101,cu 103 102,m 104 13,o 105 (.conv .u32 104),cu 106 105,
 sb 107 103 106,m 108 10,sb 109 107 108,m 14 109]
def Dz:=[m 110 0,m 111 11,m 112 14,o 113 (.conv .u32 112),ia 114 1 110 111,so 1 114 113]
def Ea:=[m 115 14,bi 116 .shr 115 (.c (.int .u64 (63))),m 10 116]
def bU:=[ad 117 86 k1,m 86 117]
def Ao:=[m 118 0,m 119 5,ia 120 1 118 119,uu 121 1 120,cu 122 121,m 123 9,sb 124 122 123,m 125 10,
 sb 126 124 125,m 15 126]
def Jz:=[m 127 0,m 128 5,m 129 15,o 130 (.conv .u32 129),ia 131 1 127 128,so 1 131 130]
def Ka:=[m 132 15,bi 133 .shr 132 (.c (.int .u64 (63))),bi 134 .eql 133 (.c (.int .u64 (0)))]
def Kb:=[m 135 7,o 136 (.conv .u32 135),m 4 136]
def Kc:=[mv 9 (.c (.int .u64 (0)))]
def Kd:=[m 137 1,ln 138 137,mv 139 k0]
def qP:=[ls 140 139 138]
def qQ:=[m 141 139,ia 142 1 137 139,uu 143 1 142,m 16 141,m 17 143]
def qR:=[m 144 0,m 145 16,ia 146 1 144 145,uu 147 1 146,cu 148 147,m 149 17,cu 150 149,ad 151 148 150,
 m 152 9,ad 153 151 152,m 18 153]
def qS:=[m 154 0,m 155 16,m 156 18,o 157 (.conv .u32 156),ia 158 1 154 155,so 1 158 157]
def qT:=[m 159 18,bi 160 .shr 159 (.c (.int .u64 (32))),m 9 160]
def qU:=[ad 161 139 k1,m 139 161]
def Ke:=[m 162 0,m 163 5,ia 164 1 162 163,uu 165 1 164,m 166 9,o 167 (.conv .u32 166),ad 168 165 167,
 ia 169 1 162 163,so 1 169 168]
def Kf:=[m 170 7,sb 171 170 (.c (.int .u64 (1))),o 172 (.conv .u32 171),m 4 172]
def l1:=(s (se r4 [50,51,52,53,54,55,56,57,58,59,60,61,62,63,64,65,66,67,68,69,70,83] (i 71 .skip (x 0))) (b 1 (sd r5 [71,72,73] (sd r6 (ra 74 8) (sd r7 [82] (i 83 (x 0) .skip))))))
def l2:=(sp WK (s (i 87 .skip (x 2)) (s (b 3 (sd WL (ra 87 4) (sd An (rl [9,12] 91 6) (sd bT [97,98] (sd Dy (rl [10,13] 99 11) (sd Dz (rl [11] 110 5) (d Ea [14,115,116]))))))) (d bU [117]))))
def l3:=(sp qP (s (i 140 .skip (x 4)) (s (b 5 (sd qQ (ra 140 4) (sd qR (rl [9,17] 144 10) (sd qS (rl [16] 154 5) (d qT [18,159,160]))))) (d qU [161]))))
def c:=(sd r0 [4] (sd r1 [19,20] (se r2 (ra 21 13) (se r3 (rl [6] 34 16) (s (b 0 (w l1)) (sd r8 [8,71,83] (s (sp r9 (b 2 (w l2))) (sd Ao (rl [9,10,84,85,86,87] 118 9) (sd Jz (ra 127 5) (s (sd Ka [15,132,133] (i 134 (sd Kb [0,1,5,7,134,135,136] .ret) .skip)) (sd Kc [134] (s (sd Kd [1] (b 4 (w l3))) (sd Ke (rl [0,5,9,137,138,139,140] 162 8) (sd Kf [7,170,171,172] .ret))))))))))))))
end G4
def G4:AFn:=⟨2,G4.c,[.tmp 4],false⟩
def MU.l1:=(s (sd [m 34 9,bi 35 .geq 34 k0] [34] (i 35 .skip (x 0))) (s (b 1 (sd [m 38 8,bi 39 .shl 38 (.c (.int .u64 (32))),m 40 0,m 41 9,ia 42 1 40 41,uu 43 1 42,cu 44 43,bi 45 .or 39 44,m 10 45] (rl [8,35] 38 8) (sd [m 46 7,m 47 9,m 48 10,m 49 1,ia 50 1 49 k0,uu 51 1 50,cu 52 51,bi 53 .quo 48 52,o 54 (.conv .u32 53),ia 55 1 46 47,so 1 55 54] (ra 46 10) (d [m 56 10,m 57 1,ia 58 1 57 k0,uu 59 1 58,cu 60 59,bi 61 .rem 56 60,m 8 61] (rl [10] 56 6))))) (d [m 36 9,sb 37 36 k1,m 9 37] [36,37])))
def MU.l2:=(s (sd [m 89 14,bi 90 .geq 89 k0] [89] (i 90 .skip (x 2))) (s (b 3 (d [m 93 7,m 94 14,m 95 12,m 96 14,m 97 14,m 98 6,ad 99 97 98,ad 100 99 k1,o 101 (.ik 1 95 (some 96) (some 100)),m 102 13,o 103 (.j5 73 [101,102]),ia 104 1 93 94,so 1 104 103] (rl [90] 93 12))) (d [m 91 14,sb 92 91 k1,m 14 92] [91,92])))
def MU:AFn:=⟨2,(sd [mv 4 (.c .nil),mv 5 (.c .nil)] [4,5] (s (sd [m 15 0,m 16 1,ca 17 67 [15,16],ls 18 17 k0] [15,16,17] (i 18 (sd [m 19 0,ca 20 62 [19],mv 4 (.c .nil),m 5 20] [0,1,18,19,20] .ret) .skip)) (sd [m 21 1,ln 22 21,m 6 22] [18,21,22] (sd [m 23 0,ln 24 23,m 25 6,sb 26 24 25,ad 27 26 k1,o 28 (.mk 28 1 4 [(.int .u32 (0))] 27 27),m 7 28] (ra 23 6) (s (sd [m 29 6,bi 30 .eql 29 k1] [29] (i 30 (sd [mv 8 (.c (.int .u64 (0)))] [6,30] (s (sd [m 31 0,ln 32 31,sb 33 32 k1,m 9 33] [31,32,33] (b 0 (w MU.l1))) (sd [m 62 7,o 63 (.j5 65 [62]),m 64 8,o 65 (.conv .u32 64),o 66 (.b8 66 1 [65]),o 67 (.j5 65 [66]),m 4 63,m 5 67] (rl [0,1,7,8,9,35] 62 6) .ret))) .skip)) (sd [m 68 1,m 69 6,sb 70 69 k1,ia 71 1 68 70,uu 72 1 71,ca 73 64 [72],cu 74 73,m 11 74] (rl [30] 68 7) (sd [m 75 0,m 76 11,m 77 0,ln 78 77,ad 79 78 k1,o 80 (.j5 71 [75,76,79]),m 81 1,m 82 11,m 83 6,ca 84 71 [81,82,83],m 12 80,m 13 84] (rl [1] 75 10) (s (sd [m 85 0,ln 86 85,m 87 6,sb 88 86 87,m 14 88] (rl [0] 85 4) (b 2 (w MU.l2))) (se [m 105 7,o 106 (.j5 65 [105]),m 107 12,m 108 6,o 109 (.ik 1 107 none (some 108)),m 110 11,ca 111 72 [109,110],o 112 (.j5 65 [111]),m 4 106,m 5 112] (rl [6,7,11,12,13,14,90] 105 8) .ret))))))))),[.tmp 4,.tmp 5],false⟩
def S0:AFn:=⟨2,(sd [mv 4 (.c .nil),mv 5 (.c .nil),mv 6 k0] [4,5,6] (sd [m 10 1,o 11 (.j5 65 [10]),m 7 11] [1,10,11] (s (sd [m 12 7,ln 13 12,bi 14 .eql 13 k0] [12,13] (i 14 (sd [mv 4 (.c .nil),mv 5 (.c .nil),mv 6 (k 3)] [0,7,14] .ret) .skip)) (sd [m 16 0,o 17 (.j5 65 [16]),m 18 7,ca 19 74 [17,18],m 15 19,et 20 15 0,et 21 15 1,m 8 20,m 9 21] (rl [0,7] 14 8) (sd [m 22 8,m 23 9,m 4 22,m 5 23,mv 6 k0] [8,9,22,23] .ret))))),[.tmp 4,.tmp 5,.tmp 6],false⟩
def OX.l1:=(sp [ls 9 8 7] (s (i 9 .skip (x 0)) (s (b 1 (sd [m 10 8,ia 11 1 6 8,uu 12 1 11,m 4 10,m 5 12] (ra 9 4) (d [m 13 3,m 14 5,cu 15 14,m 16 4,bi 17 .mul (k 32) 16,bi 18 .shl 15 17,bi 19 .or 13 18,m 3 19] (rl [4,5] 13 7)))) (d [ad 20 8 k1,m 8 20] [20]))))
def OX:AFn:=⟨1,(sd [mv 2 (.c (.int .u64 (0)))] [2] (sp [mv 3 (.c (.int .u64 (0)))] (s (sd [m 6 0,ln 7 6,mv 8 k0] [0] (b 0 (w OX.l1))) (sd [m 21 3,m 2 21] [3,6,7,8,9,21] .ret)))),[.tmp 2],false⟩
def MV:AFn:=⟨2,(sd [mv 3 (.c (.int .u64 (0)))] [3] (s (sd [m 4 0,uu 5 1 1,ln 6 5,ls 7 4 6] [4,5,6] (i 7 (sd [uu 8 1 1,m 9 0,ia 10 1 8 9,uu 11 1 10,cu 12 11,m 3 12] (rl [0,1] 7 6) .ret) .skip)) (sd [mv 3 (.c (.int .u64 (0)))] [0,1,7] .ret))),[.tmp 3],false⟩
def S2:AFn:=⟨3,(sd [bx 3 0,mv 6 k0] [0,6] (sd [o 9 (.pg false 77 [3]),m 7 9] [3,9] (sd [m 10 7,m 11 1,sb 12 11 k1,o 13 (.u6 10 [12]),bi 14 .shl 13 (.c (.int .u64 (32))),m 15 7,m 16 1,sb 17 16 (k 2),o 18 (.u6 15 [17]),bi 19 .or 14 18,m 20 2,bi 21 .shl 19 20,m 8 21] (ra 10 12) (sd [m 22 8,m 23 7,m 24 1,sb 25 24 (k 3),o 26 (.u6 23 [25]),m 27 2,bi 28 .shl 26 27,bi 29 .shr 28 (.c (.int .u64 (32))),bi 30 .or 22 29,m 8 30] (rl [1,2,7] 22 9) (sd [m 31 8,bi 32 .shr 31 (.c (.int .u64 (2))),o 33 (.conv .i64 32),m 6 33] [8,31,32,33] .ret))))),[.tmp 6],false⟩
def OU.l1:=(s (sd [m 11 1,m 12 6,ad 13 11 12,bi 14 .neq 13 k0,m 15 14,g 16 15 true (.o9 1),g 17 15 true (.o9 7),g 18 15 true (.bin .add 16 17),g 19 15 true (.bin .neq 18 k0),pk 20 15 19 kf] (ra 11 9) (i 20 .skip (x 0))) (b 1 (sd [m 21 0,m 22 4,ad 23 21 22,m 24 1,m 25 6,ad 26 24 25,bi 27 .quo 23 26,m 8 27] (ra 20 8) (s (sd [m 28 8,m 29 0,m 30 5,ad 31 29 30,m 32 1,m 33 7,ad 34 32 33,bi 35 .quo 31 34,bi 36 .neq 28 35,m 37 36,g 38 37 false (.o9 8),g 39 37 false (.bin .gtr 38 (k 2147483647)),pk 40 37 kt 39] (ra 28 12) (i 40 (x 0) .skip)) (sd [m 41 4,m 42 8,m 43 6,bi 44 .mul 42 43,sb 45 41 44,m 46 5,m 47 8,m 48 7,bi 49 .mul 47 48,sb 50 46 49,m 9 45,m 10 50] (ra 40 11) (s (sd [m 51 9,m 52 9,o 53 (.un .neg 52),m 54 10,m 55 10,o 56 (.un .neg 55),o 57 (.mm true [51,53,54,56]),bi 58 .gtr 57 (k 2147483647)] (ra 51 7) (i 58 (x 0) .skip)) (sd [m 59 6,m 60 7,m 61 9,m 62 10,m 4 59,m 5 60,m 6 61,m 7 62] (rl [9,10] 58 5) (d [m 63 1,m 64 0,m 65 8,m 66 1,bi 67 .mul 65 66,sb 68 64 67,m 0 63,m 1 68] (rl [8] 63 6)))))))))
def OU:AFn:=⟨2,(sd [mv 4 k0,mv 5 k0,mv 6 k0,mv 7 k0] [4,7] (sp [mv 4 k1,mv 7 k1] (s (b 0 (w OU.l1)) (sd [m 69 4,m 70 5,m 71 6,m 72 7,m 4 69,m 5 70,m 6 71,m 7 72] (rl [0,1,8,9,10,20,40,58] 69 4) .ret)))),[.tmp 4,.tmp 5,.tmp 6,.tmp 7],false⟩
def OV.l1:=(sp [ls 20 19 18] (s (i 20 .skip (x 0)) (s (b 1 (sd [m 21 19,ia 22 1 17 19,uu 23 1 22,m 11 21,m 12 23] (ra 20 4) (sd [m 24 2,m 25 12,o 26 (.conv .i64 25),bi 27 .mul 24 26,m 28 10,ad 29 27 28,m 13 29] (rl [10,12] 24 6) (s (sd [m 30 11,m 31 1,ln 32 31,ls 33 30 32] [30,31,32] (i 33 (d [m 34 13,m 35 3,m 36 1,m 37 11,ia 38 1 36 37,uu 39 1 38,o 40 (.conv .i64 39),bi 41 .mul 35 40,ad 42 34 41,m 13 42] (ra 33 10)) .skip)) (sd [m 43 9,m 44 11,m 45 13,o 46 (.conv .u32 45),ia 47 1 43 44,so 1 47 46] (rl [11,33] 43 5) (d [m 48 13,bi 49 .shr 48 (.c (.int .u64 (32))),m 10 49] [13,48,49])))))) (d [ad 50 19 k1,m 19 50] [50]))))
def OV:AFn:=⟨4,(sd [mv 8 (.c .nil)] [8] (sd [m 14 0,ln 15 14,o 16 (.mk 16 1 4 [(.int .u32 (0))] 15 15),m 9 16] [14,15,16] (sp [mv 10 k0] (s (sd [m 17 0,ln 18 17,mv 19 k0] [0] (b 0 (w OV.l1))) (sd [m 51 9,o 52 (.j5 65 [51]),m 8 52] [1,2,3,9,10,17,18,19,20,51,52] .ret))))),[.tmp 8],false⟩
def S3:AFn:=⟨2,(sd [mv 4 (.c .nil),mv 5 (.c .nil)] [4,5] (sd [m 14 0,ln 15 14,m 6 15] [14,15] (sd [m 16 0,m 17 6,sb 18 17 k1,ia 19 1 16 18,uu 20 1 19,ca 21 64 [20],cu 22 21,m 7 22] (ra 16 7) (sd [m 24 0,m 25 6,m 26 7,ca 27 78 [24,25,26],m 28 1,m 29 6,m 30 7,ca 31 78 [28,29,30],ca 32 79 [27,31],m 23 32,et 33 23 0,et 34 23 1,et 35 23 2,et 36 23 3,m 8 33,m 9 34,m 10 35,m 11 36] (rl [6,7] 23 14) (s (sd [m 37 9,bi 38 .eql 37 k0] [37] (i 38 (sd [m 40 0,m 41 1,ca 42 74 [40,41],m 39 42,et 43 39 0,et 44 39 1,m 12 43,m 13 44] (rl [0,8,9,10,11,12] 38 7) (sd [m 45 1,m 46 13,m 4 45,m 5 46] [1,13,45,46] .ret)) .skip)) (sd [m 47 0,m 48 1,m 49 8,m 50 9,ca 51 80 [47,48,49,50],m 52 0,m 53 1,m 54 10,m 55 11,ca 56 80 [52,53,54,55],m 4 51,m 5 56] (rl [0,1,8,9,10,11,38] 47 10) .ret)))))),[.tmp 4,.tmp 5],false⟩
namespace H9
def r0:=[mv 4 (.c .nil)]
def r1:=[m 11 0,ca 12 66 [11],m 13 1,ca 14 66 [13],m 5 12,m 6 14]
def r2:=[m 15 5,m 16 6,ca 17 67 [15,16],ls 18 17 k0]
def r3:=[m 19 6,m 20 5,m 5 19,m 6 20]
def r4:=[m 21 6,ln 22 21,bi 23 .gtr 22 (k 2)]
def r5:=[m 25 5,m 26 6,ca 27 81 [25,26],m 24 27,et 28 24 0,et 29 24 1,m 5 28,m 6 29]
def r6:=[m 30 6,ln 31 30,bi 32 .eql 31 k0]
def r7:=[m 33 5,m 4 33]
def r8:=[m 35 5,m 36 6,ca 37 74 [35,36],m 34 37,et 38 34 0,et 39 34 1,m 7 38,m 8 39]
def r9:=[m 40 6,ca 41 76 [40],m 42 8,ca 43 76 [42],m 9 41,m 10 43]
def WK:=[m 44 10,bi 45 .neq 44 (.c (.int .u64 (0)))]
def WL:=[m 46 10,m 47 9,m 48 10,bi 49 .rem 47 48,m 9 46,m 10 49]
def An:=[m 50 9,o 51 (.conv .u32 50),m 52 9,bi 53 .shr 52 (.c (.int .u64 (32))),o 54 (.conv .u32 53),o 55 (.b8 55 1 [51,54]),o 56 (.j5 65 [55]),
 m 4 56]
def l1:=(s (sd r4 [18,21,22] (i 23 .skip (x 0))) (b 1 (d r5 (ra 23 7))))
def l2:=(s (sd WK [44] (i 45 .skip (x 2))) (b 3 (e WL (ra 45 5))))
def c:=(sd r0 [4] (sd r1 (rl [0,1] 11 4) (s (sd r2 [15,16,17] (i 18 (d r3 [18,19,20]) .skip)) (s (b 0 (w l1)) (s (sd r6 [23,30,31] (i 32 (sd r7 [5,6,32,33] .ret) .skip)) (sd r8 (rl [5,7,32] 34 6) (sd r9 (rl [6,8] 40 4) (s (b 2 (w l2)) (sd An (rl [9,10,45] 50 7) .ret)))))))))
end H9
def H9:AFn:=⟨2,H9.c,[.tmp 4],false⟩
structure c6(L:Lib):Prop where
 RY:L 58=some F.RY
 RZ:L 59=some F.RZ
 RV:L 60=some F.RV
 RW:L 61=some F.RW
 LE:L 62=some F.LE
 SW:L 63=some F.SW
 SV:L 64=some F.SV
 G3:L 65=some F.G3
 S1:L 66=some F.S1
 OS:L 67=some F.OS
 OR:L 68=some F.OR
 OT:L 69=some F.OT
 MT:L 70=some F.MT
 MW:L 71=some F.MW
 OW:L 72=some F.OW
 G4:L 73=some F.G4
 MU:L 74=some F.MU
 S0:L 75=some F.S0
 OX:L 76=some F.OX
 MV:L 77=some F.MV
 S2:L 78=some F.S2
 OU:L 79=some F.OU
 OV:L 80=some F.OV
 S3:L 81=some F.S3
 H9:L 82=some F.H9
end Go.Eng.F

namespace Go.Eng.F
open C
def SF:AFn:=⟨1,(sd [mv 2 kf] [2] (sd [m 3 0,bi 4 .geq 3 k1,m 5 4,g 6 5 true (.o9 0),g 7 5 true (.bin .leq 6 (k 3)),pk 8 5 7 kf,m 2 8] (rl [0] 3 6) .ret)),[.tmp 2],false⟩
def SD:AFn:=⟨1,(sd [bx 1 0,mv 2 kf] [0,2] (s (sd [fa 3 1 0,uu 4 1 3,ls 5 4 (k 4),m 6 5,g 7 6 false (.l8 1 0),g 8 6 false (.ld false 1 7),g 9 6 false (.bin .gtr 8 (k 24)),pk 10 6 kt 9,m 11 10,g 12 11 false (.l8 1 1),g 13 11 false (.ld false 1 12),g 14 11 false (.bin .lss 13 k0),pk 15 11 kt 14,m 16 15,g 17 16 false (.l8 1 1),g 18 16 false (.ld false 1 17),g 19 16 false (.l8 1 0),g 20 16 false (.ld false 1 19),g 21 16 false (.bin .geq 18 20),pk 22 16 kt 21] (ra 3 19) (i 22 (sd [mv 2 kf] [1,22] .ret) .skip)) (sd [fa 23 1 2,uu 24 1 23,ca 25 1 [24],m 26 25,g 27 26 true (.l8 1 3),g 28 26 true (.ld false 1 27),g 29 26 true (.bin .eql 28 k1),g 30 26 true (.o9 29),g 31 30 false (.l8 1 3),g 32 30 false (.ld false 1 31),g 33 30 false (.bin .eql 32 (k 2)),g 34 26 true (.pick 30 kt 33),pk 35 26 34 kf,m 2 35] (rl [1] 22 14) .ret))),[.tmp 2],false⟩
def R9:AFn:=⟨1,(sd [bx 1 0,mv 2 k0] [0,2] (s (sd [tt 3 4 1,ca 4 2 [3],nt 5 4] [3,4] (i 5 (sd [mv 2 k0] [1,5] .ret) .skip)) (sd [fa 6 1 0,uu 7 1 6,sb 8 7 k1,bi 9 .shl k1 8,o 10 (.un .neg 9),m 2 10] (rl [1] 5 6) .ret))),[.tmp 2],false⟩
def R8:AFn:=⟨1,(sd [bx 1 0,mv 2 k0] [0,2] (s (sd [tt 3 4 1,ca 4 2 [3],nt 5 4] [3,4] (i 5 (sd [mv 2 k0] [1,5] .ret) .skip)) (sd [fa 6 1 0,uu 7 1 6,sb 8 7 k1,bi 9 .shl k1 8,sb 10 9 k1,m 2 10] (rl [1] 5 6) .ret))),[.tmp 2],false⟩
def R7:AFn:=⟨2,(sd [bx 2 0,mv 4 kf] [0,4] (sd [tt 5 4 2,ca 6 2 [5],m 7 6,g 8 7 true (.o9 1),g 9 7 true (.ld true 4 2),g 10 7 true (.call 3 [9]),g 11 7 true (.bin .geq 8 10),pk 12 7 11 kf,m 13 12,g 14 13 true (.o9 1),g 15 13 true (.ld true 4 2),g 16 13 true (.call 4 [15]),g 17 13 true (.bin .leq 14 16),pk 18 13 17 kf,m 4 18] (rl [1,2] 5 14) .ret)),[.tmp 4],false⟩
def SC:AFn:=⟨3,(sd [mv 6 k0] [6] (s (sd [m 9 1,ls 10 9 k0,m 11 10,g 12 11 false (.o9 1),g 13 11 false (.bin .gtr 12 (k 62)),pk 14 11 kt 13,m 15 14,g 16 15 false (.o9 2),g 17 15 false (.call 1 [16]),g 18 15 false (.un .not 17),pk 19 15 kt 18] (ra 9 10) (i 19 (sd [mv 6 k0] [0,1,2,19] .ret) .skip)) (s (sd [m 20 1,bi 21 .eql 20 k0] [19,20] (i 21 (sd [m 22 0,m 6 22] [0,1,2,21,22] .ret) .skip)) (sd [m 23 0,m 24 1,bi 25 .shr 23 24,m 7 25] [21,23,24,25] (sd [m 26 7,m 27 7,m 28 0,m 29 1,sb 30 29 k1,bi 31 .shr 28 30,bi 32 .and 31 k1,ad 33 27 32,m 34 7,o 35 (.build [z,z,z] [(0,1,26),(1,1,33),(2,1,34)]),al 8 [z,z,z],so 3 8 35] (rl [7] 26 10) (s (sd [m 36 0,ls 37 36 k0,m 38 37,g 39 38 true (.o9 0),g 40 38 true (.o9 1),g 41 38 true (.bin .shl k1 40),g 42 38 true (.bin .sub 41 k1),g 43 38 true (.bin .and 39 42),g 44 38 true (.bin .neq 43 k0),pk 45 38 44 kf] (rl [0,1] 36 9) (i 45 (d [o 46 (.q8 (some 3) 1 8 (k 2)),uu 47 1 46,ad 48 47 k1,o 49 (.q8 (some 3) 1 8 (k 2)),so 1 49 48] (ra 45 5)) .skip)) (sd [m 50 2,sb 51 50 k1,o 52 (.q8 (some 3) 1 8 51),uu 53 1 52,m 6 53] (rl [2,8,45] 50 4) .ret))))))),[.tmp 6],false⟩
def SE:AFn:=⟨2,(sd [mv 4 k0] [4] (s (sd [m 6 0,ls 7 6 k1,m 8 7,g 9 8 false (.o9 0),g 10 8 false (.bin .gtr 9 (k 62)),pk 11 8 kt 10] (ra 6 5) (i 11 (sd [mv 4 k0] [0,1,11] .ret) .skip)) (sd [m 12 1,m 13 0,bi 14 .shl k1 13,sb 15 14 k1,bi 16 .and 12 15,m 5 16] (rl [1] 11 6) (s (sd [m 17 5,m 18 0,sb 19 18 k1,bi 20 .shl k1 19,bi 21 .geq 17 20] (ra 17 4) (i 21 (d [m 22 5,m 23 0,bi 24 .shl k1 23,sb 25 22 24,m 5 25] (rl [0] 21 5)) .skip)) (sd [m 26 5,m 4 26] [0,5,21,26] .ret))))),[.tmp 4],false⟩
def SB:AFn:=⟨2,(sd [bx 2 0,mv 4 k0] [0,4] (se [m 5 1,tt 6 4 2,ca 7 3 [6],o 8 (.mm true [5,7]),tt 9 4 2,ca 10 4 [9],o 11 (.mm false [8,10]),m 4 11] (rl [1,2] 5 7) .ret)),[.tmp 4],false⟩
def SA:AFn:=⟨2,(sd [bx 2 0,mv 4 k0] [0,4] (s (sd [tt 5 4 2,ca 6 2 [5],nt 7 6] [5,6] (i 7 (sd [mv 4 k0] [1,2,7] .ret) .skip)) (s (sd [fa 8 2 3,uu 9 1 8,bi 10 .eql 9 (k 2)] [7,8,9] (i 10 (sd [fa 11 2 0,uu 12 1 11,m 13 1,ca 14 7 [12,13],m 4 14] (rl [1,2] 10 5) .ret) .skip)) (sd [tt 15 4 2,m 16 1,ca 17 8 [15,16],m 4 17] [1,2,10,15,16,17] .ret)))),[.tmp 4],false⟩
def UE:AFn:=⟨3,(sd [mv 6 kf] [6] (sd [m 7 0,m 8 1,bi 9 .geq 7 8,m 10 9,g 11 10 true (.o9 0),g 12 10 true (.o9 2),g 13 10 true (.bin .leq 11 12),pk 14 10 13 kf,m 6 14] (rl [0,1,2] 7 8) .ret)),[.tmp 6],false⟩
def UJ:AFn:=⟨1,(sd [bx 1 0,mv 2 kf] [0,2] (sd [fa 3 1 0,uu 4 1 3,ca 5 10 [4,(k 4),(k 24)],m 6 5,g 7 6 true (.l8 1 1),g 8 6 true (.ld false 1 7),g 9 6 true (.l8 1 0),g 10 6 true (.ld false 1 9),g 11 6 true (.bin .sub 10 k1),g 12 6 true (.call 10 [8,k0,11]),pk 13 6 12 kf,m 14 13,g 15 14 true (.l8 1 2),g 16 14 true (.ld false 1 15),g 17 14 true (.call 10 [16,k1,(k 3)]),pk 18 14 17 kf,m 19 18,g 20 19 true (.l8 1 3),g 21 19 true (.ld false 1 20),g 22 19 true (.call 10 [21,k1,(k 2)]),pk 23 19 22 kf,m 2 23] (rl [1] 3 21) .ret)),[.tmp 2],false⟩
def UF:AFn:=⟨1,(sd [bx 1 0,mv 2 k0] [0,2] (s (sd [tt 3 4 1,ca 4 11 [3],nt 5 4] [3,4] (i 5 (sd [mv 2 k0] [1,5] .ret) .skip)) (sd [fa 6 1 0,uu 7 1 6,sb 8 7 k1,cu 9 8,bi 10 .shl k1 9,o 11 (.un .neg 10),m 2 11] (rl [1] 5 7) .ret))),[.tmp 2],false⟩
def UD:AFn:=⟨1,(sd [bx 1 0,mv 2 k0] [0,2] (s (sd [tt 3 4 1,ca 4 11 [3],nt 5 4] [3,4] (i 5 (sd [mv 2 k0] [1,5] .ret) .skip)) (sd [fa 6 1 0,uu 7 1 6,sb 8 7 k1,cu 9 8,bi 10 .shl k1 9,sb 11 10 k1,m 2 11] (rl [1] 5 7) .ret))),[.tmp 2],false⟩
def UC:AFn:=⟨2,(sd [bx 2 0,mv 4 kf] [0,4] (se [tt 5 4 2,ca 6 11 [5],m 7 6,g 8 7 true (.o9 1),g 9 7 true (.ld true 4 2),g 10 7 true (.call 12 [9]),g 11 7 true (.ld true 4 2),g 12 7 true (.call 13 [11]),g 13 7 true (.call 10 [8,10,12]),pk 14 7 13 kf,m 4 14] (rl [1,2] 5 10) .ret)),[.tmp 4],false⟩
def UK:AFn:=⟨2,(sd [mv 4 k0] [4] (s (sd [m 7 0,ca 8 10 [7,k1,(k 62)],nt 9 8] [7,8] (i 9 (sd [mv 4 k0] [0,1,9] .ret) .skip)) (sd [m 10 0,cu 11 10,bi 12 .shl k1 11,m 5 12] (rl [0] 9 4) (sd [m 13 1,m 14 5,bi 15 .rem 13 14,m 6 15] [1,13,14,15] (s (sd [m 16 6,ls 17 16 k0] [16] (i 17 (d [m 18 6,m 19 5,ad 20 18 19,m 6 20] (ra 17 4)) .skip)) (s (sd [m 21 6,m 22 5,bi 23 .quo 22 (k 2),bi 24 .geq 21 23] [17,21,22,23] (i 24 (d [m 25 6,m 26 5,sb 27 25 26,m 6 27] (rl [5] 24 4)) .skip)) (sd [m 28 6,m 4 28] [5,6,24,28] .ret))))))),[.tmp 4],false⟩
def UH:AFn:=⟨2,(sd [bx 2 0,mv 4 k0] [0,4] (se [m 5 1,tt 6 4 2,ca 7 12 [6],o 8 (.mm true [5,7]),tt 9 4 2,ca 10 13 [9],o 11 (.mm false [8,10]),m 4 11] (rl [1,2] 5 7) .ret)),[.tmp 4],false⟩
def UG:AFn:=⟨2,(sd [bx 2 0,mv 4 k0] [0,4] (s (sd [tt 5 4 2,ca 6 11 [5],nt 7 6] [5,6] (i 7 (sd [mv 4 k0] [1,2,7] .ret) .skip)) (s (sd [fa 8 2 3,uu 9 1 8,bi 10 .eql 9 (k 2)] [7,8,9] (i 10 (sd [fa 11 2 0,uu 12 1 11,m 13 1,ca 14 15 [12,13],m 4 14] (rl [1,2] 10 5) .ret) .skip)) (sd [tt 15 4 2,m 16 1,ca 17 16 [15,16],m 4 17] [1,2,10,15,16,17] .ret)))),[.tmp 4],false⟩
def UI:AFn:=⟨3,(sd [mv 6 k0] [6] (s (sd [m 10 1,ca 11 10 [10,k0,(k 62)],nt 12 11,m 13 12,g 14 13 false (.o9 2),g 15 13 false (.call 10 [14,k1,(k 3)]),g 16 13 false (.un .not 15),pk 17 13 kt 16] (ra 10 7) (i 17 (sd [mv 6 k0] [0,1,2,17] .ret) .skip)) (sd [m 18 1,cu 19 18,bi 20 .shl k1 19,m 7 20] (ra 17 4) (se [m 21 0,m 22 7,bi 23 .quo 21 22,m 24 0,m 25 7,bi 26 .rem 24 25,m 8 23,m 9 26] (ra 21 6) (s (sd [m 27 9,ls 28 27 k0] [27] (i 28 (d [m 29 8,sb 30 29 k1,m 31 9,m 32 7,ad 33 31 32,m 8 30,m 9 33] (ra 28 6)) .skip)) (s (sd [m 34 2,bi 35 .eql 34 (k 2),m 36 35,g 37 36 true (.o9 9),g 38 36 true (.o9 7),g 39 36 true (.bin .sub 38 k1),g 40 36 true (.o9 9),g 41 36 true (.bin .sub 39 40),g 42 36 true (.bin .gtr 37 41),pk 43 36 42 kf,m 44 43,g 45 44 true (.o9 1),g 46 44 true (.bin .gtr 45 k0),pk 47 44 46 kf] (rl [1,7,28] 34 13) (i 47 (d [m 48 8,ad 49 48 k1,m 8 49] [47,48,49]) .skip)) (s (sd [m 50 2,bi 51 .eql 50 (k 3),m 52 51,g 53 52 true (.o9 0),g 54 52 true (.bin .lss 53 k0),pk 55 52 54 kf,m 56 55,g 57 56 true (.o9 9),g 58 56 true (.bin .gtr 57 k0),pk 59 56 58 kf] (rl [0,2,9,47] 50 9) (i 59 (d [m 60 8,ad 61 60 k1,m 8 61] [59,60,61]) .skip)) (sd [m 62 8,m 6 62] [8,59,62] .ret)))))))),[.tmp 6],false⟩
def PM.l1:=(s (sd [m 6 5,m 7 1,ln 8 7,ls 9 6 8] [6,7,8] (i 9 .skip (x 0))) (s (b 1 (se [tt 12 4 2,m 13 1,m 14 5,ia 15 1 13 14,uu 16 1 15,ca 17 14 [12,16],nt 18 17] (rl [9] 12 6) (i 18 (sd [mv 4 kf] [1,2,5,18] .ret) .skip))) (d [m 10 5,ad 11 10 k1,m 5 11] [10,11,18])))
def PM:AFn:=⟨2,(sd [bx 2 0,mv 4 kf] [0,4] (s (sp [mv 5 k0] (b 0 (w PM.l1))) (sd [mv 4 kt] [1,2,5,9] .ret))),[.tmp 4],false⟩
def PL.l1:=(s (sd [m 11 5,m 12 0,ln 13 12,ls 14 11 13] [11,12,13] (i 14 .skip (x 0))) (s (b 1 (se [m 17 0,m 18 5,ia 19 1 17 18,uu 20 1 19,m 21 1,m 22 5,ia 23 1 21 22,uu 24 1 23,bi 25 .neq 20 24] (rl [14] 17 8) (i 25 (sd [mv 4 kf] [0,1,5,25] .ret) .skip))) (d [m 15 5,ad 16 15 k1,m 5 16] [15,16,25])))
def PL:AFn:=⟨2,(sd [mv 4 kf] [4] (s (sd [m 6 0,ln 7 6,m 8 1,ln 9 8,bi 10 .neq 7 9] (ra 6 4) (i 10 (sd [mv 4 kf] [0,1,10] .ret) .skip)) (s (sd [mv 5 k0] [10] (b 0 (w PL.l1))) (sd [mv 4 kt] [0,1,5,14] .ret)))),[.tmp 4],false⟩
structure a8(L:Lib):Prop where
 SF:L 1=some F.SF
 SD:L 2=some F.SD
 R9:L 3=some F.R9
 R8:L 4=some F.R8
 R7:L 5=some F.R7
 SC:L 6=some F.SC
 SE:L 7=some F.SE
 SB:L 8=some F.SB
 SA:L 9=some F.SA
 UE:L 10=some F.UE
 UJ:L 11=some F.UJ
 UF:L 12=some F.UF
 UD:L 13=some F.UD
 UC:L 14=some F.UC
 UK:L 15=some F.UK
 UH:L 16=some F.UH
 UG:L 17=some F.UG
 UI:L 18=some F.UI
 PM:L 19=some F.PM
 PL:L 20=some F.PL
def K3.l2:=(sp [ls 58 57 56] (s (i 58 .skip (x 2)) (s (b 3 (sd [ia 59 2 55 57,tt 60 2 59,al 6 [z,z],so 2 6 60] [58,59,60] (s (sd [fa 61 6 0,uu 62 1 61,ls 63 62 k0,m 64 63,g 65 64 false (.l8 6 0),g 66 64 false (.ld false 1 65),g 67 64 false (.l8 1 8),g 68 64 false (.ld false 1 67),g 69 64 false (.o9 3),g 70 64 false (.bin .add 68 69),g 71 64 false (.bin .gtr 66 70),pk 72 64 kt 71] (ra 61 11) (i 72 (sd [mv 2 kf] [1,3,6,43,44,45,55,56,57,72] .ret) .skip)) (se [fa 73 6 1,uu 74 1 73,fa 75 1 4,fa 76 75 1,uu 77 1 76,bi 78 .shl k1 77,bi 79 .neq 74 78,m 80 79,g 81 80 true (.l8 1 4),g 82 80 true (.ld true 4 81),g 83 80 true (.l8 6 1),g 84 80 true (.ld false 1 83),g 85 80 true (.call 5 [82,84]),g 86 80 true (.un .not 85),pk 87 80 86 kf] (rl [6] 72 15) (i 87 (sd [mv 2 kf] [1,3,43,44,45,55,56,57,87] .ret) .skip))))) (d [ad 88 57 k1,m 57 88] [87,88]))))
def K3.l1:=(sp [ls 46 45 44] (s (i 46 .skip (x 0)) (s (b 1 (sd [m 47 45,ia 48 1 43 45,tt 49 1 48,al 4 [.nil],m 3 47,so 1 4 49] (ra 46 4) (s (sd [fa 50 4 0,uu 51 1 50,ln 52 51,bi 53 .gtr 52 (k 64)] [50,51,52] (i 53 (sd [mv 2 kf] [1,3,4,43,44,45,53] .ret) .skip)) (sd [fa 54 4 0,uu 55 1 54,ln 56 55,mv 57 k0] [4,53,54] (b 2 (w K3.l2)))))) (d [ad 89 45 k1,m 45 89] [3,55,56,57,58,89]))))
def K3.l3:=(sp [ls 100 99 98] (s (i 100 .skip (x 4)) (s (b 5 (sd [ia 101 1 97 99,uu 102 1 101,m 9 102] [100,101,102] (sd [m 103 9,ls 104 103 k0,m 105 104,g 106 105 false (.o9 9),g 107 105 false (.o9 7),g 108 105 false (.bin .gtr 106 107),pk 109 105 kt 108] (rl [9] 103 6) (i 109 (sd [mv 2 kf] [1,7,97,98,99,109] .ret) .skip)))) (d [ad 110 99 k1,m 99 110] [109,110]))))
def K3:AFn:=⟨1,(sd [bx 1 0,mv 2 kf] [0,2] (s (sd [fa 10 1 0,tt 11 4 10,ca 12 2 [11],nt 13 12,m 14 13,g 15 14 false (.l8 1 4),g 16 14 false (.ld true 4 15),g 17 14 false (.call 2 [16]),g 18 14 false (.un .not 17),pk 19 14 kt 18] (ra 10 9) (i 19 (sd [mv 2 kf] [1,19] .ret) .skip)) (s (sd [fa 20 1 8,uu 21 1 20,ls 22 21 k0,m 23 22,g 24 23 false (.l8 1 8),g 25 23 false (.ld false 1 24),g 26 23 false (.bin .gtr 25 (k 64)),pk 27 23 kt 26,m 28 27,g 29 28 false (.l8 1 9),g 30 28 false (.ld false 1 29),g 31 28 false (.len 30),g 32 28 false (.bin .gtr 31 (k 64)),pk 33 28 kt 32,m 34 33,g 35 34 false (.l8 1 10),g 36 34 false (.ld false 1 35),g 37 34 false (.len 36),g 38 34 false (.l8 1 8),g 39 34 false (.ld false 1 38),g 40 34 false (.bin .neq 37 39),pk 41 34 kt 40] (ra 19 22) (i 41 (sd [mv 2 kf] [1,41] .ret) .skip)) (s (sd [fa 42 1 9,uu 43 1 42,ln 44 43,mv 45 k0] [41,42] (b 0 (w K3.l1))) (sd [fa 90 1 8,uu 91 1 90,fa 92 1 9,uu 93 1 92,ln 94 93,ad 95 91 94,m 7 95] (rl [43,44,45,46] 90 6) (s (sd [fa 96 1 10,uu 97 1 96,ln 98 97,mv 99 k0] [96] (b 4 (w K3.l3))) (sd [fa 111 1 11,uu 112 1 111,bi 113 .geq 112 k0,m 114 113,g 115 114 true (.l8 1 11),g 116 114 true (.ld false 1 115),g 117 114 true (.o9 7),g 118 114 true (.bin .leq 116 117),pk 119 114 118 kf,m 2 119] (rl [1,7,97,98,99,100] 111 9) .ret))))))),[.tmp 2],false⟩
def MY.l1:=(sp [ls 19 18 17] (s (i 19 .skip (x 0)) (s (b 1 (sd [ia 20 1 16 18,uu 21 1 20,m 8 21] [19,20,21] (sd [fa 22 3 0,tt 23 4 22,m 24 8,ca 25 5 [23,24],nt 26 25] (rl [8] 22 4) (i 26 (sd [mv 6 (k 17)] [2,3,16,17,18,26] .ret) .skip)))) (d [ad 27 18 k1,m 18 27] [26,27]))))
def MY.l2:=(sp [ls 31 30 29] (s (i 31 .skip (x 2)) (s (b 3 (sd [ia 32 1 28 30,uu 33 1 32,m 10 33] [31,32,33] (sd [fa 34 3 0,tt 35 4 34,m 36 10,ca 37 5 [35,36],nt 38 37] (rl [10] 34 4) (i 38 (sd [mv 6 (k 17)] [3,28,29,30,38] .ret) .skip)))) (d [ad 39 30 k1,m 30 39] [38,39]))))
def MY:AFn:=⟨3,(sd [bx 3 0,mv 6 k0] [0,6] (s (sd [m 11 1,ln 12 11,fa 13 3 8,uu 14 1 13,bi 15 .neq 12 14] (ra 11 4) (i 15 (sd [mv 6 k1] [1,2,3,15] .ret) .skip)) (s (sd [m 16 1,ln 17 16,mv 18 k0] [1,15] (b 0 (w MY.l1))) (s (sd [m 28 2,ln 29 28,mv 30 k0] (rl [2] 16 4) (b 2 (w MY.l2))) (sd [mv 6 k0] (rl [3] 28 4) .ret))))),[.tmp 6],false⟩
def MX.l2:=(sp [ls 42 41 40] (s (i 42 .skip (x 2)) (s (b 3 (sd [ia 43 2 39 41,tt 44 2 43,al 14 [z,z],so 2 14 44] [42,43,44] (e [m 45 12,fa 46 14 1,uu 47 1 46,m 48 8,fa 49 14 0,uu 50 1 49,ia 51 1 48 50,uu 52 1 51,bi 53 .mul 47 52,ad 54 45 53,m 12 54] (rl [14] 45 10)))) (d [ad 55 41 k1,m 41 55] [55]))))
def MX.l1:=(sp [ls 35 34 33] (s (i 35 .skip (x 0)) (s (b 1 (sd [ia 36 1 32 34,tt 37 1 36,al 11 [.nil],so 1 11 37] [35,36,37] (sp [mv 12 k0] (s (sd [fa 38 11 0,uu 39 1 38,ln 40 39,mv 41 k0] [11,38] (b 2 (w MX.l2))) (sd [m 56 12,fa 57 3 4,fa 58 57 1,uu 59 1 58,fa 60 3 0,fa 61 60 2,uu 62 1 61,ca 63 6 [56,59,62],m 15 63] (rl [12,39,40,41,42] 56 8) (sd [m 64 9,m 65 64,g 66 65 false (.l8 3 0),g 67 65 false (.ld true 4 66),g 68 65 false (.o9 15),g 69 65 false (.call 5 [67,68]),g 70 65 false (.un .not 69),pk 71 65 kt 70,m 9 71] (ra 64 8) (d [m 72 8,fa 73 3 0,tt 74 4 73,m 75 15,ca 76 9 [74,75],o 77 (.b8 77 1 [76]),o 78 (.app 78 1 8 72 77),m 8 78] (rl [15] 72 7)))))))) (d [ad 79 34 k1,m 34 79] [79]))))
def MX:AFn:=⟨3,(sd [bx 3 0,mv 6 (.c .nil),mv 7 kf] [0,6,7] (sd [fa 16 3 8,uu 17 1 16,ad 18 k1 17,fa 19 3 9,uu 20 1 19,ln 21 20,ad 22 18 21,o 23 (.mk 23 1 8 [z] k0 22),m 8 23] (ra 16 8) (sd [m 24 8,m 25 2,o 26 (.b8 26 1 [25]),o 27 (.app 27 1 8 24 26),m 8 27] (rl [2] 24 4) (sd [m 28 8,m 29 1,o 30 (.app 30 1 8 28 29),m 8 30] [1,28,29,30] (sp [mv 9 kf] (s (sd [fa 31 3 9,uu 32 1 31,ln 33 32,mv 34 k0] [31] (b 0 (w MX.l1))) (sd [m 80 8,m 81 9,m 6 80,m 7 81] [3,8,9,32,33,34,35,80,81] .ret))))))),[.tmp 6,.tmp 7],false⟩
def S5:AFn:=⟨3,(sd [bx 3 0,mv 6 (.c .nil),mv 7 kf,mv 8 k0] [0,6,7,8] (s (sd [tt 12 12 3,ca 13 21 [12],nt 14 13] [12,13] (i 14 (sd [mv 6 (.c .nil),mv 7 kf,mv 8 (k 2)] [1,2,3,14] .ret) .skip)) (s (sd [tt 15 12 3,m 16 1,m 17 2,o 18 (.b8 18 1 [17]),ca 19 22 [15,16,18],m 9 19] (ra 14 6) (sd [m 20 9,bi 21 .neq 20 k0] [20] (i 21 (sd [m 22 9,mv 6 (.c .nil),mv 7 kf,m 8 22] [1,2,3,9,21,22] .ret) .skip))) (sd [tt 24 12 3,m 25 1,m 26 2,ca 27 23 [24,25,26],m 23 27,et 28 23 0,et 29 23 1,m 10 28,m 11 29] (rl [1,2,3,9,21] 23 7) (sd [m 30 10,m 31 11,m 6 30,m 7 31,mv 8 k0] [10,11,30,31] .ret))))),[.tmp 6,.tmp 7,.tmp 8],false⟩
def OY.l1:=(sp [ls 15 14 13] (s (i 15 .skip (x 0)) (s (b 1 (sd [m 16 14,ia 17 1 12 14,uu 18 1 17,m 6 16,m 7 18] (ra 15 4) (d [m 19 5,m 20 6,m 21 1,m 22 7,ia 23 1 21 22,uu 24 1 23,ia 25 1 19 20,so 1 25 24] (rl [6,7] 19 7)))) (d [ad 26 14 k1,m 14 26] [26]))))
def OY:AFn:=⟨2,(sd [bx 2 0,mv 4 (.c .nil)] [0,4] (sd [fa 8 2 8,uu 9 1 8,o 10 (.mk 10 1 8 [z] 9 9),m 5 10] [8,9,10] (s (sd [fa 11 2 10,uu 12 1 11,ln 13 12,mv 14 k0] [2,11] (b 0 (w OY.l1))) (sd [m 27 5,m 4 27] [1,5,12,13,14,15,27] .ret)))),[.tmp 4],false⟩
def S4:AFn:=⟨3,(sd [bx 3 0,mv 6 (.c .nil),mv 7 k0,mv 8 kf,mv 9 k0] [0,6,7,8,9] (sd [tt 14 12 3,m 15 1,m 16 2,ca 17 24 [14,15,16],m 13 17,et 18 13 0,et 19 13 1,et 20 13 2,m 10 18,m 11 19,m 12 20] (rl [1,2] 13 8) (s (sd [m 21 12,bi 22 .neq 21 k0] [21] (i 22 (sd [m 23 12,mv 6 (.c .nil),mv 7 k0,mv 8 kf,m 9 23] [3,10,11,12,22,23] .ret) .skip)) (se [tt 24 12 3,m 25 10,ca 26 25 [24,25],m 27 10,fa 28 3 11,uu 29 1 28,ia 30 1 27 29,uu 31 1 30,m 32 11,m 6 26,m 7 31,m 8 32,mv 9 k0] (rl [3,10,11,12,22] 24 9) .ret)))),[.tmp 6,.tmp 7,.tmp 8,.tmp 9],false⟩
def K9.l2:=(s (sd [m 53 4,fa 54 1 9,uu 55 1 54,m 56 3,ia 57 1 55 56,fa 58 57 0,uu 59 1 58,ln 60 59,ls 61 53 60] (ra 53 8) (i 61 .skip (x 2))) (s (b 3 (sd [fa 64 1 9,uu 65 1 64,m 66 3,ia 67 1 65 66,fa 68 67 0,uu 69 1 68,m 70 4,ia 71 2 69 70,tt 72 2 71,al 5 [z,z],so 2 5 72] (rl [61] 64 9) (sd [fa 73 5 0,uu 74 1 73,fa 75 1 8,uu 76 1 75,m 77 3,ad 78 76 77,ca 79 10 [74,k0,78],nt 80 79,m 81 80,g 82 81 false (.l8 1 4),g 83 81 false (.ld true 4 82),g 84 81 false (.l8 5 1),g 85 81 false (.ld false 1 84),g 86 81 false (.call 14 [83,85]),g 87 81 false (.un .not 86),g 88 81 false (.o9 87),g 89 88 true (.l8 5 1),g 90 88 true (.ld false 1 89),g 91 88 true (.l8 1 4),g 92 88 true (.l8 91 1),g 93 88 true (.ld false 1 92),g 94 88 true (.conv .u64 93),g 95 88 true (.bin .shl k1 94),g 96 88 true (.bin .neq 90 95),g 97 81 false (.pick 88 96 kf),pk 98 81 kt 97] (rl [5] 73 25) (i 98 (sd [mv 2 kf] [1,3,4,98] .ret) .skip)))) (d [m 62 4,ad 63 62 k1,m 4 63] [62,63,98])))
def K9.l1:=(s (sd [m 38 3,fa 39 1 9,uu 40 1 39,ln 41 40,ls 42 38 41] (ra 38 4) (i 42 .skip (x 0))) (s (b 1 (s (sd [fa 45 1 9,uu 46 1 45,m 47 3,ia 48 1 46 47,fa 49 48 0,uu 50 1 49,ln 51 50,bi 52 .gtr 51 (k 64)] (rl [42] 45 7) (i 52 (sd [mv 2 kf] [1,3,52] .ret) .skip)) (sd [mv 4 k0] [52] (b 2 (w K9.l2))))) (d [m 43 3,ad 44 43 k1,m 3 44] [4,43,44,61])))
def K9.l3:=(s (sd [m 105 7,fa 106 1 8,uu 107 1 106,ls 108 105 107] [105,106,107] (i 108 .skip (x 4))) (s (b 5 (sd [fa 111 1 10,uu 112 1 111,m 113 7,ia 114 1 112 113,uu 115 1 114,m 116 6,ca 117 10 [115,k0,116],nt 118 117] (rl [108] 111 7) (i 118 (sd [mv 2 kf] [1,6,7,118] .ret) .skip))) (d [m 109 7,ad 110 109 k1,m 7 110] [109,110,118])))
def K9:AFn:=⟨1,(sd [bx 1 0,mv 2 kf] [0,2] (s (sd [fa 8 1 0,tt 9 4 8,ca 10 11 [9],nt 11 10,m 12 11,g 13 12 false (.l8 1 4),g 14 12 false (.ld true 4 13),g 15 12 false (.call 11 [14]),g 16 12 false (.un .not 15),pk 17 12 kt 16,m 18 17,g 19 18 false (.l8 1 8),g 20 18 false (.ld false 1 19),g 21 18 false (.call 10 [20,k0,(k 64)]),g 22 18 false (.un .not 21),pk 23 18 kt 22,m 24 23,g 25 24 false (.l8 1 9),g 26 24 false (.ld false 1 25),g 27 24 false (.len 26),g 28 24 false (.bin .gtr 27 (k 64)),pk 29 24 kt 28,m 30 29,g 31 30 false (.l8 1 10),g 32 30 false (.ld false 1 31),g 33 30 false (.len 32),g 34 30 false (.l8 1 8),g 35 30 false (.ld false 1 34),g 36 30 false (.bin .neq 33 35),pk 37 30 kt 36] (ra 8 29) (i 37 (sd [mv 2 kf] [1,37] .ret) .skip)) (s (sd [mv 3 k0] [37] (b 0 (w K9.l1))) (sd [fa 99 1 8,uu 100 1 99,fa 101 1 9,uu 102 1 101,ln 103 102,ad 104 100 103,m 6 104] (rl [3,42] 99 6) (s (sp [mv 7 k0] (b 4 (w K9.l3))) (sd [fa 119 1 11,uu 120 1 119,m 121 6,ca 122 10 [120,k0,121],m 2 122] (rl [1,6,7,108] 119 4) .ret)))))),[.tmp 2],false⟩
def PT.l1:=(s (sd [m 7 6,fa 8 2 0,uu 9 1 8,ln 10 9,ls 11 7 10] (ra 7 4) (i 11 .skip (x 0))) (s (b 1 (e [m 14 5,fa 15 2 0,uu 16 1 15,m 17 6,ia 18 2 16 17,fa 19 18 1,uu 20 1 19,m 21 1,fa 22 2 0,uu 23 1 22,m 24 6,ia 25 2 23 24,fa 26 25 0,uu 27 1 26,ia 28 1 21 27,uu 29 1 28,bi 30 .mul 20 29,ad 31 14 30,m 5 31] (rl [11] 14 18))) (d [m 12 6,ad 13 12 k1,m 6 13] [12,13])))
def PT:AFn:=⟨2,(sd [bx 2 0,mv 4 k0] [0,4] (sp [mv 5 k0] (s (sp [mv 6 k0] (b 0 (w PT.l1))) (sd [m 32 5,m 4 32] [1,2,5,6,11,32] .ret)))),[.tmp 4],false⟩
def PR.l1:=(s (sd [m 40 11,fa 41 3 9,uu 42 1 41,ln 43 42,ls 44 40 43] (ra 40 4) (i 44 .skip (x 1))) (s (b 2 (se [fa 47 3 9,uu 48 1 47,m 49 11,ia 50 1 48 49,tt 51 1 50,m 52 9,ca 53 28 [51,52],fa 54 3 4,fa 55 54 1,uu 56 1 55,fa 57 3 0,fa 58 57 2,uu 59 1 58,ca 60 18 [53,56,59],m 12 60] (rl [44] 47 14) (sd [m 61 10,m 62 61,g 63 62 false (.l8 3 0),g 64 62 false (.ld true 4 63),g 65 62 false (.o9 12),g 66 62 false (.call 14 [64,65]),g 67 62 false (.un .not 66),pk 68 62 kt 67,m 10 68] (ra 61 8) (d [m 69 9,fa 70 3 0,tt 71 4 70,m 72 12,ca 73 17 [71,72],o 74 (.b8 74 1 [73]),o 75 (.app 75 1 8 69 74),m 9 75] (rl [12] 69 7))))) (d [m 45 11,ad 46 45 k1,m 11 46] [45,46])))
def PR:AFn:=⟨3,(sd [bx 3 0,mv 6 (.c .nil),mv 7 kf,mv 8 k0] [0,6,7,8] (s (b 0 (sd [tt 14 12 3,ca 15 27 [14],nt 16 15,m 13 16] [14,15,16] (i 13 (sd [mv 6 (.c .nil),mv 7 kf,mv 8 (k 2)] [1,2,3,13] .ret) (sd [m 18 1,ln 19 18,fa 20 3 8,uu 21 1 20,bi 22 .neq 19 21,m 17 22] (rl [13] 18 5) (i 17 (sd [mv 6 (.c .nil),mv 7 kf,mv 8 k1] [1,2,3,17] .ret) (sd [fa 24 3 0,tt 25 4 24,m 26 1,ca 27 19 [25,26],nt 28 27,m 29 28,g 30 29 false (.l8 3 0),g 31 29 false (.ld true 4 30),g 32 29 false (.o9 2),g 33 29 false (.call 14 [31,32]),g 34 29 false (.un .not 33),pk 35 29 kt 34,m 23 35] (rl [17] 24 12) (i 23 (sd [mv 6 (.c .nil),mv 7 kf,mv 8 (k 17)] [1,2,3,23] .ret) .skip))))))) (sd [m 36 2,o 37 (.b8 37 1 [36]),m 38 1,o 39 (.app 39 1 8 37 38),m 9 39] (rl [1,2,23] 36 4) (sp [mv 10 kf] (s (sp [mv 11 k0] (b 1 (w PR.l1))) (sd [m 76 9,m 77 10,m 6 76,m 7 77,mv 8 k0] [3,9,10,11,44,76,77] .ret)))))),[.tmp 6,.tmp 7,.tmp 8],false⟩
def PP.l1:=(s (sd [m 26 14,fa 27 3 8,uu 28 1 27,ls 29 26 28] [26,27,28] (i 29 .skip (x 0))) (s (b 1 (d [m 32 13,m 33 10,fa 34 3 10,uu 35 1 34,m 36 14,ia 37 1 35 36,uu 38 1 37,ia 39 1 33 38,uu 40 1 39,o 41 (.b8 41 1 [40]),o 42 (.app 42 1 8 32 41),m 13 42] (rl [29] 32 11))) (d [m 30 14,ad 31 30 k1,m 14 31] [30,31])))
def PP:AFn:=⟨3,(sd [bx 3 0,mv 6 (.c .nil),mv 7 k0,mv 8 kf,mv 9 k0] [0,6,7,8,9] (sd [tt 16 12 3,m 17 1,m 18 2,ca 19 29 [16,17,18],m 15 19,et 20 15 0,et 21 15 1,et 22 15 2,m 10 20,m 11 21,m 12 22] (rl [1,2] 15 8) (s (sd [m 23 12,bi 24 .neq 23 k0] [23] (i 24 (sd [m 25 12,mv 6 (.c .nil),mv 7 k0,mv 8 kf,m 9 25] [3,10,11,12,24,25] .ret) .skip)) (sd [o 13 (.z8 13 1)] [12,24] (s (sp [mv 14 k0] (b 0 (w PP.l1))) (se [m 43 13,m 44 10,fa 45 3 11,uu 46 1 45,ia 47 1 44 46,uu 48 1 47,m 49 11,m 6 43,m 7 48,m 8 49,mv 9 k0] (rl [3,10,11,13,14,29] 43 7) .ret)))))),[.tmp 6,.tmp 7,.tmp 8,.tmp 9],false⟩
structure k7(L:Lib):Prop extends a8 L where
 K3:L 21=some F.K3
 MY:L 22=some F.MY
 MX:L 23=some F.MX
 S5:L 24=some F.S5
 OY:L 25=some F.OY
 S4:L 26=some F.S4
 K9:L 27=some F.K9
 PT:L 28=some F.PT
 PR:L 29=some F.PR
 PP:L 30=some F.PP
def U1:AFn:=⟨2,(sd [mv 4 k0] [4] (s (sd [m 5 1,ls 6 5 k1] [5] (i 6 (sd [mv 4 k0] [0,1,6] .ret) .skip)) (sd [m 7 0,m 8 1,bi 9 .rem 7 8,m 0 9] (ra 6 4) (s (sd [m 10 0,ls 11 10 k0] [10] (i 11 (d [m 12 0,m 13 1,ad 14 12 13,m 0 14] (rl [1] 11 4)) .skip)) (sd [m 15 0,m 4 15] [0,1,11,15] .ret))))),[.tmp 4],false⟩
def UY:AFn:=⟨2,(sd [mv 4 k0] [4] (s (sd [m 5 1,bi 6 .geq 5 k0,m 7 6,g 8 7 true (.o9 1),g 9 7 true (.o9 0),g 10 7 true (.len 9),g 11 7 true (.bin .lss 8 10),pk 12 7 11 kf] (ra 5 7) (i 12 (sd [m 13 0,m 14 1,ia 15 1 13 14,uu 16 1 15,m 4 16] (rl [0,1] 12 5) .ret) .skip)) (sd [mv 4 k0] [0,1,12] .ret))),[.tmp 4],false⟩
def U2:AFn:=⟨4,(sp [al 8 [z,z,z,z]] (sd [m 10 0,ca 11 34 [10,(k 1099511627776)],m 0 11] [10,11] (sd [m 12 1,m 13 0,m 14 2,m 15 1,sb 16 14 15,ad 17 16 k1,bi 18 .rem 13 17,ad 19 12 18,o 20 (.build [z,z,z,z] [(0,1,19)]),al 9 [z,z,z,z],so 4 9 20] (ra 12 9) (sd [m 21 0,m 22 2,m 23 1,sb 24 22 23,ad 25 24 k1,bi 26 .quo 21 25,m 0 26] (rl [1,2] 21 6) (sd [fa 27 9 0,uu 28 1 27,sb 29 28 k1,m 30 3,sb 31 29 30,m 32 0,bi 33 .rem 32 (k 2),sb 34 31 33,fa 35 9 1,so 1 35 34] (rl [3] 27 9) (sd [m 36 0,bi 37 .quo 36 (k 2),m 0 37] [36,37] (sd [fa 38 9 1,uu 39 1 38,o 40 (.mm true [39,k0]),fa 41 9 1,so 1 41 40] (ra 38 4) (sd [m 42 0,bi 43 .rem 42 (k 3),ad 44 k1 43,m 45 0,bi 46 .quo 45 (k 3),bi 47 .rem 46 (k 2),ad 48 k1 47,fa 49 9 2,so 1 49 44,fa 50 9 3,so 1 50 48] (rl [0] 42 9) (sd [tt 51 4 9,so 4 8 51] [9,51] .ret))))))))),[.cell 8 true 4],false⟩
def U0:AFn:=⟨1,(sp [al 2 [z,z,z,z]] (sd [m 3 0,ca 4 36 [3,(k 6),(k 12),(k 2)],so 4 2 4] [0,3,4] .ret)),[.cell 2 true 4],false⟩
def UZ:AFn:=⟨1,(sp [al 2 [z,z,z,z]] (sd [m 3 0,ca 4 36 [3,(k 6),(k 9),k1],so 4 2 4] [0,3,4] .ret)),[.cell 2 true 4],false⟩
def QC.l1:=(s (sd [m 9 8,m 10 2,ls 11 9 10] [9,10] (i 11 .skip (x 0))) (s (b 1 (e [m 14 7,tt 15 4 3,ca 16 12 [15],m 17 1,m 18 8,ca 19 35 [17,18],tt 20 4 3,ca 21 12 [20],sb 22 19 21,tt 23 4 3,ca 24 13 [23],tt 25 4 3,ca 26 12 [25],sb 27 24 26,ad 28 27 k1,ca 29 34 [22,28],ad 30 16 29,o 31 (.b8 31 1 [30]),o 32 (.app 32 1 8 14 31),m 7 32] (rl [11] 14 19))) (d [m 12 8,ad 13 12 k1,m 8 13] [12,13])))
def QC:AFn:=⟨3,(sd [bx 3 0,mv 6 (.c .nil)] [0,6] (sp [o 7 (.z8 7 1)] (s (sp [mv 8 k0] (b 0 (w QC.l1))) (sd [m 33 7,m 6 33] [1,2,3,7,8,11,33] .ret)))),[.tmp 6],false⟩
structure w9(L:Lib):Prop extends a8 L where
 U1:L 34=some F.U1
 UY:L 35=some F.UY
 U2:L 36=some F.U2
 U0:L 37=some F.U0
 UZ:L 38=some F.UZ
 QC:L 39=some F.QC
def LI.l2:=(s (sd [m 37 7,fa 38 1 3,uu 39 1 38,m 40 5,ia 41 2 39 40,fa 42 41 0,uu 43 1 42,ln 44 43,ls 45 37 44,m 46 45,g 47 46 true (.o9 7),g 48 46 true (.bin .lss 47 (k 4)),pk 49 46 48 kf] (ra 37 12) (i 49 .skip (x 2))) (s (b 3 (se [fa 52 1 3,q 53 [8] (.ld false 1 52),m 54 5,ia 55 2 53 54,fa 56 55 0,q 57 [8] (.ld false 1 56),m 58 7,ia 59 1 57 58,q 60 [8] (.ld false 1 59),fa 61 3 8,q 62 [8] (.ld false 1 61),ad 63 k1 62,m 64 5,ad 65 63 64,q 66 [8] (.call 34 [60,65]),fa 67 3 4,q 68 [8] (.ld true 4 67),fa 69 1 3,q 70 [8] (.ld false 1 69),m 71 5,ia 72 2 70 71,fa 73 72 1,q 74 [8] (.ld false 1 73),m 75 7,ad 76 75 k1,q 77 [8] (.call 39 [68,74,76]),m 78 7,ia 79 1 77 78,q 80 [8] (.ld false 1 79),o 81 (.build [z,z] [(0,1,66),(1,1,80)]),al 8 [z,z],so 2 8 81] (rl [49] 52 30) (s (sd [fa 82 1 6,uu 83 1 82] [82] (i 83 (d [m 84 4,fa 85 1 3,uu 86 1 85,m 87 5,ia 88 2 86 87,fa 89 88 1,uu 90 1 89,m 91 7,ca 92 35 [90,91],ca 93 34 [92,(k 3)],sb 94 93 k1,bi 95 .mul 84 94,fa 96 8 1,so 1 96 95] (ra 83 14)) .skip)) (d [fa 97 6 0,uu 98 1 97,tt 99 2 8,o 100 (.b8 100 2 [99]),o 101 (.app 101 2 16 98 100),fa 102 6 0,so 1 102 101] (rl [8,83] 97 6))))) (d [m 50 7,ad 51 50 k1,m 7 51] [50,51])))
def LI.l1:=(s (sd [m 25 5,fa 26 1 3,uu 27 1 26,ln 28 27,ls 29 25 28,m 30 29,g 31 30 true (.o9 5),g 32 30 true (.bin .lss 31 (k 4)),pk 33 30 32 kf] (ra 25 8) (i 33 .skip (x 0))) (s (b 1 (sd [o 36 (.build [.nil] []),al 6 [.nil],so 1 6 36] [33,36] (s (sp [mv 7 k0] (b 2 (w LI.l2))) (d [fa 103 3 9,uu 104 1 103,tt 105 1 6,o 106 (.b8 106 1 [105]),o 107 (.app 107 1 24 104 106),fa 108 3 9,so 1 108 107] (rl [6,7,49] 103 6))))) (d [m 34 5,ad 35 34 k1,m 5 35] [34,35])))
def LI.l3:=(s (sd [m 109 9,fa 110 3 8,uu 111 1 110,ls 112 109 111] [109,110,111] (i 112 .skip (x 4))) (s (b 5 (e [fa 115 3 10,q 116 [129] (.ld false 1 115),fa 117 1 4,uu 118 1 117,m 119 9,ca 120 35 [118,119],fa 121 3 8,uu 122 1 121,ad 123 k1 122,fa 124 3 9,uu 125 1 124,ln 126 125,ad 127 123 126,ca 128 34 [120,127],o 129 (.b8 129 1 [128]),o 130 (.app 130 1 8 116 129),fa 131 3 10,so 1 131 130] (rl [112] 115 17))) (d [m 113 9,ad 114 113 k1,m 9 114] [113,114])))
def LI:AFn:=⟨1,(sd [bx 1 0,al 2 [z,z,z,z,z,z,z,z,z,.nil,.nil,z]] [0] (se [fa 10 1 0,q 11 [3] (.ld false 1 10),q 12 [3] (.call 37 [11]),fa 13 1 1,q 14 [3] (.ld false 1 13),q 15 [3] (.call 38 [14]),fa 16 1 2,q 17 [3] (.ld false 1 16),q 18 [3] (.call 34 [17,(k 4)]),o 19 (.build [z,z,z,z,z,z,z,z,z,.nil,.nil,z] [(0,4,12),(4,4,15),(8,1,18)]),al 3 [z,z,z,z,z,z,z,z,z,.nil,.nil,z],so 12 3 19] (ra 10 10) (sd [fa 20 3 4,fa 21 20 1,uu 22 1 21,cu 23 22,bi 24 .shl k1 23,m 4 24] (ra 20 5) (s (sp [mv 5 k0] (b 0 (w LI.l1))) (s (sd [mv 9 k0] [4,5,33] (b 4 (w LI.l3))) (sd [fa 132 1 5,uu 133 1 132,fa 134 3 8,uu 135 1 134,ad 136 k1 135,fa 137 3 9,uu 138 1 137,ln 139 138,ad 140 136 139,ca 141 34 [133,140],fa 142 3 11,so 1 142 141] (rl [1,9,112] 132 11) (sd [tt 143 12 3,so 12 2 143] [3,143] .ret))))))),[.cell 2 true 12],false⟩
structure gj(L:Lib):Prop extends k7 L,w9 L where
 LI:L 42=some F.LI
def vz:Nat:=45
def QA.l1:=(sp [ls 12 11 10] (s (i 12 .skip (x 0)) (s (b 1 (sd [m 13 11,ia 14 1 9 11,uu 15 1 14,m 5 13,m 6 15] (ra 12 4) (s (sd [m 16 5,m 17 1,ln 18 17,bi 19 .geq 16 18] [16,17,18] (i 19 (sd [mv 4 k1] [0,1,5,6,9,10,11,19] .ret) .skip)) (sd [m 20 1,m 21 5,ia 22 1 20 21,uu 23 1 22,m 7 23] (rl [5] 19 5) (sd [m 24 6,m 25 7,ca 26 60 [24,25],m 8 26] [6,7,24,25,26] (sd [m 27 8,bi 28 .neq 27 k0] [27] (i 28 (sd [m 29 8,m 4 29] [0,1,8,9,10,11,28,29] .ret) .skip))))))) (d [ad 30 11 k1,m 11 30] [8,28,30]))))
def QA:AFn:=⟨2,(sd [mv 4 k0] [4] (s (sp [m 9 0,ln 10 9,mv 11 k0] (b 0 (w QA.l1))) (s (sd [m 31 0,ln 32 31,m 33 1,ln 34 33,ls 35 32 34] (rl [0,1,9,10,11,12] 31 4) (i 35 (sd [mv 4 (k (-1))] [35] .ret) .skip)) (sd [mv 4 k0] [35] .ret)))),[.tmp 4],false⟩
def OO.l1:=(sp [ls 10 9 8] (s (i 10 .skip (x 0)) (s (b 1 (sd [m 11 9,ia 12 1 7 9,uu 13 1 12,m 5 11,m 6 13] (ra 10 4) (sd [m 14 6,m 15 1,m 16 5,ia 17 1 15 16,uu 18 1 17,bi 19 .gtr 14 18,m 20 19,g 21 20 false (.o9 6),g 22 20 false (.o9 1),g 23 20 false (.o9 5),g 24 20 false (.q8 none 1 22 23),g 25 20 false (.ld false 1 24),g 26 20 false (.un .neg 25),g 27 20 false (.bin .lss 21 26),pk 28 20 kt 27] (rl [5,6] 14 14) (i 28 (sd [mv 4 kf] [1,7,8,9,28] .ret) .skip)))) (d [ad 29 9 k1,m 9 29] [28,29]))))
def OO:AFn:=⟨2,(sd [mv 4 kf] [4] (s (sd [m 7 0,ln 8 7,mv 9 k0] [0] (b 0 (w OO.l1))) (sd [mv 4 kt] [1,7,8,9,10] .ret))),[.tmp 4],false⟩
def MQ.l1:=(s (sd [m 9 5,bi 10 .geq 9 k0] [9] (i 10 .skip (x 0))) (s (b 1 (s (se [m 13 0,m 14 5,ia 15 1 13 14,uu 16 1 15,m 17 1,m 18 5,ia 19 1 17 18,uu 20 1 19,ls 21 16 20] (rl [10] 13 8) (i 21 (sd [m 22 0,m 23 5,ia 24 1 22 23,uu 25 1 24,ad 26 25 k1,ia 27 1 22 23,so 1 27 26] (rl [0,1,5] 21 7) (sp [mv 4 kt] .ret)) .skip)) (d [m 28 0,m 29 5,m 30 1,m 31 5,ia 32 1 30 31,uu 33 1 32,o 34 (.un .neg 33),ia 35 1 28 29,so 1 35 34] (rl [21] 28 8)))) (d [m 11 5,sb 12 11 k1,m 5 12] [11,12])))
def MQ:AFn:=⟨2,(sd [mv 4 kf] [4] (s (sd [m 6 0,ln 7 6,sb 8 7 k1,m 5 8] [6,7,8] (b 0 (w MQ.l1))) (sd [mv 4 kf] [0,1,5,10] .ret))),[.tmp 4],false⟩
def MO.l1:=(sp [ls 13 12 11] (s (i 13 .skip (x 0)) (s (b 1 (sd [m 14 12,m 6 14] [13,14] (se [m 15 0,m 16 6,ia 17 1 15 16,uu 18 1 17,m 19 0,m 20 5,ia 21 1 19 20,uu 22 1 21,ca 23 424 [18,22],ls 24 23 k0] (ra 15 9) (i 24 (d [m 25 6,m 5 25] [6,24,25]) .skip)))) (d [ad 26 12 k1,m 12 26] [6,24,26]))))
def MO.l2:=(sp [ls 30 29 28] (s (i 30 .skip (x 2)) (s (b 3 (sd [m 31 29,m 8 31] [30,31] (sd [m 32 5,m 33 8,ad 34 32 33,m 35 0,ln 36 35,bi 37 .rem 34 36,m 9 37] (rl [8] 32 6) (se [fa 38 7 0,q 39 [40,46] (.ld false 1 38),o 40 (.b8 40 1 []),m 41 0,m 42 9,ia 43 1 41 42,q 44 [40] (.ld false 1 43),o 45 (.di 40 1 8 40 44),o 46 (.b8 46 1 [45]),o 47 (.app 47 1 24 39 46),fa 48 7 0,so 1 48 47] (ra 38 11) (e [fa 49 7 1,q 50 [55] (.ld false 1 49),m 51 1,m 52 9,ia 53 1 51 52,uu 54 1 53,o 55 (.b8 55 1 [54]),o 56 (.app 56 1 8 50 55),fa 57 7 1,so 1 57 56] (rl [9] 49 9)))))) (d [ad 58 29 k1,m 29 58] [58]))))
def MO:AFn:=⟨2,(sp [al 4 [.nil,.nil]] (sp [mv 5 k0] (s (sd [m 10 0,ln 11 10,mv 12 k0] [10] (b 0 (w MO.l1))) (sd [al 7 [.nil,.nil]] [11,12,13] (s (sd [m 27 0,ln 28 27,mv 29 k0] [27] (b 2 (w MO.l2))) (sd [tt 59 2 7,so 2 4 59] [0,1,5,7,28,29,30,59] .ret)))))),[.cell 4 true 2],false⟩
def KZ.l1:=(sp [ls 25 24 23] (s (i 25 .skip (x 0)) (s (b 1 (sd [ia 26 1 22 24,uu 27 1 26,m 8 27] [25,26,27] (sd [m 28 8,ls 29 28 k0] [8,28] (i 29 (sd [mv 6 k1] [1,2,3,22,23,24,29] .ret) .skip)))) (d [ad 30 24 k1,m 24 30] [29,30]))))
def KZ.l2:=(sp [ls 39 38 37] (s (i 39 .skip (x 2)) (s (b 3 (sd [ia 40 1 36 38,uu 41 1 40,m 10 41] [39,40,41] (sd [fa 42 3 0,tt 43 4 42,m 44 10,ca 45 5 [43,44],nt 46 45] (rl [10] 42 4) (i 46 (sd [mv 6 (k 17)] [2,3,36,37,38,46] .ret) .skip)))) (d [ad 47 38 k1,m 38 47] [46,47]))))
def KZ.l3:=(sp [ls 51 50 49] (s (i 51 .skip (x 4)) (s (b 5 (sd [ia 52 1 48 50,uu 53 1 52,m 13 53] [51,52,53] (sd [m 54 11,m 55 13,bi 56 .mul (k 2) 55,ad 57 56 k1,bi 58 .mul 54 57,m 11 58] (rl [13] 54 5) (sd [m 59 11,bi 60 .gtr 59 (k 4096)] [59] (i 60 (sd [mv 6 (k 5)] [11,48,49,50,60] .ret) .skip))))) (d [ad 61 50 k1,m 50 61] [60,61]))))
def KZ:AFn:=⟨3,(sd [bx 3 0,mv 6 k0] [0,6] (s (sd [tt 14 12 3,ca 15 21 [14],nt 16 15] [14,15] (i 16 (sd [mv 6 (k 2)] [1,2,3,16] .ret) .skip)) (s (sd [m 17 2,ln 18 17,fa 19 3 8,uu 20 1 19,bi 21 .neq 18 20] (ra 16 5) (i 21 (sd [mv 6 k1] [1,2,3,21] .ret) .skip)) (s (sd [m 22 2,ln 23 22,mv 24 k0] [21] (b 0 (w KZ.l1))) (s (sd [fa 31 3 0,tt 32 4 31,m 33 1,ca 34 5 [32,33],nt 35 34] (rl [1,22,23,24,25] 31 4) (i 35 (sd [mv 6 (k 17)] [2,3,35] .ret) .skip)) (s (sd [m 36 2,ln 37 36,mv 38 k0] [35] (b 2 (w KZ.l2))) (sd [mv 11 k1] (rl [3] 36 4) (s (sd [m 48 2,ln 49 48,mv 50 k0] [2] (b 4 (w KZ.l3))) (sd [mv 6 k0] (rl [11] 48 4) .ret))))))))),[.tmp 6],false⟩
def MP.l2:=(s (sd [m 49 7,m 50 12,ia 51 1 49 50,uu 52 1 51,m 53 1,ca 54 424 [52,53],bi 55 .neq 54 k0] (ra 49 6) (i 55 .skip (x 2))) (b 3 (d [m 56 12,ad 57 56 k1,m 12 57] [55,56,57])))
def MP.l1:=(s (sd [m 24 1,m 25 0,o 26 (.kx 25),fa 27 26 13,uu 28 1 27,ca 29 425 [24,28]] (ra 24 5) (i 29 .skip (x 0))) (b 1 (sd [m 30 1,ca 31 432 [30],m 9 31] [29,30,31] (s (sd [m 33 0,o 34 (.kx 33),fa 35 34 14,uu 36 1 35,m 37 9,o 38 (.ql 36 37),m 32 38,et 39 32 0,et 40 32 1,m 10 39,m 11 40] (ra 32 9) (sd [m 41 11] [11] (i 41 (s (sd [m 42 10,m 43 0,o 44 (.kx 43),fa 45 44 15,uu 46 1 45,bi 47 .neq 42 46] (rl [0,9,10] 41 6) (i 47 (sd [o 48 (.build [.nil,.nil] []),so 2 4 48,mv 5 kf,mv 6 k0] [1,7,8,47,48] .ret) .skip)) (sd [mv 12 k0] [47] (s (b 2 (w MP.l2)) (se [m 58 7,m 59 12,o 60 (.ik 1 58 (some 59) none),m 61 8,m 62 12,o 63 (.ik 1 61 (some 62) none),ca 64 427 [60,63],so 2 4 64,mv 5 kt,mv 6 k0] (rl [1,7,8,12,55] 58 7) .ret)))) .skip))) (se [m 65 0,o 66 (.kx 65),fa 67 66 14,uu 68 1 67,m 69 9,m 70 0,o 71 (.kx 70),fa 72 71 15,uu 73 1 72,n (.pn 68 69 73)] (rl [9,10,41] 65 9) (se [m 75 0,o 76 (.kx 75),fa 77 76 0,tt 78 12 77,m 79 1,m 80 0,o 81 (.kx 80),fa 82 81 12,uu 83 1 82,ca 84 26 [78,79,83],m 74 84,et 85 74 0,et 86 74 1,et 87 74 2,et 88 74 3,m 13 85,m 14 86,m 15 87,m 16 88] (rl [15] 74 15) (s (sd [m 89 16,bi 90 .neq 89 k0] [89] (i 90 (sd [o 91 (.build [.nil,.nil] []),m 92 16,so 2 4 91,mv 5 kf,m 6 92] [0,1,7,8,13,14,16,90,91,92] .ret) .skip)) (sd [m 93 7,m 94 1,o 95 (.b8 431095 1 [94]),o 96 (.app 431096 1 24 93 95),m 7 96] (rl [1,16,90] 93 4) (sd [m 97 8,m 98 14,o 99 (.b8 431099 1 [98]),o 100 (.app 431100 1 8 97 99),m 8 100] (rl [14] 97 4) (d [m 101 13,m 1 101] [13,101]))))))))))
def MP:AFn:=⟨2,(sd [o 4 (.alloc 431004 [.nil,.nil]),mv 5 kf,mv 6 k0] [5,6] (sd [m 17 0,o 18 (.kx 17),fa 19 18 15,uu 20 1 19,ad 21 20 k1,o 22 (.kx 17),fa 23 22 15,so 1 23 21] (ra 17 7) (sp [o 7 (.z8 431007 1)] (sp [o 8 (.z8 431008 1)] (s (b 0 (w MP.l1)) (sd [o 102 (.build [.nil,.nil] []),so 2 4 102,mv 5 kf,mv 6 k0] [0,1,7,8,29,102] .ret)))))),[.cell 4 true 2,.tmp 5,.tmp 6],false⟩
def KY.l1:=(sp [ls 36 35 34] (s (i 36 .skip (x 0)) (s (b 1 (sd [m 37 35,ia 38 1 33 35,uu 39 1 38,m 11 37,m 12 39] (ra 36 4) (d [m 40 10,m 41 11,m 42 12,o 43 (.un .neg 42),ia 44 1 40 41,so 1 44 43] (rl [11,12] 40 5)))) (d [ad 45 35 k1,m 35 45] [45]))))
def KY.l2:=(s (sd [m 46 14] [14] (i 46 .skip (x 2))) (s (b 3 (sd [o 51 (.b8 51 1 []),m 52 10,o 53 (.nf 1 8 51 52),o 54 (.j5 431 [9,53]),m 50 54,et 55 50 0,et 56 50 1,et 57 50 2,al 15 [.nil,.nil],so 2 15 55,m 16 56,m 17 57] (rl [46] 50 8) (s (sd [m 58 17,bi 59 .neq 58 k0] [58] (i 59 (sd [m 60 17,mv 6 (.c .nil),m 7 60] [2,9,10,13,15,16,17,59,60] .ret) .skip)) (sd [m 61 16] [16,17,59] (i 61 (d [m 62 13,tt 63 2 15,o 64 (.b8 64 2 [63]),o 65 (.app 65 2 48 62 64),m 13 65] (rl [15] 61 5)) .skip))))) (d [m 47 10,m 48 2,o 49 (.j5 426 [47,48]),m 14 49] [15,47,48,49,61])))
def KY:AFn:=⟨3,(sd [bx 3 0,mv 6 (.c .nil),mv 7 k0] [0,6,7] (s (sd [tt 18 12 3,m 19 1,m 20 2,ca 21 428 [18,19,20],m 8 21] (ra 18 4) (sd [m 22 8,bi 23 .neq 22 k0] [22] (i 23 (sd [m 24 8,mv 6 (.c .nil),m 7 24] [1,2,3,8,23,24] .ret) .skip))) (sd [tt 25 12 3,m 26 1,m 27 2,o 28 (.pj 960028),o 29 (.build [z,z,z,z,z,z,z,z,z,.nil,.nil,z,z,.nil,(.x7 (.map none)),z] [(0,12,25),(12,1,26),(13,1,27),(14,1,28)]),al 9 [z,z,z,z,z,z,z,z,z,.nil,.nil,z,z,.nil,(.x7 (.map none)),z],so 16 9 29] (rl [1,3,8,23] 25 5) (sd [m 30 2,ln 31 30,o 32 (.mk 32 1 8 [z] 31 31),m 10 32] [30,31,32] (s (sp [m 33 2,ln 34 33,mv 35 k0] (b 0 (w KY.l1))) (sd [o 13 (.z8 13 2)] (ra 33 4) (s (sp [mv 14 kt] (b 2 (w KY.l2))) (sd [m 66 13,o 67 (.fe 434 435 2 66 (.c (.fn true 435 vz [])))] [2,9,10,46,66,67] (sd [m 68 13,m 6 68,mv 7 k0] [13,68] .ret))))))))),[.tmp 6,.tmp 7],false⟩
def SU:AFn:=⟨2,(sd [bx 2 0,bx 3 1,mv 4 k0] [0,1,4] (se [fa 5 2 0,uu 6 1 5,ia 7 1 6 k0,uu 8 1 7,fa 9 3 0,uu 10 1 9,ia 11 1 10 k0,uu 12 1 11,ca 13 424 [8,12],m 4 13] (rl [2,3] 5 9) .ret)),[.tmp 4],false⟩
def MM.l1:=(sp [ls 26 25 (k 4097)] (s (i 26 .skip (x 0)) (s (b 1 (sd [m 27 25,m 13 27] [26,27] (sd [tt 29 12 3,m 30 12,m 31 2,ca 32 26 [29,30,31],m 28 32,et 33 28 0,et 34 28 1,et 35 28 2,et 36 28 3,m 14 33,m 15 34,m 16 35,m 17 36] (rl [16] 28 9) (s (sd [m 37 17,bi 38 .neq 37 k0] [37] (i 38 (sd [o 39 (.build [.nil,.nil] []),m 40 17,so 2 6 39,mv 7 k0,m 8 40] [2,3,9,10,11,12,13,14,15,17,25,38,39,40] .ret) .skip)) (sd [m 41 12,ca 42 432 [41],m 18 42] [17,38,41,42] (s (sd [m 44 9,m 45 18,o 46 (.ql 44 45),m 43 46,et 47 43 0,et 48 43 1,m 19 47,m 20 48] (ra 43 6) (sd [m 49 20] [20] (i 49 (se [m 50 10,m 51 19,o 52 (.ik 1 50 (some 51) none),m 53 11,m 54 19,o 55 (.ik 1 53 (some 54) none),ca 56 427 [52,55],m 57 19,so 2 6 56,m 7 57,mv 8 k0] (rl [2,3,9,10,11,12,13,14,15,18,19,25] 49 9) .ret) .skip))) (sd [m 58 9,m 59 18,m 60 13,n (.pn 58 59 60)] [13,18,19,49,58,59,60] (sd [m 61 10,m 62 12,o 63 (.b8 63 1 [62]),o 64 (.app 64 1 24 61 63),m 10 64] (rl [12] 61 4) (sd [m 65 11,m 66 15,o 67 (.b8 67 1 [66]),o 68 (.app 68 1 8 65 67),m 11 68] (rl [15] 65 4) (d [m 69 14,m 12 69] [14,69])))))))))) (d [ad 70 25 k1,m 25 70] [70]))))
def MM:AFn:=⟨3,(sd [bx 3 0,al 6 [.nil,.nil],mv 7 k0,mv 8 k0] [0,7,8] (sd [o 21 (.pj 960021),m 9 21] [21] (sp [o 10 (.z8 10 1)] (sp [o 11 (.z8 11 1)] (sd [o 22 (.b8 22 1 []),m 23 1,o 24 (.nf 1 8 22 23),m 12 24] [1,22,23,24] (s (sp [mv 25 k0] (b 0 (w MM.l1))) (sd [o 71 (.build [.nil,.nil] []),so 2 6 71,mv 7 k0,mv 8 (k 16)] [2,3,9,10,11,12,25,26,71] .ret))))))),[.cell 6 true 2,.tmp 7,.tmp 8],false⟩
def P1.l1:=(s (sd [m 6 5,m 7 0,ln 8 7,ls 9 6 8] [6,7,8] (i 9 .skip (x 0))) (s (b 1 (se [m 12 0,m 13 5,ia 14 1 12 13,uu 15 1 14,m 16 1,m 17 5,ia 18 1 16 17,uu 19 1 18,bi 20 .neq 15 19] (rl [9] 12 8) (i 20 (se [m 21 0,m 22 5,ia 23 1 21 22,uu 24 1 23,m 25 1,m 26 5,ia 27 1 25 26,uu 28 1 27,ls 29 24 28,m 4 29] (rl [0,1,5] 20 10) .ret) .skip))) (d [m 10 5,ad 11 10 k1,m 5 11] [10,11,20])))
def P1:AFn:=⟨2,(sd [mv 4 kf] [4] (s (sp [mv 5 k0] (b 0 (w P1.l1))) (sd [mv 4 kf] [0,1,5,9] .ret))),[.tmp 4],false⟩
structure q6(L:Lib):Prop extends c6 L,k7 L,gj L,w9 L where
 QA:L 424=some F.QA
 OO:L 425=some F.OO
 MQ:L 426=some F.MQ
 MO:L 427=some F.MO
 KZ:L 428=some F.KZ
 MP:L 431=some F.MP
 KY:L 433=some F.KY
 SU:L 435=some F.SU
 MM:L 436=some F.MM
 P1:L 429=some F.P1
def ST:AFn:=⟨0,(sd [mv 0 kf] [0] (sd [o 5 (.build [z,z,z,z] [(0,1,(k 6)),(1,1,k0),(2,1,k1),(3,1,k1)]),al 1 [z,z,z,z],so 4 1 5] [5] (sd [tt 6 4 1,tt 7 4 1,o 8 (.build [z,z] [(0,1,k1),(1,1,(k (-1)))]),o 9 (.b8 9 2 [8]),o 10 (.build [.nil] [(0,1,9)]),o 11 (.b8 11 1 [10]),o 12 (.b8 12 1 [(k 2)]),o 13 (.build [z,z,z,z,z,z,z,z,z,.nil,.nil,z] [(0,4,6),(4,4,7),(8,1,k1),(9,1,11),(10,1,12),(11,1,(k 2))]),al 2 [z,z,z,z,z,z,z,z,z,.nil,.nil,z],so 12 2 13] (rl [1] 6 8) (sd [tt 15 12 2,o 16 (.b8 16 1 [k1]),ca 17 433 [15,k0,16],m 14 17,et 18 14 0,et 19 14 1,m 3 18,m 4 19] (rl [2] 14 6) (sd [m 20 4,bi 21 .eql 20 k0,m 22 21,g 23 22 true (.o9 3),g 24 22 true (.len 23),g 25 22 true (.bin .eql 24 (k 2)),pk 26 22 25 kf,m 27 26,g 28 27 true (.o9 3),g 29 27 true (.q8 none 2 28 k0),g 30 27 true (.l8 29 0),g 31 27 true (.ld false 1 30),g 32 27 true (.len 31),g 33 27 true (.bin .eql 32 (k 2)),pk 34 27 33 kf,m 35 34,g 36 35 true (.o9 3),g 37 35 true (.q8 none 2 36 k1),g 38 35 true (.l8 37 0),g 39 35 true (.ld false 1 38),g 40 35 true (.len 39),g 41 35 true (.bin .eql 40 k1),pk 42 35 41 kf,m 43 42,g 44 43 true (.o9 3),g 45 43 true (.q8 none 2 44 k0),g 46 43 true (.l8 45 0),g 47 43 true (.ld false 1 46),g 48 43 true (.q8 none 1 47 k0),g 49 43 true (.ld false 1 48),g 50 43 true (.b8 50 1 [(k (-1))]),g 51 43 true (.call 20 [49,50]),pk 52 43 51 kf,m 53 52,g 54 53 true (.o9 3),g 55 53 true (.q8 none 2 54 k0),g 56 53 true (.l8 55 1),g 57 53 true (.ld false 1 56),g 58 53 true (.b8 58 1 [k1,(k (-1))]),g 59 53 true (.call 20 [57,58]),pk 60 53 59 kf,m 0 60] (rl [3,4] 20 41) .ret))))),[.tmp 0],false⟩
structure dh(L:Lib):Prop extends q6 L where
 ST:L 437=some F.ST
def P5.l1:=(s (sd [m 6 5,m 7 0,ln 8 7,ls 9 6 8] [6,7,8] (i 9 .skip (x 0))) (s (b 1 (se [m 12 0,m 13 5,ia 14 1 12 13,uu 15 1 14,m 16 1,m 17 5,ia 18 1 16 17,uu 19 1 18,bi 20 .gtr 15 19,m 21 20,g 22 21 false (.o9 0),g 23 21 false (.o9 5),g 24 21 false (.q8 none 1 22 23),g 25 21 false (.ld false 1 24),g 26 21 false (.o9 1),g 27 21 false (.o9 5),g 28 21 false (.q8 none 1 26 27),g 29 21 false (.ld false 1 28),g 30 21 false (.un .neg 29),g 31 21 false (.bin .lss 25 30),pk 32 21 kt 31] (rl [9] 12 20) (i 32 (sd [mv 4 kf] [0,1,5,32] .ret) .skip))) (d [m 10 5,ad 11 10 k1,m 5 11] [10,11,32])))
def P5:AFn:=⟨2,(sd [mv 4 kf] [4] (s (sp [mv 5 k0] (b 0 (w P5.l1))) (sd [mv 4 kt] [0,1,5,9] .ret))),[.tmp 4],false⟩
def P2.l1:=(s (sd [m 5 4,m 6 0,ln 7 6,ls 8 5 7] [5,6,7] (i 8 .skip (x 0))) (s (b 1 (sd [m 11 3,m 12 0,m 13 4,ia 14 1 12 13,uu 15 1 14,bi 16 .mul (k 2) 15,ad 17 16 k1,bi 18 .mul 11 17,m 3 18] (rl [8] 11 8) (sd [m 19 3,bi 20 .gtr 19 (k 4096)] [19] (i 20 (sd [mv 2 (k 4097)] [0,3,4,20] .ret) .skip)))) (d [m 9 4,ad 10 9 k1,m 4 10] [9,10,20])))
def P2:AFn:=⟨1,(sd [mv 2 k0] [2] (sp [mv 3 k1] (s (sp [mv 4 k0] (b 0 (w P2.l1))) (sd [m 21 3,m 2 21] [0,3,4,8,21] .ret)))),[.tmp 2],false⟩
def P6.l1:=(s (sd [m 13 6,bi 14 .geq 13 k0] [13] (i 14 .skip (x 0))) (s (b 1 (se [m 17 5,m 18 6,m 19 0,m 20 1,m 21 6,ia 22 1 20 21,uu 23 1 22,bi 24 .mul (k 2) 23,ad 25 24 k1,bi 26 .rem 19 25,m 27 1,m 28 6,ia 29 1 27 28,uu 30 1 29,sb 31 26 30,ia 32 1 17 18,so 1 32 31] (rl [14] 17 16) (d [m 33 0,m 34 1,m 35 6,ia 36 1 34 35,uu 37 1 36,bi 38 .mul (k 2) 37,ad 39 38 k1,bi 40 .quo 33 39,m 0 40] (ra 33 8)))) (d [m 15 6,sb 16 15 k1,m 6 16] [15,16])))
def P6:AFn:=⟨2,(sd [mv 4 (.c .nil)] [4] (sd [m 7 1,ln 8 7,o 9 (.mk 9 1 8 [z] 8 8),m 5 9] [7,8,9] (s (sd [m 10 1,ln 11 10,sb 12 11 k1,m 6 12] [10,11,12] (b 0 (w P6.l1))) (sd [m 41 5,m 4 41] [0,1,5,6,14,41] .ret)))),[.tmp 4],false⟩
def P4.l1:=(s (sd [m 7 6,m 8 1,ln 9 8,ls 10 7 9] [7,8,9] (i 10 .skip (x 0))) (s (b 1 (e [m 13 5,m 14 1,m 15 6,ia 16 1 14 15,uu 17 1 16,bi 18 .mul (k 2) 17,ad 19 18 k1,bi 20 .mul 13 19,m 21 0,m 22 6,ia 23 1 21 22,uu 24 1 23,ad 25 20 24,m 26 1,m 27 6,ia 28 1 26 27,uu 29 1 28,ad 30 25 29,m 5 30] (rl [10] 13 18))) (d [m 11 6,ad 12 11 k1,m 6 12] [11,12])))
def P4:AFn:=⟨2,(sd [mv 4 k0] [4] (sp [mv 5 k0] (s (sp [mv 6 k0] (b 0 (w P4.l1))) (sd [m 31 5,m 4 31] [0,1,5,6,10,31] .ret)))),[.tmp 4],false⟩
def P3.l1:=(s (sd [fa 15 7 0,uu 16 1 15,ln 17 16,bi 18 .eql 17 k0,m 19 18,g 20 19 false (.o9 8),g 21 19 false (.o9 2),g 22 19 false (.call 20 [20,21]),g 23 19 false (.un .not 22),pk 24 19 kt 23] (ra 15 9) (i 24 .skip (x 0))) (b 1 (sd [tt 26 12 3,m 27 8,m 28 1,ca 29 30 [26,27,28],m 25 29,et 30 25 0,et 31 25 1,et 32 25 2,et 33 25 3,m 9 30,m 10 31,m 11 32,m 12 33] (rl [11,12] 24 10) (se [fa 34 7 0,uu 35 1 34,m 36 8,o 37 (.lit 1 [36]),o 38 (.di 38 1 24 35 37),fa 39 7 1,q 40 [38] (.ld false 1 39),m 41 10,o 42 (.lit 1 [41]),o 43 (.app 43 1 8 40 42),fa 44 7 0,so 1 44 38,fa 45 7 1,so 1 45 43] (rl [8,10] 34 12) (d [m 46 9,m 8 46] [9,46])))))
def P3:AFn:=⟨3,(sd [bx 3 0,al 6 [.nil,.nil]] [0] (sd [o 13 (.build [.nil,.nil] []),al 7 [.nil,.nil],so 2 7 13] [13] (sd [m 14 2,m 8 14] [14] (s (b 0 (w P3.l1)) (sd [tt 47 2 7,so 2 6 47] [1,2,3,7,8,24,47] .ret))))),[.cell 6 true 2],false⟩
def GH.l1:=(s (sd [m 32 8,m 33 2,ln 34 33,ls 35 32 34] [32,33,34] (i 35 .skip (x 0))) (s (b 1 (sd [m 38 2,m 39 8,ia 40 1 38 39,uu 41 1 40,ls 42 41 k0] (rl [35] 38 4) (i 42 (sd [mv 6 (.c .nil),mv 7 k1] [1,2,3,8,42] .ret) .skip))) (d [m 36 8,ad 37 36 k1,m 8 37] [36,37,42])))
def GH.l2:=(s (sd [m 59 11,m 60 9,ls 61 59 60] [59,60] (i 61 .skip (x 2))) (s (b 3 (se [tt 65 12 3,m 66 11,m 67 2,ca 68 444 [66,67],m 69 1,ca 70 30 [65,68,69],m 64 70,et 71 64 0,et 72 64 1,et 73 64 2,et 74 64 3,m 12 71,m 13 72,m 14 73,m 15 74] (rl [13,14,15,61] 64 11) (sd [m 75 12,m 76 2,ca 77 442 [75,76]] [75,76] (i 77 (d [m 78 10,m 79 12,m 80 2,ca 81 445 [79,80],o 82 (.b8 82 1 [81]),o 83 (.app 83 1 8 78 82),m 10 83] (rl [12] 77 7)) (d [m 84 10,o 85 (.b8 85 1 [(k (-1))]),o 86 (.app 86 1 8 84 85),m 10 86] [12,77,84,85,86]))))) (d [m 62 11,ad 63 62 k1,m 11 63] [62,63])))
def GH.l4:=(s (sd [m 95 19,bi 96 .geq 95 k0,m 97 96,g 98 97 true (.o9 17),g 99 97 true (.o9 19),g 100 97 true (.q8 none 1 98 99),g 101 97 true (.ld false 1 100),g 102 97 true (.bin .eql 101 k0),pk 103 97 102 kf] (ra 95 8) (i 103 .skip (x 6))) (b 7 (sd [m 104 17,m 105 19,m 106 18,ad 107 106 k1,ia 108 1 104 105,so 1 108 107] (ra 103 6) (d [m 109 10,m 110 19,ia 111 1 109 110,uu 112 1 111,m 19 112] (ra 109 4)))))
def GH.l5:=(s (sd [m 129 21,m 130 19,bi 131 .neq 129 130] [129,130] (i 131 .skip (x 8))) (s (b 9 (d [m 136 20,m 137 21,o 138 (.mm false [136,137]),m 20 138] [131,136,137,138])) (d [m 132 10,m 133 21,ia 134 1 132 133,uu 135 1 134,m 21 135] (ra 132 4))))
def GH.l3:=(s (sd [m 89 18,m 90 9,ls 91 89 90] [89,90] (i 91 .skip (x 4))) (s (b 5 (sd [m 94 18,m 19 94] [91,94] (s (b 6 (w GH.l4)) (s (sd [m 113 19,ls 114 113 k0,m 115 114,g 116 115 false (.o9 17),g 117 115 false (.o9 19),g 118 115 false (.q8 none 1 116 117),g 119 115 false (.ld false 1 118),g 120 115 false (.o9 18),g 121 115 false (.bin .add 120 k1),g 122 115 false (.bin .neq 119 121),pk 123 115 kt 122] (rl [103] 113 10) (i 123 (x 5) .skip)) (sd [m 124 19,m 20 124] [123,124] (s (sd [m 125 10,m 126 19,ia 127 1 125 126,uu 128 1 127,m 21 128] (ra 125 4) (b 8 (w GH.l5))) (e [m 139 16,tt 140 12 3,m 141 1,m 142 20,m 143 2,ca 144 444 [142,143],ca 145 446 [140,141,144],o 146 (.b8 146 2 [145]),o 147 (.app 147 2 48 139 146),m 16 147] (rl [19,20,21,131] 139 9)))))))) (d [m 92 18,ad 93 92 k1,m 18 93] [19,92,93,123])))
def GH.l7:=(s (se [m 155 23,bi 156 .gtr 155 k0,m 157 156,g 158 157 true (.o9 16),g 159 157 true (.o9 23),g 160 157 true (.q8 none 2 158 159),g 161 157 true (.l8 160 0),g 162 157 true (.ld false 1 161),g 163 157 true (.q8 none 1 162 k0),g 164 157 true (.ld false 1 163),g 165 157 true (.o9 16),g 166 157 true (.o9 23),g 167 157 true (.bin .sub 166 k1),g 168 157 true (.q8 none 2 165 167),g 169 157 true (.l8 168 0),g 170 157 true (.ld false 1 169),g 171 157 true (.q8 none 1 170 k0),g 172 157 true (.ld false 1 171),g 173 157 true (.call 429 [164,172]),pk 174 157 173 kf] (ra 155 19) (i 174 .skip (x 12))) (s (b 13 (e [m 177 16,m 178 23,m 179 16,m 180 23,sb 181 180 k1,m 182 16,m 183 23,sb 184 183 k1,ia 185 2 182 184,tt 186 2 185,m 187 16,m 188 23,ia 189 2 187 188,tt 190 2 189,ia 191 2 177 178,so 2 191 186,ia 192 2 179 181,so 2 192 190] (rl [174] 177 16))) (d [m 175 23,sb 176 175 k1,m 23 176] [175,176])))
def GH.l6:=(s (sd [m 148 22,m 149 16,ln 150 149,ls 151 148 150] [148,149,150] (i 151 .skip (x 10))) (s (b 11 (sd [m 154 22,m 23 154] [151,154] (b 12 (w GH.l7)))) (d [m 152 22,ad 153 152 k1,m 22 153] [23,152,153,174])))
def GH:AFn:=⟨3,(sd [bx 3 0,mv 6 (.c .nil),mv 7 k0] [0,6,7] (s (sd [tt 24 12 3,ca 25 27 [24],nt 26 25] [24,25] (i 26 (sd [mv 6 (.c .nil),mv 7 (k 2)] [1,2,3,26] .ret) .skip)) (s (sd [m 27 2,ln 28 27,fa 29 3 8,uu 30 1 29,bi 31 .neq 28 30] (ra 26 5) (i 31 (sd [mv 6 (.c .nil),mv 7 k1] [1,2,3,31] .ret) .skip)) (s (sd [mv 8 k0] [31] (b 0 (w GH.l1))) (s (sd [fa 43 3 0,tt 44 4 43,m 45 1,ca 46 14 [44,45],nt 47 46,m 48 47,g 49 48 false (.l8 3 0),g 50 48 false (.ld true 4 49),g 51 48 false (.o9 2),g 52 48 false (.call 19 [50,51]),g 53 48 false (.un .not 52),pk 54 48 kt 53] (rl [8,35] 43 11) (i 54 (sd [mv 6 (.c .nil),mv 7 (k 17)] [1,2,3,54] .ret) .skip)) (sd [m 55 2,ca 56 443 [55],m 9 56] [54,55,56] (s (sd [m 57 9,bi 58 .gtr 57 (k 4096)] [57] (i 58 (sd [mv 6 (.c .nil),mv 7 (k 5)] [1,2,3,9,58] .ret) .skip)) (sd [o 10 (.z8 10 1)] [58] (s (sp [mv 11 k0] (b 2 (w GH.l2))) (sd [o 16 (.z8 16 2)] [11,61] (sd [m 87 9,o 88 (.mk 88 1 8 [z] 87 87),m 17 88] [87,88] (s (sp [mv 18 k0] (b 4 (w GH.l3))) (s (sd [mv 22 k0] [1,2,3,9,10,17,18,91] (b 10 (w GH.l6))) (sd [m 193 16,m 6 193,mv 7 k0] [16,22,151,193] .ret)))))))))))))),[.tmp 6,.tmp 7],false⟩
def JR.l3:=(s (sd [m 70 20,m 71 13,ln 72 71,ls 73 70 72] [70,71,72] (i 73 .skip (x 4))) (s (b 5 (sd [m 76 13,m 77 20,ia 78 1 76 77,uu 79 1 78,m 80 19,ca 81 429 [79,80]] (rl [73] 76 5) (i 81 (d [m 82 13,m 83 20,ia 84 1 82 83,uu 85 1 84,m 19 85] (ra 81 5)) .skip))) (d [m 74 20,ad 75 74 k1,m 20 75] [74,75,81])))
def JR.l2:=(s (sd [m 55 18,m 56 13,ln 57 56,ls 58 55 57] [55,56,57] (i 58 .skip (x 2))) (s (b 3 (s (sd [m 61 13,m 62 18,ia 63 1 61 62,uu 64 1 63,m 65 14,ca 66 20 [64,65],nt 67 66] (rl [58] 61 6) (i 67 (x 3) .skip)) (sd [m 68 14,m 19 68] [14,67,68] (s (sd [m 69 18,m 20 69] [69] (b 4 (w JR.l3))) (sd [tt 86 12 3,m 87 2,m 88 19,ca 89 446 [86,87,88],m 90 18,so 2 6 89,m 7 90,mv 8 k0] (rl [2,3,13,18,19,20,73] 86 5) .ret))))) (d [m 59 18,ad 60 59 k1,m 18 60] [59,60,67])))
def JR.l1:=(s (sd [m 38 13,ln 39 38,bi 40 .leq 39 (k 4096)] [38,39] (i 40 .skip (x 0))) (b 1 (se [tt 42 12 3,m 43 13,m 44 13,ln 45 44,sb 46 45 k1,ia 47 1 43 46,uu 48 1 47,m 49 2,ca 50 30 [42,48,49],m 41 50,et 51 41 0,et 52 41 1,et 53 41 2,et 54 41 3,m 14 51,m 15 52,m 16 53,m 17 54] (rl [15,16,17] 40 15) (s (sp [mv 18 k0] (b 2 (w JR.l2))) (d [m 91 13,m 92 14,o 93 (.b8 93 1 [92]),o 94 (.app 94 1 24 91 93),m 13 94] (rl [14,18,58] 91 4))))))
def JR:AFn:=⟨3,(sd [bx 3 0,al 6 [.nil,.nil],mv 7 k0,mv 8 k0] [0,7,8] (s (sd [tt 22 12 3,m 23 1,m 24 2,ca 25 30 [22,23,24],m 21 25,et 26 21 0,et 27 21 1,et 28 21 2,et 29 21 3,m 9 26,m 10 27,m 11 28,m 12 29] (rl [9,10,11] 21 9) (sd [m 30 12,bi 31 .neq 30 k0] [30] (i 31 (sd [o 32 (.build [.nil,.nil] []),m 33 12,so 2 6 32,mv 7 k0,m 8 33] [1,2,3,12,31,32,33] .ret) .skip))) (sd [o 34 (.b8 34 1 []),m 35 1,o 36 (.nf 1 8 34 35),o 37 (.b8 37 1 [36]),m 13 37] (rl [1,12,31] 34 4) (s (b 0 (w JR.l1)) (sd [o 95 (.build [.nil,.nil] []),so 2 6 95,mv 7 k0,mv 8 (k 16)] [2,3,13,40,95] .ret))))),[.cell 6 true 2,.tmp 7,.tmp 8],false⟩
structure w4(L:Lib):Prop extends q6 L where
 P5:L 442=some F.P5
 P2:L 443=some F.P2
 P6:L 444=some F.P6
 P4:L 445=some F.P4
 P3:L 446=some F.P3
 GH:L 447=some F.GH
 JR:L 448=some F.JR
def CH:AFn:=⟨2,(sp [o 4 (.alloc 83004 [(.bool false),.nil])] (sd [m 5 0,m 6 5,g 7 6 true (.o9 1),g 8 6 true (.len 7),g 9 6 true (.bin .gtr 8 k0),pk 10 6 9 kf,m 11 1,o 12 (.build [(.bool false),.nil] [(0,1,10),(1,1,11)]),so 2 4 12] (rl [0,1] 5 8) .ret)),[.cell 4 true 2],false⟩
def SP:AFn:=⟨1,(sd [bx 1 0,al 2 [(.bool false),.nil]] [0] (se [fa 3 1 0,uu 4 1 3,fa 5 1 1,uu 6 1 5,ca 7 66 [6],o 8 (.j5 83 [4,7]),so 2 2 8] (rl [1] 3 6) .ret)),[.cell 2 true 2],false⟩
def SM:AFn:=⟨1,(sp [al 2 [(.bool false),.nil]] (sd [m 4 0,cu 5 4,m 3 5] [4,5] (s (sd [m 6 0,ls 7 6 k0] [6] (i 7 (d [m 8 3,o 9 (.un .neg 8),m 3 9] [7,8,9]) .skip)) (sd [m 10 0,ls 11 10 k0,m 12 3,o 13 (.conv .u32 12),m 14 3,bi 15 .shr 14 (.c (.int .u64 (32))),o 16 (.conv .u32 15),o 17 (.b8 17 1 [13,16]),ca 18 66 [17],o 19 (.j5 83 [11,18]),so 2 2 19] (rl [0,3,7] 10 10) .ret)))),[.cell 2 true 2],false⟩
def SN:AFn:=⟨1,(sd [bx 1 0,mv 2 k0] [0,2] (s (b 0 (sd [fa 4 1 1,uu 5 1 4,ca 6 67 [5,(.c .nil)],bi 7 .eql 6 k0,m 3 7] (ra 4 4) (i 3 (sd [mv 2 k0] [1,3] .ret) (sd [fa 9 1 0,uu 10 1 9,m 8 10] [1,3,9,10] (i 8 (sd [mv 2 (k (-1))] [8] .ret) .skip))))) (sd [mv 2 k1] [8] .ret))),[.tmp 2],false⟩
def SJ:AFn:=⟨2,(sd [bx 2 0,bx 3 1,al 4 [(.bool false),.nil]] [0,1] (s (sd [fa 5 2 0,uu 6 1 5,fa 7 3 0,uu 8 1 7,o 9 (.beq false 6 8)] (ra 5 4) (i 9 (se [fa 10 2 0,uu 11 1 10,fa 12 2 1,uu 13 1 12,fa 14 3 1,uu 15 1 14,ca 16 68 [13,15],o 17 (.j5 83 [11,16]),so 2 4 17] (rl [2,3] 9 9) .ret) .skip)) (s (sd [fa 18 2 1,uu 19 1 18,fa 20 3 1,uu 21 1 20,ca 22 67 [19,21],bi 23 .eql 22 (k (-1))] (rl [9] 18 5) (i 23 (se [fa 24 3 0,uu 25 1 24,fa 26 3 1,uu 27 1 26,fa 28 2 1,uu 29 1 28,ca 30 69 [27,29],o 31 (.j5 83 [25,30]),so 2 4 31] (rl [2,3] 23 9) .ret) .skip)) (se [fa 32 2 0,uu 33 1 32,fa 34 2 1,uu 35 1 34,fa 36 3 1,uu 37 1 36,ca 38 69 [35,37],o 39 (.j5 83 [33,38]),so 2 4 39] (rl [2,3,23] 32 8) .ret)))),[.cell 4 true 2],false⟩
def SL:AFn:=⟨2,(sd [bx 2 0,bx 3 1,al 4 [(.bool false),.nil]] [0,1] (se [fa 5 2 0,uu 6 1 5,fa 7 3 0,uu 8 1 7,o 9 (.beq true 6 8),fa 10 2 1,uu 11 1 10,fa 12 3 1,uu 13 1 12,ca 14 70 [11,13],o 15 (.j5 83 [9,14]),so 2 4 15] (rl [2,3] 5 11) .ret)),[.cell 4 true 2],false⟩
def M9:AFn:=⟨1,(sd [bx 1 0,al 2 [(.bool false),.nil,.nil,(.bool false)]] [0] (s (sd [fa 3 1 2,uu 4 1 3,ln 5 4,bi 6 .eql 5 k1,m 7 6,g 8 7 true (.l8 1 2),g 9 7 true (.ld false 1 8),g 10 7 true (.q8 none 1 9 k0),g 11 7 true (.ld false 1 10),g 12 7 true (.bin .eql 11 (.c (.int .u32 (1)))),pk 13 7 12 kf] (ra 3 10) (i 13 (sd [fa 14 1 0,tt 15 2 14,fa 16 1 2,uu 17 1 16,o 18 (.build z3 [(0,2,15),(2,1,17)]),o 19 (.build [(.bool false),.nil,.nil,(.bool false)] [(0,3,18),(3,1,kt)]),so 4 2 19] (rl [1] 13 7) .ret) .skip)) (s (sd [fa 20 1 2,uu 21 1 20,ca 22 67 [21,(.c .nil)],bi 23 .eql 22 k0] [13,20,21,22] (i 23 (sd [o 24 (.build [(.bool false),.nil] []),o 25 (.b8 25 1 [(.c (.int .u32 (1)))]),o 26 (.build z3 [(0,2,24),(2,1,25)]),o 27 (.build [(.bool false),.nil,.nil,(.bool false)] [(0,3,26),(3,1,kt)]),so 4 2 27] (rl [1] 23 5) .ret) .skip)) (sd [fa 28 1 0,tt 29 2 28,fa 30 1 2,uu 31 1 30,o 32 (.build z3 [(0,2,29),(2,1,31)]),o 33 (.build [(.bool false),.nil,.nil,(.bool false)] [(0,3,32),(3,1,kf)]),so 4 2 33] (rl [1,23] 28 6) .ret)))),[.cell 2 true 4],false⟩
def TM:AFn:=⟨1,(sd [mv 2 kf] [2] (sd [m 3 0,ln 4 3,bi 5 .eql 4 k1,m 6 5,g 7 6 true (.o9 0),g 8 6 true (.q8 none 1 7 k0),g 9 6 true (.ld false 1 8),g 10 6 true (.bin .eql 9 (.c (.int .u32 (1)))),pk 11 6 10 kf,m 2 11] (rl [0] 3 9) .ret)),[.tmp 2],false⟩
def TN:AFn:=⟨1,(sp [al 2 [(.bool false),.nil]] (sd [m 3 0,o 4 (.build [(.bool false),.nil] [(1,1,3)]),so 2 2 4] [0,3,4] .ret)),[.cell 2 true 2],false⟩
def K7:AFn:=⟨1,(sd [o 1 (.box 92001 0),o 2 (.alloc 92002 z3)] [0] (sd [tt 3 2 1,o 4 (.b8 92004 1 [(.c (.int .u32 (1)))]),o 5 (.build z3 [(0,2,3),(2,1,4)]),so 3 2 5] [1,3,4,5] .ret)),[.cell 2 true 3],false⟩
def PE:AFn:=⟨2,(sd [o 2 (.box 93002 0),o 3 (.box 93003 1),o 4 (.alloc 93004 z3)] [0,1] (sd [fa 5 2 0,uu 6 1 5,fa 7 3 0,uu 8 1 7,o 9 (.beq true 6 8),fa 10 2 1,uu 11 1 10,o 12 (.build [(.bool false),.nil] [(0,1,9),(1,1,11)]),fa 13 3 1,uu 14 1 13,o 15 (.build z3 [(0,2,12),(2,1,14)]),so 3 4 15] (rl [2,3] 5 11) .ret)),[.cell 4 true 3],false⟩
def TP:AFn:=⟨1,(sd [bx 1 0,al 2 z3] [0] (sd [fa 14 1 0,fa 15 14 1,uu 16 1 15,fa 17 1 2,uu 18 1 17,ca 19 75 [16,18],m 13 19,et 20 13 0,et 21 13 1,et 22 13 2,m 3 20,m 4 21,m 5 22] (rl [5] 13 10) (s (sd [m 23 4,ln 24 23,bi 25 .eql 24 k0] [23,24] (i 25 (sd [fa 26 1 0,fa 27 26 0,uu 28 1 27,m 29 3,o 30 (.build [(.bool false),.nil] [(0,1,28),(1,1,29)]),ca 31 84 [30],o 32 (.j5 92 [31]),so 3 2 32] (rl [1,3,4] 25 8) .ret) .skip)) (sd [fa 33 1 2,uu 34 1 33,m 35 4,ca 36 82 [34,35],m 6 36] (rl [3,4,25] 33 4) (s (sd [m 37 6,ca 38 90 [37]] [37] (i 38 (se [fa 39 1 0,tt 40 2 39,ca 41 84 [40],fa 42 1 2,uu 43 1 42,ca 44 66 [43],o 45 (.build z3 [(0,2,41),(2,1,44)]),so 3 2 45] (rl [1,6] 38 8) .ret) .skip)) (sd [fa 47 1 0,fa 48 47 1,uu 49 1 48,m 50 6,ca 51 75 [49,50],m 46 51,et 52 46 0,et 53 46 1,et 54 46 2,m 7 52,m 8 53,m 9 54] (rl [8,9,38] 46 9) (sd [fa 56 1 2,uu 57 1 56,m 58 6,ca 59 75 [57,58],m 55 59,et 60 55 0,et 61 55 1,et 62 55 2,m 10 60,m 11 61,m 12 62] (rl [6,11,12] 55 8) (sd [fa 63 1 0,fa 64 63 0,uu 65 1 64,m 66 7,o 67 (.build [(.bool false),.nil] [(0,1,65),(1,1,66)]),m 68 10,o 69 (.build z3 [(0,2,67),(2,1,68)]),so 3 2 69] (rl [1,7,10] 63 7) .ret)))))))),[.cell 2 true 3],false⟩
def TK:AFn:=⟨1,(sd [bx 1 0,al 2 z3] [0] (sd [tt 3 3 1,o 4 (.o5 89 [3]),o 5 (.nj 4 0 3 true),ca 6 94 [5],so 3 2 6] [1,3,4,5,6] .ret)),[.cell 2 true 3],false⟩
def TH:AFn:=⟨1,(sp [al 2 z3] (sd [m 3 0,ca 4 85 [3],o 5 (.j5 92 [4]),so 3 2 5] [0,3,4,5] .ret)),[.cell 2 true 3],false⟩
def TI:AFn:=⟨1,(sd [bx 1 0,mv 2 k0] [0,2] (sd [tt 3 3 1,o 4 (.o5 89 [3]),o 5 (.nj 4 0 3 true),o 6 (.nj 5 0 2 true),ca 7 86 [6],m 2 7] (rl [1] 3 5) .ret)),[.tmp 2],false⟩
def M8:AFn:=⟨2,(sd [bx 2 0,bx 3 1,al 4 z3] [0,1] (se [q 8 [5,6] (.ld true 3 2),q 9 [5,6] (.o5 89 [8]),q 10 [5,6] (.ld true 3 3),q 11 [5,6] (.o5 89 [10]),al 5 [(.bool false),.nil,.nil,(.bool false)],al 6 [(.bool false),.nil,.nil,(.bool false)],so 4 5 9,so 4 6 11] (rl [2,3] 8 4) (s (sd [fa 12 5 3,uu 13 1 12,m 14 13,g 15 14 true (.l8 6 3),g 16 14 true (.ld false 1 15),pk 17 14 16 kf] (ra 12 5) (i 17 (sd [fa 18 5 0,fa 19 18 0,tt 20 2 19,fa 21 6 0,fa 22 21 0,tt 23 2 22,ca 24 87 [20,23],o 25 (.j5 92 [24]),so 3 4 25] (rl [5,6] 17 9) .ret) .skip)) (s (sd [fa 26 5 0,fa 27 26 2,uu 28 1 27,fa 29 6 0,fa 30 29 2,uu 31 1 30,ca 32 67 [28,31],bi 33 .eql 32 k0] (rl [17] 26 7) (i 33 (se [fa 34 5 0,fa 35 34 0,tt 36 2 35,fa 37 6 0,fa 38 37 0,tt 39 2 38,ca 40 87 [36,39],fa 41 5 0,fa 42 41 2,uu 43 1 42,o 44 (.build z3 [(0,2,40),(2,1,43)]),ca 45 94 [44],so 3 4 45] (rl [5,6] 33 13) .ret) .skip)) (se [fa 46 5 0,fa 47 46 0,q 48 [7] (.ld true 2 47),fa 49 6 0,fa 50 49 2,q 51 [7] (.ld false 1 50),q 52 [7] (.o5 91 [51]),q 53 [7] (.call 88 [48,52]),fa 54 6 0,fa 55 54 0,q 56 [7] (.ld true 2 55),fa 57 5 0,fa 58 57 2,q 59 [7] (.ld false 1 58),q 60 [7] (.o5 91 [59]),q 61 [7] (.call 88 [56,60]),q 62 [7] (.call 87 [53,61]),al 7 [(.bool false),.nil],so 2 7 62] (rl [33] 46 17) (se [tt 63 2 7,fa 64 5 0,fa 65 64 2,uu 66 1 65,fa 67 6 0,fa 68 67 2,uu 69 1 68,ca 70 70 [66,69],o 71 (.build z3 [(0,2,63),(2,1,70)]),ca 72 94 [71],so 3 4 72] (rl [5,6,7] 63 10) .ret)))))),[.cell 4 true 3],false⟩
def PD:AFn:=⟨2,(sd [bx 2 0,bx 3 1,al 4 z3] [0,1] (se [q 8 [5,6] (.ld true 3 2),q 9 [5,6] (.o5 89 [8]),q 10 [5,6] (.ld true 3 3),q 11 [5,6] (.o5 89 [10]),al 5 [(.bool false),.nil,.nil,(.bool false)],al 6 [(.bool false),.nil,.nil,(.bool false)],so 4 5 9,so 4 6 11] (rl [2,3] 8 4) (sd [fa 12 5 0,fa 13 12 0,tt 14 2 13,fa 15 6 0,fa 16 15 0,tt 17 2 16,ca 18 88 [14,17],al 7 [(.bool false),.nil],so 2 7 18] (ra 12 7) (s (sd [fa 19 5 3,uu 20 1 19,m 21 20,g 22 21 true (.l8 6 3),g 23 21 true (.ld false 1 22),pk 24 21 23 kf] (ra 19 5) (i 24 (sd [tt 25 2 7,o 26 (.j5 92 [25]),so 3 4 26] [5,6,7,24,25,26] .ret) .skip)) (se [tt 27 2 7,fa 28 5 0,fa 29 28 2,uu 30 1 29,fa 31 6 0,fa 32 31 2,uu 33 1 32,ca 34 70 [30,33],o 35 (.build z3 [(0,2,27),(2,1,34)]),ca 36 94 [35],so 3 4 36] (rl [5,6,7,24] 27 10) .ret))))),[.cell 4 true 3],false⟩
def TE:AFn:=⟨2,(sd [bx 2 0,bx 3 1,al 4 z3,mv 5 k0] [0,1,5] (se [q 10 [6,7] (.ld true 3 2),q 11 [6,7] (.o5 89 [10]),q 12 [6,7] (.ld true 3 3),q 13 [6,7] (.o5 89 [12]),al 6 [(.bool false),.nil,.nil,(.bool false)],al 7 [(.bool false),.nil,.nil,(.bool false)],so 4 6 11,so 4 7 13] (rl [2,3] 10 4) (s (sd [fa 14 7 0,fa 15 14 0,tt 16 2 15,ca 17 86 [16],bi 18 .eql 17 k0] (ra 14 4) (i 18 (sd [o 19 (.build z3 []),so 3 4 19,mv 5 (k 3)] [6,7,18,19] .ret) .skip)) (se [fa 20 6 0,fa 21 20 0,q 22 [8] (.ld true 2 21),fa 23 7 0,fa 24 23 2,q 25 [8] (.ld false 1 24),q 26 [8] (.o5 91 [25]),q 27 [8] (.call 88 [22,26]),al 8 [(.bool false),.nil],so 2 8 27] (rl [18] 20 8) (se [fa 28 6 0,fa 29 28 2,q 30 [9] (.ld false 1 29),q 31 [9] (.o5 91 [30]),fa 32 7 0,fa 33 32 0,q 34 [9] (.ld true 2 33),q 35 [9] (.call 88 [31,34]),al 9 [(.bool false),.nil],so 2 9 35] (rl [6,7] 28 8) (sd [tt 36 2 8,tt 37 2 9,o 38 (.j5 93 [36,37]),ca 39 94 [38],so 3 4 39,mv 5 k0] (rl [8,9] 36 4) .ret)))))),[.cell 4 true 3,.tmp 5],false⟩
structure a6(L:Lib):Prop extends c6 L where
 CH:L 83=some F.CH
 SP:L 84=some F.SP
 SM:L 85=some F.SM
 SN:L 86=some F.SN
 SJ:L 87=some F.SJ
 SL:L 88=some F.SL
 M9:L 89=some F.M9
 TM:L 90=some F.TM
 TN:L 91=some F.TN
 K7:L 92=some F.K7
 PE:L 93=some F.PE
 TP:L 94=some F.TP
 TK:L 95=some F.TK
 TH:L 96=some F.TH
 TI:L 97=some F.TI
 M8:L 98=some F.M8
 PD:L 99=some F.PD
 TE:L 100=some F.TE
end Go.Eng.F

namespace Go.Eng.F
open C
def JP.l1:=(s (sd [m 6 3,bi 7 .gtr 6 k0,m 8 7,g 9 8 true (.o9 0),g 10 8 true (.o9 3),g 11 8 true (.bin .sub 10 k1),g 12 8 true (.q8 none 1 9 11),g 13 8 true (.ld false 1 12),g 14 8 true (.bin .eql 13 (.c (.int .u32 (0)))),pk 15 8 14 kf] (ra 6 9) (i 15 .skip (x 0))) (b 1 (d [m 16 3,sb 17 16 k1,m 3 17] [15,16,17])))
def JP:AFn:=⟨1,(sd [mv 2 (.c .nil)] [2] (sd [m 4 0,ln 5 4,m 3 5] [4,5] (s (b 0 (w JP.l1)) (sd [m 18 0,m 19 3,o 20 (.ik 1 18 none (some 19)),o 21 (.app 101021 1 4 (.c .nil) 20),m 2 21] (rl [0,3,15] 18 4) .ret)))),[.tmp 2],false⟩
def PH.l1:=(s (sd [m 23 5,bi 24 .geq 23 k0] [23] (i 24 .skip (x 0))) (s (b 1 (s (se [m 27 0,m 28 5,ia 29 1 27 28,uu 30 1 29,m 31 1,m 32 5,ia 33 1 31 32,uu 34 1 33,ls 35 30 34] (rl [24] 27 8) (i 35 (sd [mv 4 (k (-1))] [0,1,5,35] .ret) .skip)) (se [m 36 0,m 37 5,ia 38 1 36 37,uu 39 1 38,m 40 1,m 41 5,ia 42 1 40 41,uu 43 1 42,bi 44 .gtr 39 43] (ra 35 9) (i 44 (sd [mv 4 k1] [0,1,5,44] .ret) .skip)))) (d [m 25 5,sb 26 25 k1,m 5 26] [25,26,44])))
def PH:AFn:=⟨2,(sd [mv 4 k0] [4] (sd [m 6 0,ca 7 101 [6],m 8 1,ca 9 101 [8],m 0 7,m 1 9] (ra 6 4) (s (sd [m 10 0,ln 11 10,m 12 1,ln 13 12,bi 14 .neq 11 13] (ra 10 4) (i 14 (s (sd [m 15 0,ln 16 15,m 17 1,ln 18 17,ls 19 16 18] (rl [0,1] 14 5) (i 19 (sd [mv 4 (k (-1))] [19] .ret) .skip)) (sd [mv 4 k1] [19] .ret)) .skip)) (s (sd [m 20 0,ln 21 20,sb 22 21 k1,m 5 22] [14,20,21,22] (b 0 (w PH.l1))) (sd [mv 4 k0] [0,1,5,24] .ret))))),[.tmp 4],false⟩
def PF.l1:=(s (sd [m 8 7,m 9 0,ln 10 9,ls 11 8 10,m 12 11,g 13 12 false (.o9 7),g 14 12 false (.o9 1),g 15 12 false (.len 14),g 16 12 false (.bin .lss 13 15),pk 17 12 kt 16] (ra 8 9) (i 17 .skip (x 0))) (s (b 1 (s (sd [m 20 7,m 21 0,ln 22 21,ls 23 20 22] [17,20,21,22] (i 23 (d [m 24 6,m 25 0,m 26 7,ia 27 1 25 26,uu 28 1 27,cu 29 28,ad 30 24 29,m 6 30] (ra 23 8)) .skip)) (s (sd [m 31 7,m 32 1,ln 33 32,ls 34 31 33] [23,31,32,33] (i 34 (d [m 35 6,m 36 1,m 37 7,ia 38 1 36 37,uu 39 1 38,cu 40 39,ad 41 35 40,m 6 41] (ra 34 8)) .skip)) (sd [m 42 5,m 43 6,o 44 (.conv .u32 43),o 45 (.b8 45 1 [44]),o 46 (.app 46 1 4 42 45),m 5 46] (rl [34] 42 5) (d [m 47 6,bi 48 .shr 47 (.c (.int .u64 (32))),m 6 48] [47,48]))))) (d [m 18 7,ad 19 18 k1,m 7 19] [18,19])))
def PF:AFn:=⟨2,(sd [mv 4 (.c .nil)] [4] (sp [o 5 (.z8 5 1)] (sp [mv 6 (.c (.int .u64 (0)))] (s (sp [mv 7 k0] (b 0 (w PF.l1))) (sd [m 49 5,m 50 6,o 51 (.conv .u32 50),o 52 (.b8 52 1 [51]),o 53 (.app 53 1 4 49 52),ca 54 101 [53],m 4 54] (rl [0,1,5,6,7,17] 49 6) .ret))))),[.tmp 4],false⟩
namespace K8
def r0:=[mv 4 (.c .nil)]
def r1:=[m 10 0,m 11 1,ca 12 102 [10,11],ls 13 12 k0]
def r2:=[mv 4 (.c .nil)]
def r3:=[m 14 1,ca 15 101 [14],m 1 15]
def r4:=[m 16 0,o 17 (.j5 101 [16]),m 5 17]
def r5:=[mv 6 (.c (.int .u64 (0)))]
def r6:=[mv 7 k0]
def r7:=[m 18 7,m 19 5,ln 20 19,ls 21 18 20]
def r9:=[m 24 6,m 8 24]
def WK:=[m 25 7,m 26 1,ln 27 26,ls 28 25 27]
def WL:=[m 29 8,m 30 1,m 31 7,ia 32 1 30 31,uu 33 1 32,cu 34 33,ad 35 29 34,m 8 35]
def An:=[m 36 5,m 37 7,ia 38 1 36 37,uu 39 1 38,cu 40 39,m 9 40]
def bT:=[mv 6 (.c (.int .u64 (0)))]
def Dy:=[m 41 9,m 42 8,ls 43 41 42]
def Dz:=[m 44 9,ad 45 44 (.c (.int .u64 (4294967296))),m 9 45]
def Ea:=[mv 6 (.c (.int .u64 (1)))]
def bU:=[m 46 5,m 47 7,m 48 9,m 49 8,sb 50 48 49,o 51 (.conv .u32 50),ia 52 1 46 47,so 1 52 51]
def r8:=[m 22 7,ad 23 22 k1,m 7 23]
def Ao:=[m 53 5,ca 54 101 [53],m 4 54]
def l1:=(s (sd r7 [18,19,20] (i 21 .skip (x 0))) (s (b 1 (sd r9 [6,21,24] (s (sd WK [25,26,27] (i 28 (d WL (ra 28 8)) .skip)) (sd An (rl [28] 36 5) (sp bT (s (sd Dy [41,42] (i 43 (sd Dz [6,43,44,45] (p Ea)) .skip)) (d bU (rl [8,9,43] 46 7)))))))) (d r8 [22,23])))
def c:=(sd r0 [4] (s (sd r1 [10,11,12] (i 13 (sd r2 [0,1,13] .ret) .skip)) (sd r3 [13,14,15] (sd r4 [0,16,17] (sp r5 (s (sp r6 (b 0 (w l1))) (sd Ao [1,5,6,7,21,53,54] .ret)))))))
end K8
def K8:AFn:=⟨2,K8.c,[.tmp 4],false⟩
def NB.l2:=(s (sd [m 22 8,m 23 1,ln 24 23,ls 25 22 24] [22,23,24] (i 25 .skip (x 2))) (s (b 3 (se [m 28 7,m 29 0,m 30 6,ia 31 1 29 30,uu 32 1 31,cu 33 32,m 34 1,m 35 8,ia 36 1 34 35,uu 37 1 36,cu 38 37,bi 39 .mul 33 38,m 40 5,m 41 6,m 42 8,ad 43 41 42,ia 44 1 40 43,uu 45 1 44,cu 46 45,ad 47 39 46,ad 48 28 47,m 7 48] (rl [25] 28 21) (sd [m 49 5,m 50 6,m 51 8,ad 52 50 51,m 53 7,o 54 (.conv .u32 53),ia 55 1 49 52,so 1 55 54] (ra 49 7) (d [m 56 7,bi 57 .shr 56 (.c (.int .u64 (32))),m 7 57] [56,57])))) (d [m 26 8,ad 27 26 k1,m 8 27] [26,27])))
def NB.l1:=(s (sd [m 16 6,m 17 0,ln 18 17,ls 19 16 18] [16,17,18] (i 19 .skip (x 0))) (s (b 1 (sd [mv 7 (.c (.int .u64 (0)))] [19] (s (sp [mv 8 k0] (b 2 (w NB.l2))) (d [m 58 5,m 59 6,m 60 1,ln 61 60,ad 62 59 61,m 63 7,o 64 (.conv .u32 63),ia 65 1 58 62,so 1 65 64] (rl [7,8,25] 58 8))))) (d [m 20 6,ad 21 20 k1,m 6 21] [20,21])))
def NB:AFn:=⟨2,(sd [mv 4 (.c .nil)] [4] (sd [m 9 0,ln 10 9,m 11 1,ln 12 11,ad 13 10 12,ad 14 13 k1,o 15 (.mk 15 1 4 [(.int .u32 (0))] 14 14),m 5 15] (ra 9 7) (s (sp [mv 6 k0] (b 0 (w NB.l1))) (sd [m 66 5,ca 67 101 [66],m 4 67] [0,1,5,6,19,66,67] .ret)))),[.tmp 4],false⟩
def PG.l1:=(s (sd [m 20 4,bi 21 .gtr 20 (.c (.int .u32 (0)))] [20] (i 21 .skip (x 0))) (s (b 1 (d [m 24 3,ad 25 24 k1,m 3 25] [21,24,25])) (d [m 22 4,bi 23 .shr 22 (.c (.int .u64 (1))),m 4 23] [22,23])))
def PG:AFn:=⟨1,(sd [mv 2 k0] [2] (sd [m 5 0,ca 6 101 [5],m 0 6] [5,6] (s (sd [m 7 0,ln 8 7,bi 9 .eql 8 k0] [7,8] (i 9 (sd [mv 2 k0] [0,9] .ret) .skip)) (sd [m 10 0,ln 11 10,sb 12 11 k1,bi 13 .mul (k 32) 12,m 3 13] (ra 9 5) (s (sd [m 14 0,m 15 0,ln 16 15,sb 17 16 k1,ia 18 1 14 17,uu 19 1 18,m 4 19] (rl [0] 14 6) (b 0 (w PG.l1))) (sd [m 26 3,m 2 26] [3,4,21,26] .ret)))))),[.tmp 2],false⟩
def JO.l1:=(s (sd [m 31 6,m 32 0,ln 33 32,ls 34 31 33] [31,32,33] (i 34 .skip (x 0))) (s (b 1 (sd [m 37 0,m 38 6,ia 39 1 37 38,uu 40 1 39,cu 41 40,m 7 41] (rl [34] 37 5) (s (sd [m 42 6,ad 43 42 k1,m 44 0,ln 45 44,ls 46 43 45] (ra 42 4) (i 46 (d [m 47 7,m 48 0,m 49 6,ad 50 49 k1,ia 51 1 48 50,uu 52 1 51,cu 53 52,bi 54 .shl 53 (.c (.int .u64 (32))),bi 55 .or 47 54,m 7 55] (ra 46 10)) .skip)) (d [m 56 5,m 57 7,m 58 1,bi 59 .rem 58 (k 32),cu 60 59,bi 61 .shr 57 60,o 62 (.conv .u32 61),o 63 (.b8 107063 1 [62]),o 64 (.app 107064 1 4 56 63),m 5 64] (rl [7,46] 56 9))))) (d [m 35 6,ad 36 35 k1,m 6 36] [35,36])))
def JO.l2:=(s (sd [m 70 10,m 71 0,ln 72 71,ls 73 70 72] [70,71,72] (i 73 .skip (x 2))) (s (b 3 (sd [m 76 9,m 77 0,m 78 10,ia 79 1 77 78,uu 80 1 79,cu 81 80,m 82 1,bi 83 .rem 82 (k 32),cu 84 83,bi 85 .shl 81 84,bi 86 .or 76 85,m 9 86] (rl [73] 76 11) (sd [m 87 8,m 88 9,o 89 (.conv .u32 88),o 90 (.b8 107090 1 [89]),o 91 (.app 107091 1 4 87 90),m 8 91] (ra 87 5) (d [m 92 9,bi 93 .shr 92 (.c (.int .u64 (32))),m 9 93] [92,93])))) (d [m 74 10,ad 75 74 k1,m 10 75] [74,75])))
def JO:AFn:=⟨2,(sd [mv 4 (.c .nil)] [4] (sd [m 11 0,ca 12 101 [11],m 0 12] [11,12] (s (sd [m 13 1,bi 14 .gtr 13 (k 65536),m 15 14,g 16 15 false (.o9 0),g 17 15 false (.len 16),g 18 15 false (.bin .eql 17 k0),pk 19 15 kt 18] (ra 13 6) (i 19 (sd [mv 4 (.c .nil)] [0,1,19] .ret) .skip)) (s (sd [m 20 1,ls 21 20 k0] [19,20] (i 21 (s (sd [m 22 1,m 23 0,ln 24 23,bi 25 .mul (k (-32)) 24,ls 26 22 25] (ra 21 5) (i 26 (sd [mv 4 (.c .nil)] [0,1,26] .ret) .skip)) (sd [m 27 1,o 28 (.un .neg 27),m 1 28] [26,27,28] (sp [o 5 (.z8 107005 1)] (s (sd [m 29 1,bi 30 .quo 29 (k 32),m 6 30] [29,30] (b 0 (w JO.l1))) (sd [m 65 5,ca 66 101 [65],m 4 66] [0,1,5,6,34,65,66] .ret))))) .skip)) (sd [m 67 1,bi 68 .quo 67 (k 32),o 69 (.mk 107069 1 4 [(.int .u32 (0))] 68 68),m 8 69] [21,67,68,69] (sp [mv 9 (.c (.int .u64 (0)))] (s (sp [mv 10 k0] (b 2 (w JO.l2))) (sd [m 94 8,m 95 9,o 96 (.conv .u32 95),o 97 (.b8 107097 1 [96]),o 98 (.app 107098 1 4 94 97),o 99 (.j5 101 [98]),m 4 99] (rl [0,1,8,9,10,73] 94 6) .ret)))))))),[.tmp 4],false⟩
def PJ.l1:=(s (sd [m 15 8,bi 16 .geq 15 k0] [15] (i 16 .skip (x 0))) (s (b 1 (sd [m 19 7,bi 20 .shl 19 (.c (.int .u64 (32))),m 21 0,m 22 8,ia 23 1 21 22,uu 24 1 23,cu 25 24,bi 26 .or 20 25,m 7 26] (rl [16] 19 8) (sd [m 27 6,m 28 8,m 29 7,m 30 1,cu 31 30,bi 32 .quo 29 31,o 33 (.conv .u32 32),ia 34 1 27 28,so 1 34 33] (ra 27 8) (d [m 35 7,m 36 1,cu 37 36,bi 38 .rem 35 37,m 7 38] (ra 35 4))))) (d [m 17 8,sb 18 17 k1,m 8 18] [17,18])))
def PJ:AFn:=⟨2,(sd [mv 4 (.c .nil),mv 5 (.c (.int .u32 (0)))] [4,5] (sd [m 9 0,ln 10 9,o 11 (.mk 11 1 4 [(.int .u32 (0))] 10 10),m 6 11] [9,10,11] (sp [mv 7 (.c (.int .u64 (0)))] (s (sd [m 12 0,ln 13 12,sb 14 13 k1,m 8 14] [12,13,14] (b 0 (w PJ.l1))) (sd [m 39 6,ca 40 101 [39],m 41 7,o 42 (.conv .u32 41),m 4 40,m 5 42] (rl [0,1,6,7,8,16] 39 4) .ret))))),[.tmp 4,.tmp 5],false⟩
namespace D6
def r0:=[mv 4 (.c .nil),mv 5 (.c .nil),mv 6 k0]
def r1:=[m 27 0,ca 28 101 [27],m 29 1,ca 30 101 [29],m 0 28,m 1 30]
def r2:=[m 31 1,ln 32 31,bi 33 .eql 32 k0]
def r3:=[mv 4 (.c .nil),mv 5 (.c .nil),mv 6 (k 3)]
def r4:=[m 34 1,ln 35 34,bi 36 .eql 35 k1]
def r5:=[m 38 0,m 39 1,ia 40 1 39 k0,uu 41 1 40,ca 42 108 [38,41],m 37 42,et 43 37 0,et 44 37 1,m 7 43,m 8 44]
def r6:=[m 45 7,m 46 8,o 47 (.b8 47 1 [46]),ca 48 101 [47],m 4 45,m 5 48,mv 6 k0]
def r7:=[m 49 0,m 50 1,ca 51 102 [49,50],ls 52 51 k0]
def r8:=[m 53 0,mv 4 (.c .nil),m 5 53,mv 6 k0]
def r9:=[m 54 1,m 55 1,ln 56 55,sb 57 56 k1,o 58 (.ik 1 54 (some 57) none),ca 59 106 [58],sb 60 (k 32) 59,m 9 60]
def WK:=[m 61 0,m 62 9,o 63 (.j5 107 [61,62]),m 64 1,m 65 9,ca 66 107 [64,65],m 10 63,m 11 66]
def WL:=[m 67 10,o 68 (.b8 68 1 [(.c (.int .u32 (0)))]),o 69 (.app 69 1 4 67 68),m 10 69]
def An:=[m 70 10,ln 71 70,m 72 0,ln 73 72,ad 74 73 k1,ls 75 71 74]
def bT:=[m 76 10,o 77 (.b8 77 1 [(.c (.int .u32 (0)))]),o 78 (.app 78 1 4 76 77),m 10 78]
def Dy:=[m 79 11,ln 80 79,m 12 80]
def Dz:=[m 81 10,ln 82 81,m 83 12,sb 84 82 83,o 85 (.mk 85 1 4 [(.int .u32 (0))] 84 84),m 13 85]
def Ea:=[m 86 10,ln 87 86,m 88 12,sb 89 87 88,sb 90 89 k1,m 14 90]
def bU:=[m 91 14,bi 92 .geq 91 k0]
def Jz:=[m 95 10,m 96 14,m 97 12,ad 98 96 97,ia 99 1 95 98,uu 100 1 99,cu 101 100,
 bi 102 .shl 101 (.c (.int .u64 (32))),m 103 10,m 104 14,m 105 12,ad 106 104 105,sb 107 106 k1,
 ia 108 1 103 107,uu 109 1 108,cu 110 109,bi 111 .or 102 110,m 15 111]
def Ka:=[m 112 15,m 113 11,m 114 12,sb 115 114 k1,ia 116 1 113 115,uu 117 1 116,cu 118 117,
 bi 119 .quo 112 118,m 16 119]
def Kb:=[m 120 15,m 121 11,m 122 12,sb 123 122 k1,ia 124 1 121 123,uu 125 1 124,cu 126 125,
 bi 127 .rem 120 126,m 17 127]
def Kc:=[m 128 16,bi 129 .geq 128 (.c (.int .u64 (4294967296))),m 130 129,g 131 130 false (.o9 16),g 132 130 false (.o9 11),g 133 130 false (.o9 12),
 g 134 130 false (.bin .sub 133 (k 2)),g 135 130 false (.q8 none 1 132 134),g 136 130 false (.ld false 1 135),g 137 130 false (.conv .u64 136),
 g 138 130 false (.bin .mul 131 137),g 139 130 false (.o9 17),g 140 130 false (.bin .shl 139 (.c (.int .u64 (32)))),g 141 130 false (.o9 10),
 g 142 130 false (.o9 14),g 143 130 false (.o9 12),g 144 130 false (.bin .add 142 143),g 145 130 false (.bin .sub 144 (k 2)),
 g 146 130 false (.q8 none 1 141 145),g 147 130 false (.ld false 1 146),g 148 130 false (.conv .u64 147),g 149 130 false (.bin .or 140 148),
 g 150 130 false (.bin .gtr 138 149),pk 151 130 kt 150]
def Kd:=[m 152 16,sb 153 152 (.c (.int .u64 (1))),m 16 153]
def qP:=[m 154 17,m 155 11,m 156 12,sb 157 156 k1,ia 158 1 155 157,uu 159 1 158,cu 160 159,
 ad 161 154 160,m 17 161]
def qQ:=[m 162 17,bi 163 .geq 162 (.c (.int .u64 (4294967296)))]
def qR:=[mv 18 (.c (.int .u64 (0))),mv 19 (.c (.int .u64 (0)))]
def qS:=[mv 20 k0]
def qT:=[m 164 20,m 165 12,ls 166 164 165]
def Ke:=[m 169 19,m 170 16,m 171 11,m 172 20,ia 173 1 171 172,uu 174 1 173,cu 175 174,bi 176 .mul 170 175,
 ad 177 169 176,m 19 177]
def Kf:=[m 178 19,bi 179 .and 178 (.c (.int .u64 (4294967295))),m 180 18,ad 181 179 180,m 21 181]
def r32:=[m 182 19,bi 183 .shr 182 (.c (.int .u64 (32))),m 19 183]
def r33:=[m 184 10,m 185 20,m 186 14,ad 187 185 186,ia 188 1 184 187,uu 189 1 188,cu 190 189,m 22 190]
def r34:=[mv 18 (.c (.int .u64 (0)))]
def r35:=[m 191 22,m 192 21,ls 193 191 192]
def r36:=[m 194 22,ad 195 194 (.c (.int .u64 (4294967296))),m 22 195]
def r37:=[mv 18 (.c (.int .u64 (1)))]
def r38:=[m 196 10,m 197 20,m 198 14,ad 199 197 198,m 200 22,m 201 21,sb 202 200 201,o 203 (.conv .u32 202),ia 204 1 196 199,
 so 1 204 203]
def qU:=[m 167 20,ad 168 167 k1,m 20 168]
def r39:=[m 205 19,m 206 18,ad 207 205 206,m 23 207]
def r40:=[m 208 10,m 209 14,m 210 12,ad 211 209 210,ia 212 1 208 211,uu 213 1 212,cu 214 213,m 24 214]
def r41:=[mv 18 (.c (.int .u64 (0)))]
def r42:=[m 215 24,m 216 23,ls 217 215 216]
def r43:=[m 218 24,ad 219 218 (.c (.int .u64 (4294967296))),m 24 219]
def r44:=[mv 18 (.c (.int .u64 (1)))]
def r45:=[m 220 10,m 221 14,m 222 12,ad 223 221 222,m 224 24,m 225 23,sb 226 224 225,o 227 (.conv .u32 226),ia 228 1 220 223,
 so 1 228 227]
def r46:=[m 229 18,bi 230 .eql 229 (.c (.int .u64 (1)))]
def r47:=[m 231 16,sb 232 231 (.c (.int .u64 (1))),m 16 232]
def r48:=[mv 25 (.c (.int .u64 (0)))]
def r49:=[mv 26 k0]
def r50:=[m 233 26,m 234 12,ls 235 233 234]
def r52:=[m 238 25,m 239 10,m 240 26,m 241 14,ad 242 240 241,ia 243 1 239 242,uu 244 1 243,cu 245 244,m 246 11,
 m 247 26,ia 248 1 246 247,uu 249 1 248,cu 250 249,ad 251 245 250,ad 252 238 251,m 25 252]
def r53:=[m 253 10,m 254 26,m 255 14,ad 256 254 255,m 257 25,o 258 (.conv .u32 257),ia 259 1 253 256,so 1 259 258]
def r54:=[m 260 25,bi 261 .shr 260 (.c (.int .u64 (32))),m 25 261]
def r51:=[m 236 26,ad 237 236 k1,m 26 237]
def r55:=[m 262 10,m 263 14,m 264 12,ad 265 263 264,ia 266 1 262 265,uu 267 1 266,m 268 25,o 269 (.conv .u32 268),
 ad 270 267 269,ia 271 1 262 265,so 1 271 270]
def r56:=[m 272 13,m 273 14,m 274 16,o 275 (.conv .u32 274),ia 276 1 272 273,so 1 276 275]
def Ao:=[m 93 14,sb 94 93 k1,m 14 94]
def Pn:=[m 277 13,ca 278 101 [277],m 279 10,m 280 12,o 281 (.ik 1 279 none (some 280)),m 282 9,o 283 (.un .neg 282),ca 284 107 [281,283],m 4 278,
 m 5 284,mv 6 k0]
def l1:=(s (sd An (ra 70 5) (i 75 .skip (x 0))) (b 1 (d bT (ra 75 4))))
def l3:=(s (se Kc [128,129,130,131,132,133,134,135,136,137,138,139,140,141,142,143,144,145,146,147,148,149,150,163] (i 151 .skip (x 4))) (b 5 (sd Kd [151,152,153] (sd qP (ra 154 8) (sd qQ [162] (i 163 (x 4) .skip))))))
def l4:=(s (sd qT [164,165] (i 166 .skip (x 6))) (s (b 7 (sd Ke (rl [166] 169 9) (sd Kf (rl [18] 178 4) (sd r32 [182,183] (sd r33 (ra 184 7) (sp r34 (s (sd r35 [191,192] (i 193 (sd r36 [18,193,194,195] (p r37)) .skip)) (d r38 (rl [21,22,193] 196 9))))))))) (d qU [167,168])))
def l5:=(s (sd r50 [233,234] (i 235 .skip (x 8))) (s (b 9 (se r52 (rl [235] 238 15) (sd r53 (ra 253 7) (d r54 [260,261])))) (d r51 [236,237])))
def l2:=(s (sd bU [91] (i 92 .skip (x 2))) (s (b 3 (se Jz (rl [92] 95 17) (sd Ka (ra 112 8) (sd Kb (rl [15] 120 8) (s (b 4 (w l3)) (sd qR [17,151,163] (s (sp qS (b 6 (w l4))) (sd r39 [18,19,20,166,205,206,207] (sd r40 (ra 208 7) (sp r41 (s (sd r42 [215,216] (i 217 (sd r43 [18,217,218,219] (p r44)) .skip)) (sd r45 (rl [23,24,217] 220 9) (s (sd r46 [18,229] (i 230 (sd r47 [230,231,232] (sp r48 (s (sp r49 (b 8 (w l5))) (d r55 (rl [25,26,235] 262 10))))) .skip)) (d r56 (rl [16,230] 272 5))))))))))))))) (d Ao [93,94])))
def c:=(sd r0 [4,5,6] (sd r1 (ra 27 4) (s (sd r2 [31,32] (i 33 (sd r3 [0,1,33] .ret) .skip)) (s (sd r4 [33,34,35] (i 36 (sd r5 (rl [0,1] 36 9) (sd r6 (rl [7,8] 45 4) .ret)) .skip)) (s (sd r7 [36,49,50,51] (i 52 (sd r8 [0,1,52,53] .ret) .skip)) (sd r9 (rl [52] 54 7) (sd WK (rl [1] 61 6) (sd WL [67,68,69] (s (b 0 (w l1)) (sd Dy [0,75,79,80] (sd Dz (ra 81 5) (s (sd Ea (ra 86 5) (b 2 (w l2))) (se Pn (rl [9,10,11,12,13,14,92] 277 8) .ret)))))))))))))
end D6
def D6:AFn:=⟨2,D6.c,[.tmp 4,.tmp 5,.tmp 6],false⟩
def PI.l1:=(s (sd [m 12 1,ln 13 12,bi 14 .gtr 13 k0] [12,13] (i 14 .skip (x 0))) (b 1 (sd [m 16 0,m 17 1,ca 18 109 [16,17],m 15 18,et 19 15 0,et 20 15 1,et 21 15 2,m 5 19,m 6 20,m 7 21] (rl [0,5,7] 14 8) (d [m 22 1,m 23 6,m 0 22,m 1 23] [6,22,23]))))
def PI:AFn:=⟨2,(sd [mv 4 (.c .nil)] [4] (sd [m 8 0,ca 9 101 [8],m 10 1,ca 11 101 [10],m 0 9,m 1 11] (ra 8 4) (s (b 0 (w PI.l1)) (sd [m 24 0,m 4 24] [0,1,14,24] .ret)))),[.tmp 4],false⟩
def T4:AFn:=⟨1,(sd [bx 1 0,al 2 [(.bool false),.nil]] [0] (sd [fa 4 1 1,uu 5 1 4,ca 6 101 [5],m 3 6] [4,5,6] (sd [fa 7 1 0,uu 8 1 7,m 9 8,g 10 9 true (.o9 3),g 11 9 true (.len 10),g 12 9 true (.bin .gtr 11 k0),pk 13 9 12 kf,m 14 3,o 15 (.build [(.bool false),.nil] [(0,1,13),(1,1,14)]),so 2 2 15] (rl [1,3] 7 9) .ret))),[.cell 2 true 2],false⟩
def TY:AFn:=⟨1,(sp [al 2 [(.bool false),.nil]] (s (sd [m 4 0,ls 5 4 k0] [4] (i 5 (sd [m 6 0,ad 7 6 k1,o 8 (.un .neg 7),cu 9 8,ad 10 9 (.c (.int .u64 (1))),m 3 10] (rl [0] 5 6) (sd [m 11 3,o 12 (.conv .u32 11),m 13 3,bi 14 .shr 13 (.c (.int .u64 (32))),o 15 (.conv .u32 14),o 16 (.b8 16 1 [12,15]),o 17 (.build [(.bool false),.nil] [(0,1,kt),(1,1,16)]),ca 18 111 [17],so 2 2 18] (rl [3] 11 8) .ret)) .skip)) (sd [m 19 0,o 20 (.conv .u32 19),m 21 0,cu 22 21,bi 23 .shr 22 (.c (.int .u64 (32))),o 24 (.conv .u32 23),o 25 (.b8 25 1 [20,24]),o 26 (.build [(.bool false),.nil] [(1,1,25)]),ca 27 111 [26],so 2 2 27] (rl [0,5] 19 9) .ret))),[.cell 2 true 2],false⟩
def TZ:AFn:=⟨1,(sd [bx 1 0,mv 2 k0] [0,2] (sd [tt 3 2 1,ca 4 111 [3],so 2 1 4] [3,4] (s (b 0 (sd [fa 6 1 1,uu 7 1 6,ln 8 7,bi 9 .eql 8 k0,m 5 9] (ra 6 4) (i 5 (sd [mv 2 k0] [1,5] .ret) (sd [fa 11 1 0,uu 12 1 11,m 10 12] [1,5,11,12] (i 10 (sd [mv 2 (k (-1))] [10] .ret) .skip))))) (sd [mv 2 k1] [10] .ret)))),[.tmp 2],false⟩
def TW:AFn:=⟨1,(sd [bx 1 0,al 2 [(.bool false),.nil]] [0] (sd [tt 3 2 1,ca 4 111 [3],so 2 1 4] [3,4] (sd [fa 5 1 0,uu 6 1 5,nt 7 6,m 8 7,g 9 8 true (.l8 1 1),g 10 8 true (.ld false 1 9),g 11 8 true (.len 10),g 12 8 true (.bin .gtr 11 k0),pk 13 8 12 kf,fa 14 1 0,so 1 14 13] (ra 5 10) (sd [tt 15 2 1,so 2 2 15] [1,15] .ret)))),[.cell 2 true 2],false⟩
def TR:AFn:=⟨2,(sd [bx 2 0,bx 3 1,al 4 [(.bool false),.nil]] [0,1] (se [tt 5 2 2,ca 6 111 [5],tt 7 2 3,ca 8 111 [7],so 2 2 6,so 2 3 8] (ra 5 4) (s (sd [fa 9 2 0,uu 10 1 9,fa 11 3 0,uu 12 1 11,o 13 (.beq false 10 12)] (ra 9 4) (i 13 (se [fa 14 2 0,uu 15 1 14,fa 16 2 1,uu 17 1 16,fa 18 3 1,uu 19 1 18,ca 20 103 [17,19],o 21 (.build [(.bool false),.nil] [(0,1,15),(1,1,20)]),ca 22 111 [21],so 2 4 22] (rl [2,3] 13 10) .ret) .skip)) (s (sd [fa 23 2 1,uu 24 1 23,fa 25 3 1,uu 26 1 25,ca 27 102 [24,26],bi 28 .geq 27 k0] (rl [13] 23 5) (i 28 (se [fa 29 2 0,uu 30 1 29,fa 31 2 1,uu 32 1 31,fa 33 3 1,uu 34 1 33,ca 35 104 [32,34],o 36 (.build [(.bool false),.nil] [(0,1,30),(1,1,35)]),ca 37 111 [36],so 2 4 37] (rl [2,3] 28 10) .ret) .skip)) (se [fa 38 3 0,uu 39 1 38,fa 40 3 1,uu 41 1 40,fa 42 2 1,uu 43 1 42,ca 44 104 [41,43],o 45 (.build [(.bool false),.nil] [(0,1,39),(1,1,44)]),ca 46 111 [45],so 2 4 46] (rl [2,3,28] 38 9) .ret))))),[.cell 4 true 2],false⟩
def T3:AFn:=⟨2,(sd [bx 2 0,bx 3 1,al 4 [(.bool false),.nil]] [0,1] (se [tt 5 2 2,tt 6 2 3,ca 7 114 [6],ca 8 115 [5,7],so 2 4 8] [2,3,5,6,7,8] .ret)),[.cell 4 true 2],false⟩
def TS:AFn:=⟨2,(sd [bx 2 0,bx 3 1,mv 4 k0] [0,1,4] (sd [tt 5 2 2,tt 6 2 3,ca 7 116 [5,6],ca 8 113 [7],m 4 8] [2,3,5,6,7,8] .ret)),[.tmp 4],false⟩
def TV:AFn:=⟨2,(sd [bx 2 0,bx 3 1,al 4 [(.bool false),.nil]] [0,1] (se [fa 5 2 0,uu 6 1 5,fa 7 3 0,uu 8 1 7,o 9 (.beq true 6 8),fa 10 2 1,uu 11 1 10,fa 12 3 1,uu 13 1 12,ca 14 105 [11,13],o 15 (.build [(.bool false),.nil] [(0,1,9),(1,1,14)]),ca 16 111 [15],so 2 4 16] (rl [2,3] 5 12) .ret)),[.cell 4 true 2],false⟩
def TT:AFn:=⟨2,(sd [bx 2 0,bx 3 1,al 4 [(.bool false),.nil],al 5 [(.bool false),.nil],mv 6 k0] [0,1,6] (se [tt 10 2 2,ca 11 111 [10],tt 12 2 3,ca 13 111 [12],so 2 2 11,so 2 3 13] (ra 10 4) (sd [fa 15 2 1,uu 16 1 15,fa 17 3 1,uu 18 1 17,ca 19 109 [16,18],m 14 19,et 20 14 0,et 21 14 1,et 22 14 2,m 7 20,m 8 21,m 9 22] (ra 14 9) (s (sd [m 23 9,bi 24 .neq 23 k0] [23] (i 24 (sd [o 25 (.build [(.bool false),.nil] []),o 26 (.build [(.bool false),.nil] []),m 27 9,so 2 4 25,so 2 5 26,m 6 27] (rl [2,3,7,8,9] 24 4) .ret) .skip)) (s (sd [fa 28 2 0,uu 29 1 28,m 30 29,g 31 30 true (.o9 8),g 32 30 true (.len 31),g 33 30 true (.bin .gtr 32 k0),pk 34 30 33 kf] (rl [9,24] 28 6) (i 34 (e [m 35 7,o 36 (.b8 36 1 [(.c (.int .u32 (1)))]),ca 37 103 [35,36],fa 38 3 1,q 39 [36] (.ld false 1 38),m 40 8,ca 41 104 [39,40],m 7 37,m 8 41] (ra 34 8)) .skip)) (sd [fa 42 2 0,uu 43 1 42,fa 44 3 0,uu 45 1 44,o 46 (.beq true 43 45),m 47 7,o 48 (.build [(.bool false),.nil] [(0,1,46),(1,1,47)]),ca 49 111 [48],m 50 8,o 51 (.build [(.bool false),.nil] [(1,1,50)]),so 2 4 49,so 2 5 51,mv 6 k0] (rl [2,3,7,8,34] 42 10) .ret)))))),[.cell 4 true 2,.cell 5 true 2,.tmp 6],false⟩
def TU:AFn:=⟨2,(sd [bx 2 0,bx 3 1,al 4 [(.bool false),.nil]] [0,1] (sd [fa 5 2 1,uu 6 1 5,fa 7 3 1,uu 8 1 7,ca 9 110 [6,8],o 10 (.build [(.bool false),.nil] [(1,1,9)]),so 2 4 10] (rl [2,3] 5 6) .ret)),[.cell 4 true 2],false⟩
def NC:AFn:=⟨2,(sd [bx 2 0,bx 3 1,al 4 z3] [0,1] (s (sd [tt 12 2 2,ca 13 113 [12],bi 14 .eql 13 k0,m 15 14,g 16 15 false (.ld true 2 3),g 17 15 false (.call 113 [16]),g 18 15 false (.bin .eql 17 k0),pk 19 15 kt 18] (ra 12 7) (i 19 (sd [o 20 (.b8 20 1 [(.c (.int .u32 (1)))]),o 21 (.build z3 [(2,1,20)]),so 3 4 21] [2,3,19,20,21] .ret) .skip)) (sd [tt 22 2 2,tt 23 2 3,ca 24 120 [22,23],al 5 [(.bool false),.nil],so 2 5 24] [19,22,23,24] (sd [tt 26 2 2,tt 27 2 5,ca 28 119 [26,27],m 25 28,et 29 25 0,et 30 25 1,et 31 25 2,al 6 [(.bool false),.nil],al 7 [(.bool false),.nil],so 2 6 29,so 2 7 30,m 8 31] (rl [2,7,8] 25 7) (sd [tt 33 2 3,tt 34 2 5,ca 35 119 [33,34],m 32 35,et 36 32 0,et 37 32 1,et 38 32 2,al 9 [(.bool false),.nil],al 10 [(.bool false),.nil],so 2 9 36,so 2 10 37,m 11 38] (rl [3,5,10,11] 32 7) (s (sd [fa 39 9 0,uu 40 1 39] [39] (i 40 (d [tt 41 2 6,ca 42 114 [41],so 2 6 42] [40,41,42]) .skip)) (sd [tt 43 2 6,fa 44 9 1,uu 45 1 44,o 46 (.build z3 [(0,2,43),(2,1,45)]),so 3 4 46] (rl [6,9,40] 43 4) .ret))))))),[.cell 4 true 3],false⟩
def PK:AFn:=⟨1,(sd [bx 1 0,al 2 [(.bool false),.nil],al 3 [(.bool false),.nil]] [0] (sd [fa 5 1 2,uu 6 1 5,ca 7 101 [6],o 8 (.build [(.bool false),.nil] [(1,1,7)]),al 4 [(.bool false),.nil],so 2 4 8] (ra 5 4) (s (sd [fa 9 4 1,uu 10 1 9,ln 11 10,bi 12 .eql 11 k0] [9,10,11] (i 12 (sd [o 13 (.build [(.bool false),.nil] []),o 14 (.b8 14 1 [(.c (.int .u32 (1)))]),o 15 (.build [(.bool false),.nil] [(1,1,14)]),so 2 2 13,so 2 3 15] (rl [1,4] 12 4) .ret) .skip)) (se [fa 16 1 0,tt 17 2 16,q 18 [2] (.ld true 2 4),n (.po 2 2 2 17),so 2 3 18] [1,4,12,16,17,18] .ret)))),[.cell 2 true 2,.cell 3 true 2],false⟩
def UB:AFn:=⟨1,(sd [bx 1 0,al 2 z3] [0] (sd [tt 6 3 1,o 7 (.o5 122 [6]),m 5 7,et 8 5 0,et 9 5 1,al 3 [(.bool false),.nil],al 4 [(.bool false),.nil],so 2 3 8,so 2 4 9] (rl [1] 5 5) (sd [tt 10 2 3,tt 11 2 4,ca 12 121 [10,11],so 3 2 12] [3,4,10,11,12] .ret))),[.cell 2 true 3],false⟩
def UA:AFn:=⟨1,(sp [al 2 z3] (sd [m 3 0,ca 4 112 [3],o 5 (.b8 5 1 [(.c (.int .u32 (1)))]),o 6 (.build z3 [(0,2,4),(2,1,5)]),so 3 2 6] [0,3,4,5,6] .ret)),[.cell 2 true 3],false⟩
def T8:AFn:=⟨2,(sp [al 4 z3] (sd [m 5 0,ca 6 112 [5],m 7 1,ca 8 112 [7],ca 9 121 [6,8],so 3 4 9] (rl [0,1] 5 5) .ret)),[.cell 4 true 3],false⟩
def T6:AFn:=⟨2,(sd [bx 2 0,bx 3 1,al 4 z3] [0,1] (sd [tt 10 3 2,o 11 (.o5 122 [10]),m 9 11,et 12 9 0,et 13 9 1,al 5 [(.bool false),.nil],al 6 [(.bool false),.nil],so 2 5 12,so 2 6 13] (rl [2] 9 5) (sd [tt 15 3 3,o 16 (.o5 122 [15]),m 14 16,et 17 14 0,et 18 14 1,al 7 [(.bool false),.nil],al 8 [(.bool false),.nil],so 2 7 17,so 2 8 18] (rl [3] 14 5) (se [tt 19 2 5,tt 20 2 8,ca 21 118 [19,20],tt 22 2 7,tt 23 2 6,ca 24 118 [22,23],ca 25 115 [21,24],tt 26 2 6,tt 27 2 8,ca 28 118 [26,27],ca 29 121 [25,28],so 3 4 29] (rl [5,6,7,8] 19 11) .ret)))),[.cell 4 true 3],false⟩
def T7:AFn:=⟨2,(sd [bx 2 0,bx 3 1,mv 4 k0] [0,1,4] (sd [tt 10 3 2,o 11 (.o5 122 [10]),m 9 11,et 12 9 0,et 13 9 1,al 5 [(.bool false),.nil],al 6 [(.bool false),.nil],so 2 5 12,so 2 6 13] (rl [2] 9 5) (sd [tt 15 3 3,o 16 (.o5 122 [15]),m 14 16,et 17 14 0,et 18 14 1,al 7 [(.bool false),.nil],al 8 [(.bool false),.nil],so 2 7 17,so 2 8 18] (rl [3] 14 5) (se [tt 19 2 5,tt 20 2 8,ca 21 118 [19,20],tt 22 2 7,tt 23 2 6,ca 24 118 [22,23],ca 25 117 [21,24],m 4 25] (rl [5,6,7,8] 19 7) .ret)))),[.tmp 4],false⟩
def T9:AFn:=⟨2,(sd [bx 2 0,bx 3 1,al 4 z3] [0,1] (sd [tt 10 3 2,o 11 (.o5 122 [10]),m 9 11,et 12 9 0,et 13 9 1,al 5 [(.bool false),.nil],al 6 [(.bool false),.nil],so 2 5 12,so 2 6 13] (rl [2] 9 5) (sd [tt 15 3 3,o 16 (.o5 122 [15]),m 14 16,et 17 14 0,et 18 14 1,al 7 [(.bool false),.nil],al 8 [(.bool false),.nil],so 2 7 17,so 2 8 18] (rl [3] 14 5) (se [tt 19 2 5,tt 20 2 7,ca 21 118 [19,20],tt 22 2 6,tt 23 2 8,ca 24 118 [22,23],ca 25 121 [21,24],so 3 4 25] (rl [5,6,7,8] 19 7) .ret)))),[.cell 4 true 3],false⟩
structure b7(L:Lib):Prop where
 JP:L 101=some F.JP
 PH:L 102=some F.PH
 PF:L 103=some F.PF
 K8:L 104=some F.K8
 NB:L 105=some F.NB
 PG:L 106=some F.PG
 JO:L 107=some F.JO
 PJ:L 108=some F.PJ
 D6:L 109=some F.D6
 PI:L 110=some F.PI
 T4:L 111=some F.T4
 TY:L 112=some F.TY
 TZ:L 113=some F.TZ
 TW:L 114=some F.TW
 TR:L 115=some F.TR
 T3:L 116=some F.T3
 TS:L 117=some F.TS
 TV:L 118=some F.TV
 TT:L 119=some F.TT
 TU:L 120=some F.TU
 NC:L 121=some F.NC
 PK:L 122=some F.PK
 UB:L 123=some F.UB
 UA:L 124=some F.UA
 T8:L 125=some F.T8
 T6:L 126=some F.T6
 T7:L 127=some F.T7
 T9:L 128=some F.T9
end Go.Eng.F

namespace Go.Eng.F
open C
def PU.l1:=(s (sd [m 7 6,m 8 0,ls 9 7 8] [7,8] (i 9 .skip (x 0))) (s (b 1 (sd [m 12 6,m 13 1,bi 14 .eql 12 13] [9,12,13] (i 14 (d [m 15 5,ca 16 124 [k1],o 17 (.b8 17 3 [16]),o 18 (.app 18 3 56 15 17),m 5 18] (ra 14 5)) (d [m 19 5,ca 20 124 [k0],o 21 (.b8 21 3 [20]),o 22 (.app 22 3 56 19 21),m 5 22] (rl [14] 19 4))))) (d [m 10 6,ad 11 10 k1,m 6 11] [10,11])))
def PU:AFn:=⟨2,(sd [mv 4 (.c .nil)] [4] (sp [o 5 (.z8 5 3)] (s (sp [mv 6 k0] (b 0 (w PU.l1))) (sd [m 23 5,m 4 23] [0,1,5,6,9,23] .ret)))),[.tmp 4],false⟩
def PO.l1:=(s (sd [m 24 4,m 25 3,ls 26 24 25] [24,25] (i 26 .skip (x 0))) (s (b 1 (sd [fa 29 1 0,uu 30 1 29,m 31 4,ia 32 1 30 31,uu 33 1 32,ln 34 33,m 35 3,bi 36 .neq 34 35] (rl [26] 29 7) (i 36 (sd [mv 2 kf] [1,3,4,36] .ret) .skip))) (d [m 27 4,ad 28 27 k1,m 4 28] [27,28,36])))
def PO:AFn:=⟨1,(sd [bx 1 0,mv 2 kf] [0,2] (sd [fa 5 1 0,uu 6 1 5,ln 7 6,m 3 7] [5,6,7] (s (sd [m 8 3,bi 9 .gtr 8 (k 64),m 10 9,g 11 10 false (.l8 1 1),g 12 10 false (.ld false 1 11),g 13 10 false (.len 12),g 14 10 false (.o9 3),g 15 10 false (.bin .neq 13 14),pk 16 10 kt 15,m 17 16,g 18 17 false (.l8 1 2),g 19 17 false (.ld false 1 18),g 20 17 false (.len 19),g 21 17 false (.o9 3),g 22 17 false (.bin .neq 20 21),pk 23 17 kt 22] (ra 8 15) (i 23 (sd [mv 2 kf] [1,3,23] .ret) .skip)) (s (sd [mv 4 k0] [23] (b 0 (w PO.l1))) (sd [mv 2 kt] [1,3,4,26] .ret))))),[.tmp 2],false⟩
def PN.l1:=(s (sd [m 8 6,m 9 0,ln 10 9,ls 11 8 10] [8,9,10] (i 11 .skip (x 0))) (s (b 1 (e [tt 14 3 5,m 15 0,m 16 6,ia 17 3 15 16,tt 18 3 17,m 19 1,m 20 6,ia 21 3 19 20,tt 22 3 21,ca 23 128 [18,22],ca 24 126 [14,23],so 3 5 24] (rl [11] 14 11))) (d [m 12 6,ad 13 12 k1,m 6 13] [12,13])))
def PN:AFn:=⟨2,(sp [al 4 z3] (sd [ca 7 124 [k0],al 5 z3,so 3 5 7] [7] (s (sp [mv 6 k0] (b 0 (w PN.l1))) (sd [tt 25 3 5,so 3 4 25] [0,1,5,6,11,25] .ret)))),[.cell 4 true 3],false⟩
def PQ.l1:=(s (sd [m 7 6,m 8 0,ln 9 8,ls 10 7 9] [7,8,9] (i 10 .skip (x 0))) (s (b 1 (d [m 13 5,m 14 0,m 15 6,ia 16 1 14 15,uu 17 1 16,m 18 1,ca 19 137 [17,18],o 20 (.b8 138020 3 [19]),o 21 (.app 138021 3 56 13 20),m 5 21] (rl [10] 13 9))) (d [m 11 6,ad 12 11 k1,m 6 12] [11,12])))
def PQ:AFn:=⟨2,(sd [mv 4 (.c .nil)] [4] (sp [o 5 (.z8 138005 3)] (s (sp [mv 6 k0] (b 0 (w PQ.l1))) (sd [m 22 5,m 4 22] [0,1,5,6,10,22] .ret)))),[.tmp 4],false⟩
structure ag(L:Lib):Prop extends a6 L,b7 L where
 PU:L 135=some F.PU
 PO:L 136=some F.PO
 PN:L 137=some F.PN
 PQ:L 138=some F.PQ
structure jk(L:Lib):Prop extends ag L,k7 L where
def TL:AFn:=⟨1,(sd [bx 1 0,al 2 z3] [0] (sd [fa 3 1 0,fa 4 3 0,uu 5 1 4,nt 6 5,fa 7 1 0,fa 8 7 1,uu 9 1 8,o 10 (.build [(.bool false),.nil] [(0,1,6),(1,1,9)]),fa 11 1 2,uu 12 1 11,o 13 (.build z3 [(0,2,10),(2,1,12)]),so 3 2 13] (rl [1] 3 11) .ret)),[.cell 2 true 3],false⟩
def TJ:AFn:=⟨2,(sd [bx 2 0,bx 3 1,al 4 z3] [0,1] (se [tt 5 3 2,tt 6 3 3,o 7 (.o5 149 [6]),ca 8 98 [5,7],so 3 4 8] [2,3,5,6,7,8] .ret)),[.cell 4 true 3],false⟩
def TG:AFn:=⟨2,(sp [al 4 z3] (s (sd [m 5 1,bi 6 .eql 5 k0] [5] (i 6 (sd [ca 7 96 [k0],so 3 4 7] [0,1,6,7] .ret) .skip)) (sd [m 8 0,ca 9 85 [8],m 10 1,ca 11 85 [10],o 12 (.j5 93 [9,11]),ca 13 94 [12],so 3 4 13] (rl [0,1,6] 8 6) .ret))),[.cell 4 true 3],false⟩
structure au(L:Lib):Prop extends a6 L where
 TL:L 149=some F.TL
 TJ:L 150=some F.TJ
 TG:L 151=some F.TG
structure jr(L:Lib):Prop extends a6 L where
structure jl(L:Lib):Prop extends b7 L where
structure ma(L:Lib):Prop extends jl L where
structure pq(L:Lib):Prop extends jk L,au L,jr L,ma L where
def SK:AFn:=⟨2,(sd [bx 2 0,bx 3 1,mv 4 k0] [0,1,4] (se [tt 7 2 2,ca 8 86 [7],tt 9 2 3,ca 10 86 [9],m 5 8,m 6 10] (ra 7 4) (s (b 0 (sd [m 12 5,m 13 6,ls 14 12 13,m 11 14] [12,13,14] (i 11 (sd [mv 4 (k (-1))] [2,3,5,6,11] .ret) (sd [m 16 5,m 17 6,bi 18 .gtr 16 17,m 15 18] [6,11,16,17,18] (i 15 (sd [mv 4 k1] [2,3,5,15] .ret) (sd [m 20 5,bi 21 .eql 20 (k (-1)),m 19 21] [5,15,20,21] (i 19 (sd [fa 22 3 1,uu 23 1 22,fa 24 2 1,uu 25 1 24,ca 26 67 [23,25],m 4 26] (rl [2,3,19] 22 5) .ret) .skip))))))) (sd [fa 27 2 1,uu 28 1 27,fa 29 3 1,uu 30 1 29,ca 31 67 [28,30],m 4 31] (rl [2,3,19] 27 5) .ret)))),[.tmp 4],false⟩
def PC:AFn:=⟨2,(sd [bx 2 0,bx 3 1,mv 4 k0] [0,1,4] (se [q 7 [5,6] (.ld true 3 2),q 8 [5,6] (.o5 89 [7]),q 9 [5,6] (.ld true 3 3),q 10 [5,6] (.o5 89 [9]),al 5 [(.bool false),.nil,.nil,(.bool false)],al 6 [(.bool false),.nil,.nil,(.bool false)],so 4 5 8,so 4 6 10] [2,3,7,8,9,10] (s (sd [fa 11 5 3,uu 12 1 11,m 13 12,g 14 13 true (.l8 6 3),g 15 13 true (.ld false 1 14),pk 16 13 15 kf] (ra 11 5) (i 16 (sd [fa 17 5 0,fa 18 17 0,tt 19 2 18,fa 20 6 0,fa 21 20 0,tt 22 2 21,ca 23 197 [19,22],m 4 23] (rl [5,6] 16 8) .ret) .skip)) (se [fa 24 5 0,fa 25 24 0,tt 26 2 25,fa 27 6 0,fa 28 27 2,uu 29 1 28,o 30 (.o5 91 [29]),ca 31 88 [26,30],fa 32 6 0,fa 33 32 0,tt 34 2 33,fa 35 5 0,fa 36 35 2,uu 37 1 36,o 38 (.o5 91 [37]),ca 39 88 [34,38],ca 40 197 [31,39],m 4 40] (rl [5,6,16] 24 17) .ret)))),[.tmp 4],false⟩
structure cb(L:Lib):Prop extends pq L where
 SK:L 197=some F.SK
 PC:L 198=some F.PC
def TD:AFn:=⟨1,(sd [bx 1 0,al 2 z3] [0] (sd [fa 3 1 0,fa 4 3 1,uu 5 1 4,o 6 (.build [(.bool false),.nil] [(1,1,5)]),fa 7 1 2,uu 8 1 7,o 9 (.build z3 [(0,2,6),(2,1,8)]),ca 10 95 [9],so 3 2 10] (rl [1] 3 8) .ret)),[.cell 2 true 3],false⟩
structure bf(L:Lib):Prop extends cb L where
 TD:L 256=some F.TD
def TB:AFn:=⟨1,(sd [bx 1 0,al 2 z3] [0] (sd [tt 3 3 1,ca 4 95 [3],o 5 (.nj 4 2 1 false),o 6 (.build [(.bool false),.nil] [(1,1,5)]),o 7 (.b8 7 1 [(.c (.int .u32 (1)))]),o 8 (.build z3 [(0,2,6),(2,1,7)]),so 3 2 8] (rl [1] 3 6) .ret)),[.cell 2 true 3],false⟩
def M7.l2:=(sp [ls 20 19 18] (s (i 20 .skip (x 2)) (s (b 3 (sd [ia 21 3 17 19,tt 22 3 21,al 7 z3,so 3 7 22] [20,21,22] (se [q 24 [8] (.ld true 3 3),q 25 [8] (.ld true 3 7),q 26 [8] (.call 294 [25]),q 27 [8] (.call 100 [24,26]),m 23 27,et 28 23 0,et 29 23 1,al 8 z3,so 3 8 28,m 9 29] (rl [7,9] 23 7) (e [tt 30 3 3,tt 31 3 8,ca 32 294 [31],ca 33 99 [30,32],so 3 3 33] (rl [8] 30 4))))) (d [ad 34 19 k1,m 19 34] [34]))))
def M7.l1:=(sp [ls 14 13 12] (s (i 14 .skip (x 0)) (s (b 1 (sd [ia 15 1 11 13,uu 16 1 15,m 5 16] [14,15,16] (sd [m 17 5,ln 18 17,mv 19 k0] [5] (b 2 (w M7.l2))))) (d [ad 35 13 k1,m 13 35] [17,18,19,20,35]))))
def M7:AFn:=⟨1,(sp [al 2 z3] (sd [ca 10 96 [k1],al 3 z3,so 3 3 10] [10] (s (sd [m 11 0,ln 12 11,mv 13 k0] [0] (b 0 (w M7.l1))) (sd [tt 36 3 3,so 3 2 36] [3,11,12,13,14,36] .ret)))),[.cell 2 true 3],false⟩
def PA.l1:=(sp [ls 13 12 11] (s (i 13 .skip (x 0)) (s (b 1 (sd [m 14 12,m 6 14] [13,14] (e [m 15 5,m 16 6,m 17 0,m 18 6,ia 19 3 17 18,tt 20 3 19,tt 21 3 3,ca 22 99 [20,21],ia 23 3 15 16,so 3 23 22] (rl [6] 15 9)))) (d [ad 24 12 k1,m 12 24] [24]))))
def PA:AFn:=⟨2,(sd [bx 3 1,mv 4 (.c .nil)] [1,4] (sd [m 7 0,ln 8 7,o 9 (.mk 9 3 56 z3 8 8),m 5 9] [7,8,9] (s (sd [m 10 0,ln 11 10,mv 12 k0] [10] (b 0 (w PA.l1))) (sd [m 25 5,m 4 25] [0,3,5,11,12,13,25] .ret)))),[.tmp 4],false⟩
def O4.l1:=(sp [ls 11 10 9] (s (i 11 .skip (x 0)) (s (b 1 (sd [m 12 10,m 6 12] [11,12] (sd [m 13 0,m 14 6,ia 15 3 13 14,tt 16 3 15,ca 17 97 [16],bi 18 .neq 17 k0,m 19 18,g 20 19 true (.o9 1),g 21 19 true (.o9 6),g 22 19 true (.q8 none 3 20 21),g 23 19 true (.ld true 3 22),g 24 19 true (.call 97 [23]),g 25 19 true (.bin .neq 24 k0),pk 26 19 25 kf] (ra 13 13) (i 26 (e [tt 27 3 5,m 28 0,m 29 6,ia 30 3 28 29,tt 31 3 30,m 32 1,m 33 6,ia 34 3 32 33,tt 35 3 34,ca 36 99 [31,35],ca 37 98 [27,36],so 3 5 37] (rl [6] 26 12)) .skip)))) (d [ad 38 10 k1,m 10 38] [6,26,38]))))
def O4:AFn:=⟨2,(sp [al 4 z3] (sd [ca 7 96 [k0],al 5 z3,so 3 5 7] [7] (s (sd [m 8 0,ln 9 8,mv 10 k0] [8] (b 0 (w O4.l1))) (sd [tt 39 3 5,so 3 4 39] [0,1,5,9,10,11,39] .ret)))),[.cell 4 true 3],false⟩
def O2.l1:=(sp [ls 13 12 11] (s (i 13 .skip (x 0)) (s (b 1 (sd [m 14 12,m 6 14] [13,14] (d [m 15 5,m 16 6,m 17 0,m 18 6,ia 19 1 17 18,uu 20 1 19,m 21 1,ca 22 297 [20,21],ia 23 3 15 16,so 3 23 22] (rl [6] 15 9)))) (d [ad 24 12 k1,m 12 24] [24]))))
def O2:AFn:=⟨2,(sd [mv 4 (.c .nil)] [4] (sd [m 7 0,ln 8 7,o 9 (.mk 9 3 56 z3 8 8),m 5 9] [7,8,9] (s (sd [m 10 0,ln 11 10,mv 12 k0] [10] (b 0 (w O2.l1))) (sd [m 25 5,m 4 25] [0,1,5,11,12,13,25] .ret)))),[.tmp 4],false⟩
def JL.l1:=(sp [ls 16 15 14] (s (i 16 .skip (x 0)) (s (b 1 (sd [m 17 15,m 5 17] [16,17] (d [m 18 4,m 19 5,m 20 3,o 21 (.mk 21 3 56 z3 20 20),ia 22 1 18 19,so 1 22 21] (rl [5] 18 5)))) (d [ad 23 15 k1,m 15 23] [23]))))
def JL.l3:=(sp [ls 32 31 30] (s (i 32 .skip (x 4)) (s (b 5 (sd [m 33 31,m 8 33] [32,33] (d [m 34 6,m 35 8,m 36 0,m 37 8,ia 38 1 36 37,uu 39 1 38,m 40 7,ia 41 3 39 40,tt 42 3 41,ia 43 3 34 35,so 3 43 42] (rl [8] 34 10)))) (d [ad 44 31 k1,m 31 44] [44]))))
def JL.l4:=(sp [ls 47 46 45] (s (i 47 .skip (x 6)) (s (b 7 (sd [m 48 46,m 9 48] [47,48] (e [m 49 4,m 50 9,ia 51 1 49 50,uu 52 1 51,m 53 7,m 54 0,m 55 9,ia 56 1 54 55,uu 57 1 56,m 58 6,ca 59 297 [57,58],ia 60 3 52 53,so 3 60 59] (rl [9] 49 12)))) (d [ad 61 46 k1,m 46 61] [61]))))
def JL.l2:=(sp [ls 28 27 26] (s (i 28 .skip (x 2)) (s (b 3 (sd [m 29 27,m 7 29] [28,29] (s (sp [m 30 3,mv 31 k0] (b 4 (w JL.l3))) (sd [m 45 3,mv 46 k0] [30,31,32] (b 6 (w JL.l4)))))) (d [ad 62 27 k1,m 27 62] [7,45,46,47,62]))))
def JL:AFn:=⟨1,(sd [mv 2 (.c .nil)] [2] (sd [m 10 0,ln 11 10,m 3 11] [10,11] (sd [m 12 3,o 13 (.mk 13 1 24 [.nil] 12 12),m 4 13] [12,13] (s (sp [m 14 3,mv 15 k0] (b 0 (w JL.l1))) (sd [m 24 3,o 25 (.mk 25 3 56 z3 24 24),m 6 25] [14,15,16,24,25] (s (sp [m 26 3,mv 27 k0] (b 2 (w JL.l2))) (sd [m 63 4,m 2 63] [0,3,4,6,26,27,28,63] .ret))))))),[.tmp 2],false⟩
def PB.l1:=(sp [ls 10 9 8] (s (i 10 .skip (x 0)) (s (b 1 (sd [ia 11 3 7 9,tt 12 3 11,al 5 z3,so 3 5 12] [10,11,12] (e [tt 13 3 3,tt 14 3 5,ca 15 256 [14],ca 16 98 [13,15],so 3 3 16] (rl [5] 13 4)))) (d [ad 17 9 k1,m 9 17] [17]))))
def PB:AFn:=⟨1,(sp [al 2 z3] (sd [ca 6 96 [k0],al 3 z3,so 3 3 6] [6] (s (sd [m 7 0,ln 8 7,mv 9 k0] [0] (b 0 (w PB.l1))) (sd [tt 18 3 3,so 3 2 18] [3,7,8,9,10,18] .ret)))),[.cell 2 true 3],false⟩
def O7.l1:=(sp [ls 11 10 9] (s (i 11 .skip (x 0)) (s (b 1 (sd [ia 12 3 8 10,tt 13 3 12,al 5 z3,so 3 5 13] [11,12,13] (sd [tt 14 3 5,ca 15 256 [14],al 6 z3,so 3 6 15] [5,14,15] (sd [tt 16 3 6,tt 17 3 3,ca 18 198 [16,17],bi 19 .gtr 18 k0] [16,17,18] (i 19 (d [tt 20 3 6,so 3 3 20] [6,19,20]) .skip))))) (d [ad 21 10 k1,m 10 21] [6,19,21]))))
def O7:AFn:=⟨1,(sp [al 2 z3] (sd [ca 7 96 [k0],al 3 z3,so 3 3 7] [7] (s (sd [m 8 0,ln 9 8,mv 10 k0] [0] (b 0 (w O7.l1))) (sd [tt 22 3 3,so 3 2 22] [3,8,9,10,11,22] .ret)))),[.cell 2 true 3],false⟩
def O3.l1:=(sp [ls 11 10 9] (s (i 11 .skip (x 0)) (s (b 1 (sd [ia 12 1 8 10,uu 13 1 12,m 6 13] [11,12,13] (sd [m 14 6,ca 15 300 [14],al 7 z3,so 3 7 15] [6,14,15] (se [tt 16 3 7,tt 17 3 7,ca 18 98 [16,17],tt 19 3 3,ca 20 198 [18,19],bi 21 .gtr 20 k0] (rl [7] 16 5) (i 21 (sd [mv 4 kf] [3,8,9,10,21] .ret) .skip))))) (d [ad 22 10 k1,m 10 22] [21,22]))))
def O3:AFn:=⟨2,(sd [bx 3 1,mv 4 kf] [1,4] (s (sd [m 8 0,ln 9 8,mv 10 k0] [0] (b 0 (w O3.l1))) (sd [mv 4 kt] (rl [3] 8 4) .ret))),[.tmp 4],false⟩
def K6.l1:=(sp [ls 16 15 14] (s (i 16 .skip (x 0)) (s (b 1 (sd [ia 17 1 13 15,uu 18 1 17,m 6 18] [16,17,18] (e [fa 19 4 0,q 20 [25] (.ld false 1 19),m 21 6,fa 22 4 1,tt 23 3 22,ca 24 296 [21,23],o 25 (.b8 25 1 [24]),o 26 (.app 26 1 24 20 25),fa 27 4 0,so 1 27 26] (rl [6] 19 9)))) (d [ad 28 15 k1,m 15 28] [28]))))
def K6.l2:=(s (sd [m 33 7,tt 34 3 8,ca 35 302 [33,34],nt 36 35] [33,34,35] (i 36 .skip (x 2))) (b 3 (s (sd [fa 37 4 4,uu 38 1 37,bi 39 .eql 38 (k 64)] [36,37,38] (i 39 (sd [o 40 (.build [.nil,(.bool false),.nil,.nil,z,(.bool false),.nil,.nil] []),so 8 2 40,mv 3 (k 14)] [4,7,8,39,40] .ret) .skip)) (se [m 41 7,ca 42 299 [41],tt 43 3 8,tt 44 3 8,ca 45 99 [43,44],m 7 42,so 3 8 45] (rl [39] 41 5) (d [fa 46 4 4,uu 47 1 46,bi 48 .mul 47 (k 2),fa 49 4 4,so 1 49 48] (ra 46 4))))))
def K6.l3:=(sp [ls 55 54 53] (s (i 55 .skip (x 4)) (s (b 5 (d [fa 56 4 5,tt 57 3 56,fa 58 4 1,tt 59 3 58,ca 60 99 [57,59],fa 61 4 5,so 3 61 60] (ra 55 7))) (d [ad 62 54 k1,m 54 62] [62]))))
def K6:AFn:=⟨1,(sd [al 2 [.nil,(.bool false),.nil,.nil,z,(.bool false),.nil,.nil],mv 3 k0] [3] (sd [m 9 0,ca 10 295 [9],ca 11 96 [k1],o 12 (.build [.nil,(.bool false),.nil,.nil,z,(.bool false),.nil,.nil] [(1,3,10),(4,1,k1),(5,3,11)]),al 4 [.nil,(.bool false),.nil,.nil,z,(.bool false),.nil,.nil],so 8 4 12] (ra 9 4) (s (sd [m 13 0,ln 14 13,mv 15 k0] [0] (b 0 (w K6.l1))) (se [fa 29 4 0,q 30 [8] (.ld false 1 29),fa 31 4 1,q 32 [8] (.ld true 3 31),al 8 z3,m 7 30,so 3 8 32] (rl [13,14,15,16] 29 4) (s (b 2 (w K6.l2)) (s (sd [fa 50 4 4,uu 51 1 50,bi 52 .mul (k 2) 51,sb 53 52 k1,mv 54 k0] [7,8,36,50,51,52] (b 4 (w K6.l3))) (sd [tt 63 8 4,so 8 2 63,mv 3 k0] [4,53,54,55,63] .ret))))))),[.cell 2 true 8,.tmp 3],false⟩
def O6.l1:=(sp [ls 15 14 13] (s (i 15 .skip (x 0)) (s (b 1 (sd [m 16 14,m 7 16] [15,16] (s (sd [m 17 7,bi 18 .gtr 17 k0] [17] (i 18 (d [fa 19 2 0,uu 20 1 19,m 21 6,ca 22 298 [20,21],m 6 22] (ra 18 5)) .skip)) (sd [fa 23 5 0,uu 24 1 23,m 25 6,o 26 (.b8 26 1 [25]),o 27 (.app 27 1 24 24 26),fa 28 5 0,so 1 28 27] (rl [18] 23 6) (sd [m 29 7,fa 30 2 4,uu 31 1 30,bi 32 .geq 29 31] [7,29,30,31] (i 32 (d [fa 33 5 1,tt 34 3 33,fa 35 2 1,tt 36 3 35,ca 37 99 [34,36],m 38 6,ca 39 301 [38],ca 40 98 [37,39],fa 41 5 1,so 3 41 40] (ra 32 10)) .skip)))))) (d [ad 42 14 k1,m 14 42] [32,42]))))
def O6:AFn:=⟨2,(sd [bx 2 0,al 4 [.nil,(.bool false),.nil,.nil]] [0] (sd [ca 8 96 [k0],o 9 (.build [.nil,(.bool false),.nil,.nil] [(1,3,8)]),al 5 [.nil,(.bool false),.nil,.nil],so 4 5 9] [8,9] (sd [m 10 1,m 6 10] [1,10] (s (sd [fa 11 2 4,uu 12 1 11,bi 13 .mul (k 2) 12,mv 14 k0] [11,12] (b 0 (w O6.l1))) (sd [tt 43 4 5,so 4 4 43] [2,5,6,13,14,15,43] .ret))))),[.cell 4 true 4],false⟩
def O5.l1:=(sp [ls 15 14 13] (s (i 15 .skip (x 0)) (s (b 1 (sd [ia 16 1 12 14,uu 17 1 16,m 9 17] [15,16,17] (d [tt 18 3 7,fa 19 3 1,tt 20 3 19,ca 21 99 [18,20],m 22 1,m 23 9,ca 24 297 [22,23],ca 25 256 [24],ca 26 98 [21,25],so 3 7 26] (rl [9] 18 9)))) (d [ad 27 14 k1,m 14 27] [27]))))
def O5:AFn:=⟨3,(sd [bx 3 0,bx 5 2,al 6 z3] [0,2] (sd [ca 10 96 [k0],al 7 z3,so 3 7 10] [10] (s (sd [fa 11 5 0,uu 12 1 11,ln 13 12,mv 14 k0] [11] (b 0 (w O5.l1))) (se [tt 28 3 7,m 29 1,ca 30 300 [29],fa 31 5 1,tt 32 3 31,ca 33 99 [30,32],ca 34 98 [28,33],so 3 6 34] (rl [1,3,5,7,12,13,14,15] 28 7) .ret)))),[.cell 6 true 3],false⟩
structure u5(L:Lib):Prop extends bf L where
 TB:L 294=some F.TB
 M7:L 295=some F.M7
 PA:L 296=some F.PA
 O4:L 297=some F.O4
 O2:L 298=some F.O2
 JL:L 299=some F.JL
 PB:L 300=some F.PB
 O7:L 301=some F.O7
 O3:L 302=some F.O3
 K6:L 303=some F.K6
 O6:L 304=some F.O6
 O5:L 305=some F.O5
def TC:AFn:=⟨1,(sd [bx 1 0,mv 2 kf] [0,2] (sd [tt 3 12 1,ca 4 21 [3],m 5 4,g 6 5 true (.l8 1 8),g 7 5 true (.ld false 1 6),g 8 5 true (.bin .leq 7 (k 16)),pk 9 5 8 kf,m 2 9] (rl [1] 3 7) .ret)),[.tmp 2],false⟩
def O8.l1:=(sp [ls 21 20 19] (s (i 21 .skip (x 0)) (s (b 1 (sd [ia 22 2 18 20,tt 23 2 22,al 8 [z,z],so 2 8 23] [21,22,23] (sd [fa 24 8 1,uu 25 1 24,m 26 5,bi 27 .rem 25 26,bi 28 .neq 27 k0] (rl [8] 24 4) (i 28 (d [mv 6 kf] [28]) .skip)))) (d [ad 29 20 k1,m 20 29] [28,29]))))
def O8:AFn:=⟨2,(sd [bx 2 0,al 4 z3] [0] (sd [fa 9 2 4,fa 10 9 1,uu 11 1 10,bi 12 .shl k1 11,m 5 12] (ra 9 4) (sp [mv 6 kt] (s (sd [fa 13 2 9,uu 14 1 13,m 15 1,ia 16 1 14 15,fa 17 16 0,uu 18 1 17,ln 19 18,mv 20 k0] (rl [1] 13 5) (b 0 (w O8.l1))) (s (b 2 (sd [m 31 6,m 30 31] [5,6,18,19,20,21,31] (i 30 (sd [ca 32 96 [k0],so 3 4 32] [2,30,32] .ret) (sd [fa 34 2 0,fa 35 34 2,uu 36 1 35,bi 37 .eql 36 (k 2),m 33 37] (rl [2,30] 34 4) (i 33 (sd [ca 38 151 [k1,(k 2)],so 3 4 38] [33,38] .ret) .skip))))) (sd [ca 39 96 [k1],so 3 4 39] [33,39] .ret)))))),[.cell 4 true 3],false⟩
def G6.l1:=(sp [ls 25 24 23] (s (i 25 .skip (x 0)) (s (b 1 (sd [m 26 24,m 7 26] [25,26] (d [m 27 6,m 28 7,ca 29 96 [k0],ia 30 3 27 28,so 3 30 29] (rl [7] 27 4)))) (d [ad 31 24 k1,m 24 31] [31]))))
def G6.l3:=(sp [ls 57 56 55] (s (i 57 .skip (x 4)) (s (b 5 (sd [ia 58 2 54 56,tt 59 2 58,al 13 [z,z],so 2 13 59] [57,58,59] (sd [m 60 6,fa 61 13 0,uu 62 1 61,ia 63 3 60 62,tt 64 3 63,ca 65 97 [64],bi 66 .neq 65 k0] (ra 60 6) (i 66 (e [tt 67 3 11,m 68 6,fa 69 13 0,uu 70 1 69,ia 71 3 68 70,tt 72 3 71,fa 73 13 1,uu 74 1 73,ca 75 96 [74],ca 76 99 [72,75],ca 77 98 [67,76],so 3 11 77] (rl [13] 66 12)) .skip)))) (d [ad 78 56 k1,m 56 78] [13,66,78]))))
def G6.l2:=(sp [ls 48 47 46] (s (i 48 .skip (x 2)) (s (b 3 (sd [m 49 47,ia 50 1 45 47,tt 51 1 50,al 10 [.nil],m 9 49,so 1 10 51] (ra 48 4) (sd [ca 52 96 [k0],al 11 z3,so 3 11 52] [52] (s (sd [fa 53 10 0,uu 54 1 53,ln 55 54,mv 56 k0] [10,53] (b 4 (w G6.l3))) (sd [m 79 6,m 80 5,m 81 9,ad 82 80 81,tt 83 3 11,tt 84 3 8,ca 85 99 [83,84],ia 86 3 79 82,so 3 86 85] (rl [11,54,55,56,57] 79 8) (sd [m 87 5,m 88 9,ad 89 87 88,m 90 1,bi 91 .eql 89 90] (rl [9] 87 4) (i 91 (d [m 92 6,m 93 1,ca 94 96 [k1],ia 95 3 92 93,so 3 95 94] (ra 91 5)) .skip))))))) (d [ad 96 47 k1,m 47 96] [91,96]))))
def G6:AFn:=⟨2,(sd [bx 2 0,mv 4 (.c .nil)] [0,4] (sd [fa 14 2 8,uu 15 1 14,ad 16 15 k1,m 5 16] [14,15,16] (sd [m 17 5,fa 18 2 9,uu 19 1 18,ln 20 19,ad 21 17 20,o 22 (.mk 22 3 56 z3 21 21),m 6 22] (ra 17 6) (s (sp [m 23 5,mv 24 k0] (b 0 (w G6.l1))) (s (sd [m 32 1,m 33 5,ls 34 32 33] [23,24,25,32,33] (i 34 (d [m 35 6,m 36 1,ca 37 96 [k1],ia 38 3 35 36,so 3 38 37] (ra 34 5)) .skip)) (sd [fa 39 2 4,fa 40 39 1,uu 41 1 40,bi 42 .shl k1 41,ca 43 151 [k1,42],al 8 z3,so 3 8 43] (rl [34] 39 5) (s (sd [fa 44 2 9,uu 45 1 44,ln 46 45,mv 47 k0] [2,44] (b 2 (w G6.l2))) (sd [m 97 6,m 4 97] [1,5,6,8,45,46,47,48,97] .ret)))))))),[.tmp 4],false⟩
def O9.l1:=(sp [ls 13 12 11] (s (i 13 .skip (x 0)) (s (b 1 (sd [m 14 12,m 6 14] [13,14] (d [m 15 5,m 16 6,m 17 0,m 18 6,ia 19 1 17 18,uu 20 1 19,m 21 1,ia 22 3 20 21,tt 23 3 22,ia 24 3 15 16,so 3 24 23] (rl [6] 15 10)))) (d [ad 25 12 k1,m 12 25] [25]))))
def O9:AFn:=⟨2,(sd [mv 4 (.c .nil)] [4] (sd [m 7 0,ln 8 7,o 9 (.mk 9 3 56 z3 8 8),m 5 9] [7,8,9] (s (sd [m 10 0,ln 11 10,mv 12 k0] [10] (b 0 (w O9.l1))) (sd [m 26 5,m 4 26] [0,1,5,11,12,13,26] .ret)))),[.tmp 4],false⟩
def TA:AFn:=⟨2,(sd [bx 2 0,al 4 z3] [0] (se [fa 5 2 0,tt 6 3 5,m 7 1,ca 8 96 [7],ca 9 99 [6,8],fa 10 2 3,tt 11 3 10,ca 12 98 [9,11],so 3 4 12] (rl [1,2] 5 8) .ret)),[.cell 4 true 3],false⟩
def M6.l1:=(sp [ls 42 41 40] (s (i 42 .skip (x 0)) (s (b 1 (sd [m 43 41,ia 44 8 39 41,tt 45 8 44,o 13 (.alloc 354013 [.nil,(.bool false),.nil,.nil,.nil,(.bool false),.nil,.nil]),m 12 43,so 8 13 45] (ra 42 4) (sd [m 46 12,o 47 (.mm false [46,k1]),m 14 47] [12,46,47] (se [m 48 14,m 49 14,o 50 (.q8 (some 2) 3 10 49),tt 51 3 50,fa 52 13 1,tt 53 3 52,fa 54 13 0,uu 55 1 54,m 56 0,ia 57 3 55 56,tt 58 3 57,ca 59 256 [58],ca 60 99 [53,59],ca 61 98 [51,60],o 62 (.q8 (some 2) 3 10 48),so 3 62 61] (ra 48 15) (e [m 63 14,m 64 14,o 65 (.q8 (some 2) 3 11 64),tt 66 3 65,fa 67 13 1,tt 68 3 67,tt 69 8 2,m 70 7,fa 71 13 4,tt 72 4 71,ca 73 305 [69,70,72],ca 74 99 [68,73],ca 75 98 [66,74],o 76 (.q8 (some 2) 3 11 63),so 3 76 75] (rl [13,14] 63 14)))))) (d [ad 77 41 k1,m 41 77] [77]))))
def M6.l2:=(sp [ls 79 78 (k 2)] (s (i 79 .skip (x 2)) (s (b 3 (sd [m 80 78,m 15 80] [79,80] (se [m 82 15,o 83 (.q8 (some 2) 3 11 82),q 84 [354016] (.ld true 3 83),q 85 [354016] (.ld true 3 9),q 86 [354016] (.call 100 [84,85]),m 81 86,et 87 81 0,et 88 81 1,o 16 (.alloc 354016 z3),so 3 16 87,m 17 88] (rl [17] 81 8) (e [m 89 15,m 90 15,o 91 (.q8 (some 2) 3 10 90),tt 92 3 91,tt 93 3 16,ca 94 98 [92,93],o 95 (.q8 (some 2) 3 10 89),so 3 95 94] (rl [15,16] 89 7))))) (d [ad 96 78 k1,m 78 96] [96]))))
def M6:AFn:=⟨5,(sp [o 6 (.alloc 354006 [(.bool false),.nil,.nil,(.bool false),.nil,.nil])] (sd [uu 18 1 1,m 19 0,ca 20 352 [18,19],m 7 20] [1,18,19,20] (sd [m 21 7,o 22 (.b8 354022 1 [21]),ca 23 295 [22],o 8 (.alloc 354008 z3),so 3 8 23] [21,22,23] (sd [m 24 7,tt 25 3 8,ca 26 296 [24,25],m 7 26] [24,25,26] (se [fa 27 2 5,q 28 [354009] (.ld true 3 27),q 29 [354009] (.ld true 3 3),q 30 [354009] (.ld true 3 8),q 31 [354009] (.call 99 [29,30]),q 32 [354009] (.call 99 [28,31]),o 9 (.alloc 354009 z3),so 3 9 32] (rl [3,8] 27 6) (sd [ca 33 96 [k0],ca 34 96 [k0],o 35 (.build [(.bool false),.nil,.nil,(.bool false),.nil,.nil] [(0,3,33),(3,3,34)]),o 10 (.alloc 354010 [(.bool false),.nil,.nil,(.bool false),.nil,.nil]),so 6 10 35] [33,34,35] (sd [ca 36 96 [k0],ca 37 96 [k0],o 38 (.build [(.bool false),.nil,.nil,(.bool false),.nil,.nil] [(0,3,36),(3,3,37)]),o 11 (.alloc 354011 [(.bool false),.nil,.nil,(.bool false),.nil,.nil]),so 6 11 38] [36,37,38] (s (sd [uu 39 1 4,ln 40 39,mv 41 k0] [4] (b 0 (w M6.l1))) (s (sd [mv 78 k0] (rl [0,2,7] 39 4) (b 2 (w M6.l2))) (sd [o 97 (.q8 (some 2) 3 10 k0),tt 98 3 97,o 99 (.q8 (some 2) 3 10 k1),tt 100 3 99,o 101 (.build [(.bool false),.nil,.nil,(.bool false),.nil,.nil] [(0,3,98),(3,3,100)]),so 6 6 101] (rl [9,10,11,78,79] 97 5) .ret)))))))))),[.cell 6 true 6],false⟩
def K5.l2:=(sp [ls 28 27 26] (s (i 28 .skip (x 2)) (s (b 3 (sd [ia 29 1 25 27,uu 30 1 29,m 11 30] [28,29,30] (e [m 31 7,m 32 8,m 33 7,m 34 8,ia 35 1 33 34,q 36 [355042] (.ld false 1 35),fa 37 9 0,uu 38 1 37,m 39 11,ia 40 3 38 39,tt 41 3 40,o 42 (.b8 355042 3 [41]),o 43 (.app 355043 3 56 36 42),ia 44 1 31 32,so 1 44 43] (rl [11] 31 14)))) (d [ad 45 27 k1,m 27 45] [45]))))
def K5.l1:=(sp [ls 20 19 18] (s (i 20 .skip (x 0)) (s (b 1 (sd [m 21 19,ia 22 8 17 19,tt 23 8 22,o 9 (.alloc 355009 [.nil,(.bool false),.nil,.nil,.nil,(.bool false),.nil,.nil]),m 8 21,so 8 9 23] (ra 20 4) (sd [fa 24 4 10,uu 25 1 24,ln 26 25,mv 27 k0] [24] (b 2 (w K5.l2))))) (d [ad 46 19 k1,m 19 46] [8,9,25,26,27,28,46]))))
def K5.l3:=(sp [ls 52 51 50] (s (i 52 .skip (x 4)) (s (b 5 (sd [m 53 51,m 13 53] [52,53] (e [m 54 2,m 55 13,tt 56 8 3,m 57 7,m 58 13,ia 59 1 57 58,uu 60 1 59,tt 61 3 12,ca 62 296 [60,61],o 63 (.o5 304 [56,62]),ia 64 8 54 55,fa 65 64 4,so 4 65 63] (rl [13] 54 12)))) (d [ad 66 51 k1,m 51 66] [66]))))
def K5:AFn:=⟨3,(sd [o 3 (.box 355003 0),o 4 (.box 355004 1),o 6 (.alloc 355006 z3)] [0,1] (sd [m 14 2,ln 15 14,o 16 (.mk 355016 1 24 [.nil] 15 15),m 7 16] [14,15,16] (s (sp [m 17 2,ln 18 17,mv 19 k0] (b 0 (w K5.l1))) (sd [m 47 7,ca 48 295 [47],o 12 (.alloc 355012 z3),so 3 12 48] [4,17,18,19,20,47,48] (s (sd [m 49 2,ln 50 49,mv 51 k0] [49] (b 4 (w K5.l3))) (sd [tt 67 3 12,so 3 6 67] [2,3,7,12,50,51,52,67] .ret)))))),[.cell 6 true 3],false⟩
def K4.l1:=(sp [ls 21 20 19] (s (i 21 .skip (x 0)) (s (b 1 (sd [m 22 20,m 5 22] [21,22] (e [q 23 [356028] (.ld false 1 4),m 24 5,tt 25 12 1,m 26 5,ad 27 k1 26,o 28 (.x5 356028 351 [25,27]),ia 29 1 23 24,so 1 29 28] (rl [5] 23 7)))) (d [ad 30 20 k1,m 20 30] [30]))))
def K4.l2:=(sp [ls 35 34 33] (s (i 35 .skip (x 2)) (s (b 3 (sd [ia 36 1 32 34,uu 37 1 36,m 8 37] [35,36,37] (d [m 38 6,uu 39 1 4,m 40 8,ca 41 352 [39,40],o 42 (.b8 356042 1 [41]),o 43 (.app 356043 1 24 38 42),m 6 43] (rl [8] 38 6)))) (d [ad 44 34 k1,m 34 44] [44]))))
def K4.l3:=(sp [ls 62 61 60] (s (i 62 .skip (x 4)) (s (b 5 (sd [m 63 61,m 12 63] [62,63] (sd [tt 64 12 1,m 65 12,ca 66 350 [64,65],o 13 (.alloc 356013 z3),so 3 13 66] [64,65,66] (sd [tt 67 3 13,ca 68 97 [67],bi 69 .gtr 68 k0] [67,68] (i 69 (e [q 70 [356080] (.ld false 1 11),tt 71 12 1,fa 72 1 8,uu 73 1 72,ad 74 k1 73,m 75 12,ad 76 74 75,ca 77 351 [71,76],tt 78 3 13,o 79 (.build [.nil,(.bool false),.nil,.nil,.nil,(.bool false),.nil,.nil] [(0,1,77),(1,3,78)]),o 80 (.b8 356080 8 [79]),o 81 (.app 356081 8 160 70 80),so 1 11 81] (rl [12,13] 69 13)) .skip))))) (d [ad 82 61 k1,m 61 82] [12,13,69,82]))))
def K4:AFn:=⟨1,(sd [o 1 (.box 356001 0),mv 2 (.c (.x7 .nilFunc)),mv 3 k0] [0,2,3] (sd [fa 15 1 8,uu 16 1 15,o 17 (.mk 356017 1 24 [.nil] 16 16),o 4 (.alloc 356004 [.nil]),so 1 4 17] [15,16,17] (s (sd [uu 18 1 4,ln 19 18,mv 20 k0] [18] (b 0 (w K4.l1))) (sd [o 6 (.z8 356006 1)] [19,20,21] (s (sd [fa 31 1 10,uu 32 1 31,ln 33 32,mv 34 k0] [31] (b 2 (w K4.l2))) (sd [m 46 6,ca 47 303 [46],m 45 47,et 48 45 0,et 49 45 1,o 9 (.alloc 356009 [.nil,(.bool false),.nil,.nil,z,(.bool false),.nil,.nil]),so 8 9 48,m 10 49] (rl [6,32,33,34,35] 45 5) (s (sd [m 50 10,bi 51 .neq 50 k0] [50] (i 51 (sd [m 52 10,mv 2 (.c (.x7 .nilFunc)),m 3 52] [1,4,9,10,51,52] .ret) .skip)) (sd [tt 53 12 1,ca 54 351 [53,k0],ca 55 96 [k1],o 56 (.build [.nil,(.bool false),.nil,.nil,.nil,(.bool false),.nil,.nil] [(0,1,54),(1,3,55)]),o 57 (.b8 356057 8 [56]),o 11 (.alloc 356011 [.nil]),so 1 11 57] (rl [10,51] 53 5) (s (sd [fa 58 1 9,uu 59 1 58,ln 60 59,mv 61 k0] [58,59] (b 4 (w K4.l3))) (sd [tt 83 8 9,tt 84 12 1,uu 85 1 11,o 86 (.j5 355 [83,84,85]),o 14 (.alloc 356014 z3),so 3 14 86] (rl [1,60,61,62] 83 4) (sd [o 87 (.pg false 354 [4,9,14,11]),m 2 87,mv 3 k0] [4,9,11,14,87] .ret))))))))))),[.tmp 2,.tmp 3],false⟩
structure w8(L:Lib):Prop extends u5 L where
 TC:L 349=some F.TC
 O8:L 350=some F.O8
 G6:L 351=some F.G6
 O9:L 352=some F.O9
 TA:L 353=some F.TA
 M6:L 354=some F.M6
 K5:L 355=some F.K5
 K4:L 356=some F.K4
def S9:AFn:=⟨3,(sd [bx 3 0,al 6 z3,mv 7 k0] [0,7] (s (sd [tt 10 12 3,ca 11 349 [10],nt 12 11] [10,11] (i 12 (sd [o 13 (.build z3 []),so 3 6 13,mv 7 (k 2)] [1,2,3,12,13] .ret) .skip)) (s (sd [m 14 1,ls 15 14 k0,m 16 15,g 17 16 false (.o9 1),g 18 16 false (.l8 3 8),g 19 16 false (.ld false 1 18),g 20 16 false (.l8 3 9),g 21 16 false (.ld false 1 20),g 22 16 false (.len 21),g 23 16 false (.bin .add 19 22),g 24 16 false (.bin .gtr 17 23),pk 25 16 kt 24,m 26 25,g 27 26 false (.o9 2),g 28 26 false (.bin .lss 27 k0),pk 29 26 kt 28,m 30 29,g 31 30 false (.o9 2),g 32 30 false (.l8 3 0),g 33 30 false (.ld true 4 32),g 34 30 false (.call 4 [33]),g 35 30 false (.bin .gtr 31 34),pk 36 30 kt 35] (rl [12] 14 22) (i 36 (sd [o 37 (.build z3 []),so 3 6 37,mv 7 k1] [1,2,3,36,37] .ret) .skip)) (sd [tt 39 12 3,o 40 (.j5 356 [39]),m 38 40,et 41 38 0,et 42 38 1,m 8 41,m 9 42] (rl [3,36] 38 5) (s (sd [m 43 9,bi 44 .neq 43 k0] [43] (i 44 (sd [o 45 (.build z3 []),m 46 9,so 3 6 45,m 7 46] [1,2,8,9,44,45,46] .ret) .skip)) (sd [m 47 8,m 48 1,o 49 (.u6 47 [48]),m 50 2,ca 51 353 [49,50],so 3 6 51,mv 7 k0] (rl [1,2,8,9,44] 47 5) .ret)))))),[.cell 6 true 3,.tmp 7],false⟩
structure df(L:Lib):Prop extends w8 L where
 S9:L 360=some F.S9
def TQ:AFn:=⟨1,(sd [bx 1 0,al 2 [(.bool false),.nil]] [0] (sd [fa 3 1 1,uu 4 1 3,ca 5 101 [4],o 6 (.build [(.bool false),.nil] [(1,1,5)]),so 2 2 6] [1,3,4,5,6] .ret)),[.cell 2 true 2],false⟩
def T5:AFn:=⟨1,(sd [bx 1 0,al 2 z3] [0] (sd [tt 3 3 1,ca 4 123 [3],so 3 1 4] [3,4] (sd [fa 5 1 0,tt 6 2 5,ca 7 308 [6],fa 8 1 0,so 2 8 7] (ra 5 4) (sd [tt 9 3 1,so 3 2 9] [1,9] .ret)))),[.cell 2 true 3],false⟩
def P0.l1:=(s (sd [m 4 3,m 5 0,ln 6 5,ls 7 4 6] [4,5,6] (i 7 .skip (x 0))) (s (b 1 (sd [m 10 0,m 11 3,ia 12 1 10 11,uu 13 1 12,ln 14 13,m 15 0,ln 16 15,bi 17 .neq 14 16] (rl [7] 10 7) (i 17 (sd [mv 2 kf] [0,3,17] .ret) .skip))) (d [m 8 3,ad 9 8 k1,m 3 9] [8,9,17])))
def P0:AFn:=⟨1,(sd [mv 2 kf] [2] (s (sp [mv 3 k0] (b 0 (w P0.l1))) (sd [m 18 0,ln 19 18,bi 20 .leq 19 (k 16),m 2 20] [0,3,7,18,19,20] .ret))),[.tmp 2],false⟩
def PY.l1:=(s (sd [m 6 4,m 7 0,ln 8 7,ls 9 6 8] [6,7,8] (i 9 .skip (x 0))) (s (b 1 (e [tt 12 3 3,m 13 0,m 14 4,ia 15 3 13 14,tt 16 3 15,ca 17 309 [16],ca 18 126 [12,17],so 3 3 18] (rl [9] 12 7))) (d [m 10 4,ad 11 10 k1,m 4 11] [10,11])))
def PY:AFn:=⟨1,(sp [al 2 z3] (sd [ca 5 124 [k0],al 3 z3,so 3 3 5] [5] (s (sp [mv 4 k0] (b 0 (w PY.l1))) (sd [tt 19 3 3,so 3 2 19] [0,3,4,9,19] .ret)))),[.cell 2 true 3],false⟩
def PV.l1:=(s (sd [m 6 4,m 7 0,ln 8 7,ls 9 6 8] [6,7,8] (i 9 .skip (x 0))) (s (b 1 (se [m 12 0,m 13 4,ia 14 3 12 13,tt 15 3 14,ca 16 309 [15],tt 17 3 3,ca 18 127 [16,17],bi 19 .gtr 18 k0] (rl [9] 12 7) (i 19 (d [m 20 0,m 21 4,ia 22 3 20 21,tt 23 3 22,ca 24 309 [23],so 3 3 24] (ra 19 6)) .skip))) (d [m 10 4,ad 11 10 k1,m 4 11] [10,11,19])))
def PV:AFn:=⟨1,(sp [al 2 z3] (sd [ca 5 124 [k0],al 3 z3,so 3 3 5] [5] (s (sp [mv 4 k0] (b 0 (w PV.l1))) (sd [tt 25 3 3,so 3 2 25] [0,3,4,9,25] .ret)))),[.cell 2 true 3],false⟩
def LA.l3:=(s (sd [m 24 7,m 25 0,ln 26 25,ls 27 24 26] [24,25,26] (i 27 .skip (x 4))) (s (b 5 (e [tt 30 3 6,m 31 0,m 32 4,ia 33 1 31 32,uu 34 1 33,m 35 7,ia 36 3 34 35,tt 37 3 36,m 38 0,m 39 7,ia 40 1 38 39,uu 41 1 40,m 42 5,ia 43 3 41 42,tt 44 3 43,ca 45 128 [37,44],ca 46 126 [30,45],so 3 6 46] (rl [27] 30 17))) (d [m 28 7,ad 29 28 k1,m 7 29] [28,29])))
def LA.l2:=(s (sd [m 17 5,m 18 0,ln 19 18,ls 20 17 19] [17,18,19] (i 20 .skip (x 2))) (s (b 3 (sd [ca 23 124 [k0],al 6 z3,so 3 6 23] [20,23] (s (sp [mv 7 k0] (b 4 (w LA.l3))) (e [m 47 3,m 48 4,m 49 3,m 50 4,ia 51 1 49 50,q 52 [54] (.ld false 1 51),tt 53 3 6,o 54 (.b8 54 3 [53]),o 55 (.app 55 3 56 52 54),ia 56 1 47 48,so 1 56 55] (rl [6,7,27] 47 10))))) (d [m 21 5,ad 22 21 k1,m 5 22] [21,22])))
def LA.l1:=(s (sd [m 11 4,m 12 0,ln 13 12,ls 14 11 13] [11,12,13] (i 14 .skip (x 0))) (s (b 1 (sd [mv 5 k0] [14] (b 2 (w LA.l2)))) (d [m 15 4,ad 16 15 k1,m 4 16] [5,15,16,20])))
def LA:AFn:=⟨1,(sd [mv 2 (.c .nil)] [2] (sd [m 8 0,ln 9 8,o 10 (.mk 10 1 24 [.nil] 9 9),m 3 10] [8,9,10] (s (sp [mv 4 k0] (b 0 (w LA.l1))) (sd [m 57 3,m 2 57] [0,3,4,14,57] .ret)))),[.tmp 2],false⟩
def NE.l2:=(s (sd [m 14 6,m 15 0,ln 16 15,ls 17 14 16] [14,15,16] (i 17 .skip (x 2))) (s (b 3 (d [m 20 5,m 21 20,g 22 21 true (.o9 0),g 23 21 true (.o9 6),g 24 21 true (.q8 none 1 22 23),g 25 21 true (.ld false 1 24),g 26 21 true (.call 311 [25]),g 27 21 true (.call 125 [k1,(k 2)]),g 28 21 true (.call 127 [26,27]),g 29 21 true (.bin .leq 28 k0),pk 30 21 29 kf,m 5 30] (rl [17] 20 11))) (d [m 18 6,ad 19 18 k1,m 6 19] [18,19])))
def NE.l1:=(s (sd [m 10 4,bi 11 .leq 10 (k 64)] [10] (i 11 .skip (x 0))) (s (b 1 (sd [mv 5 kt] [11] (s (sp [mv 6 k0] (b 2 (w NE.l2))) (s (sd [m 31 5] [5,6,17] (i 31 (sd [m 32 4,m 2 32,mv 3 k0] [0,4,31,32] .ret) .skip)) (d [m 33 0,ca 34 313 [33],m 0 34] [31,33,34]))))) (d [m 12 4,bi 13 .mul (k 2) 12,m 4 13] [12,13])))
def NE:AFn:=⟨1,(sd [mv 2 k0,mv 3 k0] [2,3] (s (sd [m 7 0,ca 8 310 [7],nt 9 8] [7,8] (i 9 (sd [mv 2 k0,mv 3 (k 2)] [0,9] .ret) .skip)) (s (sd [mv 4 k1] [9] (b 0 (w NE.l1))) (sd [mv 2 k0,mv 3 (k 14)] [0,4,11] .ret)))),[.tmp 2,.tmp 3],false⟩
def PZ.l1:=(s (sd [m 34 8,m 35 4,bi 36 .mul (k 2) 35,ls 37 34 36] [34,35,36] (i 37 .skip (x 0))) (s (b 1 (se [tt 40 3 6,fa 41 1 2,uu 42 1 41,m 43 7,ca 44 137 [42,43],ca 45 309 [44],ca 46 126 [40,45],so 3 6 46] (rl [37] 40 7) (s (sd [m 47 8,m 48 4,bi 49 .geq 47 48] [47,48] (i 49 (e [tt 50 3 6,fa 51 1 2,uu 52 1 51,ca 53 311 [52],m 54 7,ca 55 312 [54],ca 56 128 [53,55],ca 57 126 [50,56],so 3 6 57] (ra 49 9)) .skip)) (d [fa 58 1 0,uu 59 1 58,m 60 7,ca 61 138 [59,60],m 7 61] (rl [49] 58 4))))) (d [m 38 8,ad 39 38 k1,m 8 39] [38,39])))
def PZ:AFn:=⟨1,(sd [bx 1 0,al 2 z3,mv 3 k0] [0,3] (s (sd [tt 9 6 1,ca 10 136 [9],nt 11 10,m 12 11,g 13 12 false (.l8 1 0),g 14 12 false (.ld false 1 13),g 15 12 false (.len 14),g 16 12 false (.bin .gtr 15 (k 16)),pk 17 12 kt 16] (ra 9 8) (i 17 (sd [o 18 (.build z3 []),so 3 2 18,mv 3 (k 2)] [1,17,18] .ret) .skip)) (sd [fa 20 1 0,uu 21 1 20,ca 22 314 [21],m 19 22,et 23 19 0,et 24 19 1,m 4 23,m 5 24] (rl [17] 19 6) (s (sd [m 25 5,bi 26 .neq 25 k0] [25] (i 26 (sd [o 27 (.build z3 []),m 28 5,so 3 2 27,m 3 28] [1,4,5,26,27,28] .ret) .skip)) (sd [fa 29 1 3,tt 30 3 29,ca 31 309 [30],al 6 z3,so 3 6 31] [5,26,29,30,31] (sd [fa 32 1 1,uu 33 1 32,m 7 33] [32,33] (s (sp [mv 8 k0] (b 0 (w PZ.l1))) (sd [tt 62 3 6,so 3 2 62,mv 3 k0] [1,4,6,7,8,37,62] .ret)))))))),[.cell 2 true 3,.tmp 3],false⟩
structure ay(L:Lib):Prop extends cb L where
 TQ:L 308=some F.TQ
 T5:L 309=some F.T5
 P0:L 310=some F.P0
 PY:L 311=some F.PY
 PV:L 312=some F.PV
 LA:L 313=some F.LA
 NE:L 314=some F.NE
 PZ:L 315=some F.PZ
def JQ.l1:=(s (sd [m 30 6,fa 31 2 8,uu 32 1 31,ls 33 30 32] [30,31,32] (i 33 .skip (x 0))) (s (b 1 (d [m 36 5,fa 37 2 8,uu 38 1 37,ad 39 38 k1,m 40 6,o 41 (.x5 41 135 [39,40]),o 42 (.b8 42 1 [41]),o 43 (.app 43 1 24 36 42),m 5 43] (rl [33] 36 8))) (d [m 34 6,ad 35 34 k1,m 6 35] [34,35])))
def JQ.l4:=(s (sd [m 75 11,m 76 8,ln 77 76,ls 78 75 77] [75,76,77] (i 78 .skip (x 6))) (s (b 7 (e [m 81 8,m 82 11,m 83 8,m 84 11,ia 85 3 83 84,tt 86 3 85,fa 87 10 1,uu 88 1 87,fa 89 2 4,fa 90 89 1,uu 91 1 90,cu 92 91,bi 93 .shl k1 92,ca 94 125 [88,93],m 95 5,fa 96 10 0,uu 97 1 96,ia 98 1 95 97,uu 99 1 98,m 100 11,ia 101 3 99 100,tt 102 3 101,ca 103 128 [94,102],ca 104 126 [86,103],ia 105 3 81 82,so 3 105 104] (rl [78] 81 25))) (d [m 79 11,ad 80 79 k1,m 11 80] [79,80])))
def JQ.l3:=(s (sd [m 55 9,fa 56 2 9,uu 57 1 56,m 58 7,ia 59 1 57 58,fa 60 59 0,uu 61 1 60,ln 62 61,ls 63 55 62] (ra 55 8) (i 63 .skip (x 4))) (s (b 5 (sd [fa 66 2 9,uu 67 1 66,m 68 7,ia 69 1 67 68,fa 70 69 0,uu 71 1 70,m 72 9,ia 73 2 71 72,tt 74 2 73,al 10 [z,z],so 2 10 74] (rl [63] 66 9) (sp [mv 11 k0] (b 6 (w JQ.l4))))) (d [m 64 9,ad 65 64 k1,m 9 65] [10,11,64,65,78])))
def JQ.l2:=(s (sd [m 44 7,fa 45 2 9,uu 46 1 45,ln 47 46,ls 48 44 47] (ra 44 4) (i 48 .skip (x 2))) (s (b 3 (sd [fa 51 2 8,uu 52 1 51,ad 53 52 k1,o 54 (.x5 54 135 [53,(k (-1))]),m 8 54] (rl [48] 51 4) (s (sp [mv 9 k0] (b 4 (w JQ.l3))) (s (sd [m 106 7,m 107 1,bi 108 .eql 106 107] [9,63,106,107] (i 108 (e [m 109 8,fa 110 2 8,uu 111 1 110,m 112 8,fa 113 2 8,uu 114 1 113,ia 115 3 112 114,tt 116 3 115,ca 117 124 [k1],ca 118 126 [116,117],ia 119 3 109 111,so 3 119 118] (ra 108 12)) .skip)) (d [m 120 5,m 121 8,o 122 (.b8 122 1 [121]),o 123 (.app 123 1 24 120 122),m 5 123] (rl [8,108] 120 4)))))) (d [m 49 7,ad 50 49 k1,m 7 50] [49,50])))
def JQ:AFn:=⟨2,(sd [bx 2 0,mv 4 (.c .nil)] [0,4] (sp [o 5 (.z8 5 1)] (s (sd [m 12 1,bi 13 .geq 12 k0] [12] (i 13 (d [m 14 5,fa 15 2 8,uu 16 1 15,ad 17 16 k1,o 18 (.x5 18 135 [17,(k (-1))]),o 19 (.b8 19 1 [18]),o 20 (.app 20 1 24 14 19),m 5 20] (ra 13 8)) (d [m 21 5,fa 22 2 8,uu 23 1 22,ad 24 23 k1,fa 25 2 8,uu 26 1 25,o 27 (.x5 27 135 [24,26]),o 28 (.b8 28 1 [27]),o 29 (.app 29 1 24 21 28),m 5 29] (rl [13] 21 9)))) (s (sp [mv 6 k0] (b 0 (w JQ.l1))) (s (sd [mv 7 k0] [6,33] (b 2 (w JQ.l2))) (sd [m 124 5,m 4 124] [1,2,5,7,48,124] .ret)))))),[.tmp 4],false⟩
def PS.l1:=(s (sd [m 25 6,fa 26 2 8,uu 27 1 26,ls 28 25 27] [25,26,27] (i 28 .skip (x 0))) (s (b 1 (se [fa 31 5 0,q 32 [44] (.ld false 1 31),m 33 1,fa 34 2 10,uu 35 1 34,m 36 6,ia 37 1 35 36,uu 38 1 37,ia 39 1 33 38,uu 40 1 39,fa 41 2 8,uu 42 1 41,o 43 (.ik 3 40 none (some 42)),o 44 (.b8 44 1 [43]),o 45 (.app 45 1 24 32 44),fa 46 5 0,so 1 46 45] (rl [28] 31 16) (e [fa 47 5 1,q 48 [61] (.ld false 1 47),m 49 1,fa 50 2 10,uu 51 1 50,m 52 6,ia 53 1 51 52,uu 54 1 53,ia 55 1 49 54,uu 56 1 55,fa 57 2 8,uu 58 1 57,ia 59 3 56 58,tt 60 3 59,o 61 (.b8 61 3 [60]),o 62 (.app 62 3 56 48 61),fa 63 5 1,so 1 63 62] (ra 47 17)))) (d [m 29 6,ad 30 29 k1,m 6 30] [29,30])))
def PS:AFn:=⟨2,(sd [bx 2 0,al 4 z6] [0] (se [m 7 1,fa 8 2 11,q 9 [5] (.ld false 1 8),ia 10 1 7 9,q 11 [5] (.ld false 1 10),fa 12 2 8,q 13 [5] (.ld false 1 12),o 14 (.ik 3 11 none (some 13)),m 15 1,fa 16 2 11,q 17 [5] (.ld false 1 16),ia 18 1 15 17,q 19 [5] (.ld false 1 18),fa 20 2 8,q 21 [5] (.ld false 1 20),ia 22 3 19 21,q 23 [5] (.ld true 3 22),o 24 (.build z6 [(2,1,14),(3,3,23)]),al 5 z6,so 6 5 24] (ra 7 18) (s (sp [mv 6 k0] (b 0 (w PS.l1))) (sd [tt 64 6 5,so 6 4 64] [1,2,5,6,28,64] .ret)))),[.cell 4 true 6],false⟩
def UN:AFn:=⟨1,(sd [bx 1 0,al 2 z6,mv 3 k0] [0,3] (s (sd [tt 4 12 1,ca 5 27 [4],nt 6 5] [4,5] (i 6 (sd [o 7 (.build z6 []),so 6 2 7,mv 3 (k 2)] [1,6,7] .ret) .skip)) (se [tt 8 12 1,tt 9 12 1,ca 10 163 [9,(k (-1))],ca 11 164 [8,10],so 6 2 11,mv 3 k0] (rl [1,6] 8 4) .ret))),[.cell 2 true 6,.tmp 3],false⟩
def UM:AFn:=⟨2,(sd [bx 2 0,al 4 z6,mv 5 k0] [0,5] (s (sd [tt 6 12 2,ca 7 27 [6],nt 8 7] [6,7] (i 8 (sd [o 9 (.build z6 []),so 6 4 9,mv 5 (k 2)] [1,2,8,9] .ret) .skip)) (s (sd [m 10 1,fa 11 2 9,uu 12 1 11,ln 13 12,sb 14 13 k1,ca 15 10 [10,k0,14],nt 16 15] (rl [8] 10 6) (i 16 (sd [o 17 (.build z6 []),so 6 4 17,mv 5 k1] [1,2,16,17] .ret) .skip)) (se [tt 18 12 2,tt 19 12 2,m 20 1,ca 21 163 [19,20],ca 22 164 [18,21],so 6 4 22,mv 5 k0] (rl [1,2,16] 18 5) .ret)))),[.cell 4 true 6,.tmp 5],false⟩
structure af(L:Lib):Prop extends jk L,au L,jl L where
 JQ:L 163=some F.JQ
 PS:L 164=some F.PS
 UN:L 165=some F.UN
 UM:L 166=some F.UM
def ND.l1:=(s (sd [m 17 4,m 18 5,ls 19 17 18] [17,18] (i 19 .skip (x 0))) (b 1 (sd [m 20 4,m 21 5,m 22 4,sb 23 21 22,ad 24 23 k1,bi 25 .quo 24 (k 2),ad 26 20 25,m 6 26] (ra 19 8) (se [m 27 6,ca 28 124 [27],tt 29 3 1,ca 30 127 [28,29],bi 31 .leq 30 k0] (ra 27 4) (i 31 (d [m 32 6,m 4 32] [6,31,32]) (d [m 33 6,sb 34 33 k1,m 5 34] [6,31,33,34]))))))
def ND:AFn:=⟨1,(sd [bx 1 0,mv 2 k0,mv 3 kf] [0,2,3] (s (se [tt 7 3 1,ca 8 124 [(k 1099511627776)],ca 9 127 [7,8],bi 10 .gtr 9 k0,m 11 10,g 12 11 false (.ld true 3 1),g 13 11 false (.call 124 [(k (-1099511627776))]),g 14 11 false (.call 127 [12,13]),g 15 11 false (.bin .lss 14 k0),pk 16 11 kt 15] (ra 7 9) (i 16 (sd [mv 2 k0,mv 3 kf] [1,16] .ret) .skip)) (sd [mv 4 (k (-1099511627776)),mv 5 (k 1099511627776)] [16] (s (b 0 (w ND.l1)) (sd [m 35 4,m 2 35,mv 3 kt] [1,4,5,19,35] .ret))))),[.tmp 2,.tmp 3],false⟩
structure cj(L:Lib):Prop extends b7 L where
 ND:L 361=some F.ND
def PW.l1:=(s (sd [m 20 7,fa 21 2 9,uu 22 1 21,m 23 1,ia 24 1 22 23,fa 25 24 0,uu 26 1 25,ln 27 26,ls 28 20 27] (ra 20 8) (i 28 .skip (x 0))) (s (b 1 (e [m 31 6,m 32 31,g 33 32 true (.l8 2 9),g 34 32 true (.ld false 1 33),g 35 32 true (.o9 1),g 36 32 true (.q8 none 1 34 35),g 37 32 true (.l8 36 0),g 38 32 true (.ld false 1 37),g 39 32 true (.o9 7),g 40 32 true (.q8 none 2 38 39),g 41 32 true (.l8 40 1),g 42 32 true (.ld false 1 41),g 43 32 true (.l8 2 4),g 44 32 true (.l8 43 1),g 45 32 true (.ld false 1 44),g 46 32 true (.conv .u64 45),g 47 32 true (.bin .shl k1 46),g 48 32 true (.bin .rem 42 47),g 49 32 true (.bin .eql 48 k0),pk 50 32 49 kf,m 6 50] (rl [28] 31 20))) (d [m 29 7,ad 30 29 k1,m 7 30] [29,30])))
def PW:AFn:=⟨2,(sd [bx 2 0,al 4 z3,mv 5 k0] [0,5] (s (sd [tt 8 12 2,ca 9 27 [8],nt 10 9] [8,9] (i 10 (sd [o 11 (.build z3 []),so 3 4 11,mv 5 (k 2)] [1,2,10,11] .ret) .skip)) (s (sd [m 12 1,fa 13 2 9,uu 14 1 13,ln 15 14,sb 16 15 k1,ca 17 10 [12,k0,16],nt 18 17] (rl [10] 12 6) (i 18 (sd [o 19 (.build z3 []),so 3 4 19,mv 5 k1] [1,2,18,19] .ret) .skip)) (sd [mv 6 kt] [18] (s (sp [mv 7 k0] (b 0 (w PW.l1))) (s (b 2 (sd [m 52 6,m 51 52] [1,6,7,28,52] (i 51 (sd [ca 53 124 [k0],so 3 4 53,mv 5 k0] [2,51,53] .ret) (sd [fa 55 2 0,fa 56 55 2,uu 57 1 56,bi 58 .eql 57 (k 2),m 54 58] (rl [2,51] 55 4) (i 54 (sd [ca 59 125 [k1,(k 2)],so 3 4 59,mv 5 k0] [54,59] .ret) .skip))))) (sd [ca 60 124 [k1],so 3 4 60,mv 5 k0] [54,60] .ret))))))),[.cell 4 true 3,.tmp 5],false⟩
def PX.l1:=(s (sd [m 40 13,fa 41 3 9,uu 42 1 41,ln 43 42,ls 44 40 43] (ra 40 4) (i 44 .skip (x 0))) (s (b 1 (sd [tt 48 12 3,m 49 13,ca 50 362 [48,49],m 47 50,et 51 47 0,et 52 47 1,al 14 z3,so 3 14 51,m 15 52] (rl [15,44] 47 6) (sd [tt 54 12 3,m 55 13,ca 56 166 [54,55],m 53 56,et 57 53 0,et 58 53 1,al 16 z6,so 6 16 57,m 17 58] (rl [17] 53 6) (sd [tt 60 6 16,ca 61 315 [60],m 59 61,et 62 59 0,et 63 59 1,al 18 z3,so 3 18 62,m 19 63] (rl [16] 59 5) (s (sd [m 64 19,bi 65 .neq 64 k0] [64] (i 65 (sd [o 66 (.build z3 []),m 67 19,so 3 6 66,m 7 67] [3,12,13,14,18,19,65,66,67] .ret) .skip)) (e [tt 68 3 12,tt 69 3 14,tt 70 3 18,ca 71 128 [69,70],ca 72 126 [68,71],so 3 12 72] (rl [14,18,19,65] 68 5))))))) (d [m 45 13,ad 46 45 k1,m 13 46] [45,46])))
def PX:AFn:=⟨3,(sd [bx 3 0,al 6 z3,mv 7 k0] [0,7] (sd [m 20 1,fa 21 3 11,so 1 21 20] [1,20,21] (sd [tt 23 12 3,ca 24 165 [23],m 22 24,et 25 22 0,et 26 22 1,al 8 z6,so 6 8 25,m 9 26] (rl [9] 22 5) (sd [tt 28 6 8,ca 29 315 [28],m 27 29,et 30 27 0,et 31 27 1,al 10 z3,so 3 10 30,m 11 31] (rl [8] 27 5) (s (sd [m 32 11,bi 33 .neq 32 k0] [32] (i 33 (sd [o 34 (.build z3 []),m 35 11,so 3 6 34,m 7 35] [2,3,10,11,33,34,35] .ret) .skip)) (se [m 36 2,q 37 [12] (.call 124 [36]),q 38 [12] (.ld true 3 10),q 39 [12] (.call 128 [37,38]),al 12 z3,so 3 12 39] (rl [2,10,11,33] 36 4) (s (sp [mv 13 k0] (b 0 (w PX.l1))) (sd [tt 73 3 12,so 3 6 73,mv 7 k0] [3,12,13,44,73] .ret)))))))),[.cell 6 true 3,.tmp 7],false⟩
structure ck(L:Lib):Prop extends ay L,af L,cj L where
 PW:L 362=some F.PW
 PX:L 364=some F.PX
def KW:AFn:=⟨2,(sd [bx 2 0,bx 3 1,al 4 [(.bool false),.nil],al 5 [(.bool false),.nil],mv 6 k0] [0,1,6] (sd [fa 11 2 1,uu 12 1 11,fa 13 3 1,uu 14 1 13,ca 15 75 [12,14],m 10 15,et 16 10 0,et 17 10 1,et 18 10 2,m 7 16,m 8 17,m 9 18] (ra 10 9) (s (sd [m 19 9,bi 20 .neq 19 k0] [19] (i 20 (sd [o 21 (.build [(.bool false),.nil] []),o 22 (.build [(.bool false),.nil] []),m 23 9,so 2 4 21,so 2 5 22,m 6 23] (rl [2,3,7,8,9] 20 4) .ret) .skip)) (s (sd [fa 24 2 0,uu 25 1 24,m 26 25,g 27 26 true (.o9 8),g 28 26 true (.len 27),g 29 26 true (.bin .gtr 28 k0),pk 30 26 29 kf] (rl [9,20] 24 6) (i 30 (sd [m 31 7,o 32 (.b8 32 1 [(.c (.int .u32 (1)))]),ca 33 68 [31,32],m 7 33] (ra 30 4) (d [fa 34 3 1,uu 35 1 34,m 36 8,ca 37 69 [35,36],m 8 37] (ra 34 4))) .skip)) (sd [fa 38 2 0,uu 39 1 38,fa 40 3 0,uu 41 1 40,o 42 (.beq true 39 41),m 43 7,o 44 (.j5 83 [42,43]),m 45 8,o 46 (.j5 83 [kf,45]),so 2 4 44,so 2 5 46,mv 6 k0] (rl [2,3,7,8,30] 38 9) .ret))))),[.cell 4 true 2,.cell 5 true 2,.tmp 6],false⟩
def TF:AFn:=⟨1,(sd [bx 1 0,al 2 [(.bool false),.nil]] [0] (sd [tt 7 3 1,o 8 (.o5 89 [7]),al 3 [(.bool false),.nil,.nil,(.bool false)],so 4 3 8] [1,7,8] (se [fa 10 3 0,fa 11 10 0,q 12 [4,5] (.ld true 2 11),fa 13 3 0,fa 14 13 2,q 15 [4,5] (.ld false 1 14),q 16 [4,5] (.o5 91 [15]),q 17 [4,5] (.call 383 [12,16]),m 9 17,et 18 9 0,et 19 9 1,et 20 9 2,al 4 [(.bool false),.nil],al 5 [(.bool false),.nil],so 2 4 18,so 2 5 19,m 6 20] (rl [3,5,6] 9 12) (sd [tt 21 2 4,so 2 2 21] [4,21] .ret)))),[.cell 2 true 2],false⟩
structure dw(L:Lib):Prop extends bf L,af L,cj L where
 KW:L 383=some F.KW
 TF:L 384=some F.TF
def MN.l1:=(sp [ls 15 14 13] (s (i 15 .skip (x 0)) (s (b 1 (sd [m 16 14,ia 17 1 12 14,uu 18 1 17,m 4 16,m 5 18] (ra 15 4) (d [m 19 3,m 20 5,o 21 (.conv .i64 20),m 22 4,bi 23 .mul (k 32) 22,bi 24 .shl 21 23,ad 25 19 24,m 3 25] (rl [4,5] 19 7)))) (d [ad 26 14 k1,m 14 26] [26]))))
def MN:AFn:=⟨1,(sd [bx 1 0,mv 2 k0] [0,2] (s (se [tt 6 3 1,ca 7 96 [(k 1099511627776)],ca 8 198 [6,7],bi 9 .geq 8 k0] [6,7,8] (i 9 (sd [mv 2 (k 1099511627776)] [1,9] .ret) .skip)) (sd [mv 3 k0] [9] (s (sd [tt 10 3 1,ca 11 384 [10],o 12 (.nj 11 1 1 false),ln 13 12,mv 14 k0] [1,10,11] (b 0 (w MN.l1))) (sd [m 27 3,m 2 27] [3,12,13,14,15,27] .ret))))),[.tmp 2],false⟩
def KX.l1:=(sp [ls 37 36 35] (s (i 37 .skip (x 0)) (s (b 1 (sd [m 38 36,m 8 38] [37,38] (sd [tt 40 12 2,m 41 8,ad 42 k1 41,ca 43 360 [40,42,k0],m 39 43,et 44 39 0,et 45 39 1,al 9 z3,so 3 9 44,m 10 45] (ra 39 7) (s (sd [m 46 10,bi 47 .neq 46 k0] [46] (i 47 (sd [m 48 10,mv 4 (.c .nil),m 5 48] [2,6,7,8,9,10,35,36,47,48] .ret) .skip)) (sd [tt 50 12 2,m 51 8,ad 52 k1 51,ca 53 360 [50,52,k1],m 49 53,et 54 49 0,et 55 49 1,al 11 z3,so 3 11 54,m 10 55] (rl [47] 49 7) (s (sd [m 56 10,bi 57 .neq 56 k0] [56] (i 57 (sd [m 58 10,mv 4 (.c .nil),m 5 58] [2,6,7,8,9,10,11,35,36,57,58] .ret) .skip)) (sd [tt 59 3 11,tt 60 3 9,ca 61 150 [59,60],al 12 z3,so 3 12 61] [10,11,57,59,60,61] (e [m 62 7,m 63 8,tt 64 3 9,tt 65 3 12,tt 66 3 6,ca 67 99 [65,66],ca 68 98 [64,67],ca 69 449 [68],ia 70 1 62 63,so 1 70 69] (rl [8,9,12] 62 9))))))))) (d [ad 71 36 k1,m 36 71] [71]))))
def KX:AFn:=⟨2,(sd [bx 2 0,mv 4 (.c .nil),mv 5 k0] [0,4,5] (s (sd [tt 13 12 2,ca 14 21 [13],nt 15 14,m 16 15,g 17 16 false (.l8 2 8),g 18 16 false (.ld false 1 17),g 19 16 false (.bin .gtr 18 (k 16)),pk 20 16 kt 19] (ra 13 7) (i 20 (sd [mv 4 (.c .nil),mv 5 (k 2)] [1,2,20] .ret) .skip)) (s (sd [fa 21 2 0,tt 22 4 21,m 23 1,ca 24 5 [22,23],nt 25 24] (ra 20 5) (i 25 (sd [mv 4 (.c .nil),mv 5 (k 17)] [1,2,25] .ret) .skip)) (sd [m 26 1,m 27 1,o 28 (.un .neg 27),o 29 (.mm true [26,28]),ca 30 96 [29],al 6 z3,so 3 6 30] (rl [1] 25 6) (sd [fa 31 2 8,uu 32 1 31,o 33 (.mk 33 1 8 [z] 32 32),m 7 33] [31,32,33] (s (sd [m 34 7,ln 35 34,mv 36 k0] [34] (b 0 (w KX.l1))) (sd [m 72 7,m 4 72,mv 5 k0] [2,6,7,35,36,37,72] .ret))))))),[.tmp 4,.tmp 5],false⟩
def LB.l1:=(s (sd [m 43 11,fa 44 2 8,uu 45 1 44,ls 46 43 45] [43,44,45] (i 46 .skip (x 0))) (s (b 1 (sd [tt 50 12 2,m 51 11,ad 52 k1 51,m 53 1,m 54 1,o 55 (.un .neg 54),o 56 (.mm true [53,55]),ca 57 364 [50,52,56],m 49 57,et 58 49 0,et 59 49 1,al 12 z3,so 3 12 58,m 13 59] (rl [13,46] 49 11) (sd [tt 61 3 12,ca 62 361 [61],m 60 62,et 63 60 0,et 64 60 1,m 14 63,m 15 64] (rl [12] 60 5) (s (sd [m 65 15,nt 66 65] [15,65] (i 66 (d [mv 14 (k 1099511627776)] [66]) .skip)) (d [m 67 10,m 68 14,o 69 (.b8 69 1 [68]),o 70 (.app 70 1 8 67 69),m 10 70] (rl [14] 66 5)))))) (d [m 47 11,ad 48 47 k1,m 11 48] [47,48])))
def LB:AFn:=⟨2,(sd [bx 2 0,mv 4 (.c .nil),mv 5 k0] [0,4,5] (s (sd [tt 16 12 2,ca 17 27 [16],nt 18 17,m 19 18,g 20 19 false (.l8 2 8),g 21 19 false (.ld false 1 20),g 22 19 false (.bin .gtr 21 (k 16)),pk 23 19 kt 22] (ra 16 7) (i 23 (sd [mv 4 (.c .nil),mv 5 (k 2)] [1,2,23] .ret) .skip)) (s (sd [fa 24 2 0,tt 25 4 24,m 26 1,ca 27 14 [25,26],nt 28 27] (ra 23 5) (i 28 (sd [mv 4 (.c .nil),mv 5 (k 17)] [1,2,28] .ret) .skip)) (sd [tt 30 12 2,ca 31 165 [30],m 29 31,et 32 29 0,et 33 29 1,al 6 z6,so 6 6 32,m 7 33] (rl [7] 28 6) (s (sd [fa 35 6 0,uu 36 1 35,ca 37 314 [36],m 34 37,et 38 34 0,et 39 34 1,m 8 38,m 9 39] (rl [6,8] 34 6) (sd [m 40 9,bi 41 .neq 40 k0] [40] (i 41 (sd [m 42 9,mv 4 (.c .nil),m 5 42] [1,2,9,41,42] .ret) .skip))) (sd [o 10 (.z8 10 1)] [9,41] (s (sp [mv 11 k0] (b 0 (w LB.l1))) (sd [m 71 10,m 4 71,mv 5 k0] [1,2,10,11,46,71] .ret)))))))),[.tmp 4,.tmp 5],false⟩
structure aq(L:Lib):Prop extends df L,ck L,dw L where
 MN:L 449=some F.MN
 KX:L 450=some F.KX
 LB:L 451=some F.LB
def SR:AFn:=⟨4,(sd [bx 4 0,mv 8 kf] [0,8] (s (sd [m 24 2,ln 25 24,bi 26 .gtr 25 (k 10),m 27 26,g 28 27 false (.o9 3),g 29 27 false (.len 28),g 30 27 false (.bin .gtr 29 (k 10)),pk 31 27 kt 30] (ra 24 7) (i 31 (sd [ca 32 437 [],m 8 32] [1,2,3,4,31,32] .ret) .skip)) (sd [tt 33 7 4,ca 34 42 [33],al 9 [z,z,z,z,z,z,z,z,z,.nil,.nil,z],so 12 9 34] [4,31,33,34] (sd [tt 36 12 9,m 37 1,ca 38 450 [36,37],m 35 38,et 39 35 0,et 40 35 1,m 10 39,m 11 40] (rl [10] 35 6) (sd [tt 42 12 9,m 43 1,ca 44 451 [42,43],m 41 44,et 45 41 0,et 46 41 1,m 12 45,m 13 46] (rl [12] 41 6) (sd [tt 48 12 9,m 49 1,m 50 2,ca 51 433 [48,49,50],m 47 51,et 52 47 0,et 53 47 1,m 14 52,m 15 53] (rl [14] 47 7) (sd [tt 55 12 9,m 56 1,m 57 2,ca 58 447 [55,56,57],m 54 58,et 59 54 0,et 60 54 1,m 16 59,m 17 60] (rl [2,16] 54 7) (sd [tt 62 12 9,m 63 3,m 64 1,ca 65 436 [62,63,64],m 61 65,et 66 61 0,et 67 61 1,et 68 61 2,al 18 [.nil,.nil],so 2 18 66,m 19 67,m 20 68] (rl [18,19] 61 8) (sd [tt 70 12 9,m 71 3,m 72 1,ca 73 448 [70,71,72],m 69 73,et 74 69 0,et 75 69 1,et 76 69 2,al 21 [.nil,.nil],so 2 21 74,m 22 75,m 23 76] (rl [1,3,9,21,22] 69 8) (sd [ca 77 437 [],m 78 77,g 79 78 true (.o9 11),g 80 78 true (.o9 13),g 81 78 true (.bin .eql 79 80),pk 82 78 81 kf,m 83 82,g 84 83 true (.o9 15),g 85 83 true (.o9 17),g 86 83 true (.bin .eql 84 85),pk 87 83 86 kf,m 88 87,g 89 88 true (.o9 20),g 90 88 true (.o9 23),g 91 88 true (.bin .eql 89 90),pk 92 88 91 kf,m 8 92] (rl [11,13,15,17,20,23] 77 16) .ret)))))))))),[.tmp 8],false⟩
structure jq(L:Lib):Prop extends dh L,w4 L,aq L where
 SR:L 454=some F.SR
end Go.Eng.F











































namespace Go.Eng
open Go.RowKit
theorem I0(b o n:Nat):(⟨b,o,none⟩:Addr).add n=⟨b,o+n,none⟩:=by
 unfold Addr.add;split<;>simp_all
inductive Rd(w:World)(R:Bool->Nat->Prop):AV->Value->Prop
 |int (k:IntKind) (n:Int):Rd w R (.int k n) (.int k n)
 |bool (b:Bool):Rd w R (.bool b) (.bool b)
 |str (s:ByteArray):Rd w R (.x7 (.string s)) (.string s)
 |ml:Rd w R (.x7 .nilFunc) .nilFunc
 |mn:Rd w R (.x7 (.map none)) (.map none)
 |jb (l:Bool) (a:Option Addr) (cap:Nat):Rd w R (.sl l []) (.slice a 0 cap)
 |emp (b:Bool) (a:Option Addr) (cap:Nat) (h:a.isNone=b):Rd w R (.x7 (.bool b)) (.slice a 0 cap)
 |sl (l:Bool) (es:v_) (b o a7 cap:Nat) (u:Nat->Nat->Value) (o7:es≠[]) (hp:0<a7) (hR:R l b) (bq:es.length<=cap) (hz:∀e∈es,e.length=a7)
   (hc:∀i e,es[i]?=some e->∀j c,e[j]?=some c->w.cell? ⟨b,o+(i*a7+j),none⟩=some (u i j))
   (hr:∀i e,es[i]?=some e->∀j c,e[j]?=some c->Rd w R c (u i j)) :
   Rd w R (.sl l es) (.slice (some ⟨b,o,none⟩) es.length cap)
theorem Rd.one{w:World}{R:Bool->Nat->Prop}{a:AV}{v:Value}(h:Rd w R a v):v.oneCell'=true:=by
 cases h<;>rfl
theorem RS{w:World}{a:Addr}{u:Value}(h:w.cell? a=some u):a.block<w.heap.size:=by
 unfold World.cell? at h;split at h
 ·rename_i hh
  exact(Array.getElem?_eq_some_iff.1 hh).1
 ·cases h
theorem aQ{es:v_}{a7:Nat}(o7:es≠[])(hp:0<a7)(hz:∀e∈es,e.length=a7):∃e c,es[0]?=some e/\e[0]?=some c:=by
 cases es with
 |nil=>exact absurd rfl o7
 |cons e r=>
  have:=hz e Z'
  cases e with
  |nil=>simp at this;omega
  |cons c q=>exact⟨c::q,c,rfl,rfl⟩
theorem Rd.mono{w w':World}{R R':Bool->Nat->Prop}(hR:∀l b,b<w.heap.size->R l b->R' l b)
  (hw:∀l b,b<w.heap.size->R l b->w'.heap[b]?=w.heap[b]?) {a:AV} {v:Value} (h:Rd w R a v):Rd w' R' a v:=by
 induction h with
 |int k n=>exact .int k n
 |bool b=>exact .bool b
 |str s=>exact .str s
 |ml=>exact .ml
 |mn=>exact .mn
 |jb l a cap=>exact .jb l a cap
 |emp b a cap h=>exact .emp b a cap h
 |sl l es b o a7 cap u o7 hp h1 bq hz hc hr ih=>
  obtain⟨e,c,he,dz⟩:=aQ o7 hp hz;have hb:b<w.heap.size:=RS (hc 0 e he 0 c dz);refine .sl l es b o a7 cap u o7 hp (hR l b hb h1) bq hz (λi e he j c Df=>?_) ih;rw[World.cell?_of_block (w:=w) (hw l b hb h1)];exact hc i e he j c Df
structure F2 where
 w:World
 D:Prop
structure DL(D:Prop)(B:Nat)(w w':World):Prop extends Below B w w' where
 drawn:D->w.drawn<=w'.drawn
section
variable {D:Prop} {B B':Nat} {a b c:World}
theorem DL.refl(D:Prop)(B:Nat)(w:World):DL D B w w:=⟨Below.refl B w,λ_=>Ga _⟩
theorem DL.trans(h:DL D B a b)(k:DL D B b c):DL D B a c:=⟨h.toBelow.trans k.toBelow,λd=>Fb (h.drawn d) (k.drawn d)⟩
theorem DL.mono(h:DL D B a b)(hB:B'<=B):DL D B' a b:=⟨h.toBelow.mono hB,h.drawn⟩
theorem DL.Ib{D':Prop}(h:DL D B a b)(k:D'->D):DL D' B a b:=⟨h.toBelow,λd=>h.drawn (k d)⟩
theorem DL.drew(h:DL D B a b):DL D B a b.drew:=⟨h.toBelow.drew,λd=>Nat.le_succ_of_le (h.drawn d)⟩
theorem DL.alloc(h:DL D B a b)(hB:B<=b.heap.size)(o:Obj):DL D B a (b.alloc o):=⟨h.toBelow.alloc hB o,h.drawn⟩
end
structure M where
 ν:Nat->Nat->Option Nat
 own:Own
 w:World
section
variable (B:Nat) (S:Nat->Prop)
def safe(m:M)(l:Bool)(b:Nat):Prop :=
 (S b/\b<B)\/(B<=b/\∀s t,(m.own.get s t).isSome=true->m.ν s t≠some b)\/(l=true/\b<B)
inductive CC(m:M):AV->Value->Prop
 |rd {a:AV} {v:Value} (h:Rd m.w (safe B S m) a v):CC m a v
 |nil:CC m .nil (.slice none 0 0)
 |row (s t z off len:Nat) (a:Option Addr) (cap:Nat) (ht:t<m.own.j6 s) (hz0:0<z) (jn:len<=cap) (ha:0<len->a.isSome=true)
   (h:∀b,m.own.get s t=some b->b.a7=z/\((len=0/\cap=0)\/∃g arr e,m.ν s t=some g/\a=some ⟨g,off*z,none⟩/\m.w.heap[g]?=some (.cells arr e (0,0))/\(off+cap)*z<=arr.size)) (hs:s<D9) :
   CC m (.row s t z off len) (.slice a len cap)
 |ptr (s t i j:Nat) (a:Addr) (ht:t<m.own.j6 s) (h:∀b,m.own.get s t=some b->∃g,m.ν s t=some g/\a=⟨g,i*b.a7+j,none⟩) (hs:s<D9):CC m (.ptr s t i j) (.pointer (some a))
 |mp (s t g:Nat) (ht:t<m.own.j6 s) (h:∀b,m.own.get s t=some b->m.ν s t=some g) (hs:D9<=s):CC m (.mp s t) (.map (some g))
 |x9 (cs:w_) (b o:Nat) (u:Nat->Value) (l:Bool) (hR:cs≠[]->safe B S m l b) (hc:∀j c,cs[j]?=some c->m.w.cell? ⟨b,o+j,none⟩=some (u j)) (hr:∀j c,cs[j]?=some c->Rd m.w (safe B S m) c (u j)) :
   CC m (.x9 cs) (.pointer (some ⟨b,o,none⟩))
def CL(m:M)(cs:w_)(vs:List Value):Prop:=cs.length=vs.length/\∀(j:Nat)(c:AV)(v:Value),cs[j]?=some c->vs[j]?=some v->CC B S m c v
inductive CA(m:M):AV->Value->Prop
 |one {a:AV} {v:Value} (h:CC B S m a v):CA m a v
 |agg (cs:w_) (vs:List Value) (h:CL B S m cs vs):CA m (.agg cs) (.agg vs.toArray)
 |fn (p:Bool) (f g:Nat) (cs:w_) (vs:List Value) (hp:p=true->cs=[]) (h:CL B S m cs vs):CA m (.fn p f g cs) (.func (.func g) #[] vs.toArray)
 |tf (f g:Nat) (cs:w_) (vs:List Value) (hp:cs≠[]) (h:CL B S m cs vs):CA m (.fn true f g cs) (.func (.func g) #[.agg vs.toArray] #[])
inductive CV(m:M):AV->Value->Prop
 |any (v:Value):CV m .any v
 |ca {a:AV} {v:Value} (h:CA B S m a v):CV m a v
 |j4 (as:w_) (vs:List Value) (hl:as.length=vs.length) (h:∀(j:Nat)(c:AV)(v:Value),as[j]?=some c->vs[j]?=some v->CA B S m c v):CV m (.j4 as) (.tuple vs.toArray)
def NP(c:w_):Value×Value:=match c with
 |[.x7 (.string s),.int .i64 n]=>(.string s,.int .i64 n)
 |_=>(.bool false,.bool false)
def LO(es:Array MapEntry)(clock:Nat)(l:v_):Prop :=
 MapKept.Stamped es clock/\es.size<=l.length/\(es.toList.map λx=>(x.key,x.val)).Perm (l.map NP) /\
  ∀c∈l,∃(s:ByteArray) (n:Int),c=[.x7 (.string s),.int .i64 n]/\s.size<=maxLen/\(Lit.int .i64 n).wf=true
def tK(m:M)(s t:Nat)(b:C2):Prop :=
 (∀e∈b.es,e.length=b.a7)/\match m.ν s t with
  |none=>b.es=[]
  |some g=>B<=g/\∃arr e,m.w.heap[g]?=some (.cells arr e (0,0)) /\
    ∀i cs,b.es[i]?=some cs->∀j c,cs[j]?=some c->∃u,arr[i*b.a7+j]?=some u/\CC B S m c u
def AeR(m:M)(s t:Nat)(b:C2):Prop := ∃g es clock,m.ν s t=some g/\B<=g/\m.w.heap[g]?=some (.map es clock)/\LO es clock b.es
def cS(m:M)(s t:Nat)(b:C2):Prop:=(s<D9->tK B S m s t b)/\(D9<=s->AeR B m s t b)
structure BH(w0:F2)(m:M):Prop where
 below:DL w0.D B w0.w m.w
 size:B<=m.w.heap.size
 fresh:∀s t,m.own.j6 s<=t->m.own.get s t=none
 c9:∀s t b,m.own.get s t=some b->cS B S m s t b
 inj:∀s t s' t' b b' g,m.own.get s t=some b->m.own.get s' t'=some b'->m.ν s t=some g->m.ν s' t'=some g->s=s'/\t=t'
structure CU(m m':M):Prop where
 size:m.w.heap.size<=m'.w.heap.size
 keep:∀b,b<m.w.heap.size->safe B S m true b->m'.w.heap[b]?=m.w.heap[b]?
 Ap:∀l b,b<m.w.heap.size->safe B S m l b->safe B S m' l b
 j6:∀s,m.own.j6 s<=m'.own.j6 s
 name:∀s t b',t<m.own.j6 s->m'.own.get s t=some b'->∃b,m.own.get s t=some b/\b'.a7=b.a7/\m'.ν s t=m.ν s t /\
   ∀g arr e,m.ν s t=some g->m.w.heap[g]?=some (.cells arr e (0,0))->∃y7,m'.w.heap[g]?=some (.cells y7 e (0,0))/\y7.size=arr.size
end
section
variable {B:Nat} {S:Nat->Prop}
theorem rK{m:M}{l:Bool}{b:Nat}(h:safe B S m l b):safe B S m true b:=by
 rcases h with h|h|⟨_,h⟩
 ·exact .inl h
 ·exact .inr (.inl h)
 ·exact .inr (.inr ⟨rfl,h⟩)
theorem CU.rd{m m':M}(h:CU B S m m'){a:AV}{v:Value}(hr:Rd m.w (safe B S m) a v):Rd m'.w (safe B S m') a v :=
 hr.mono h.Ap (λ_ b hb hs=>h.keep b hb (rK hs))
theorem CU.cc{m m':M}(h:CU B S m m'){a:AV}{v:Value}(hc:CC B S m a v):CC B S m' a v:=by
 cases hc with
 |rd hr=>exact .rd (h.rd hr)
 |nil=>exact .nil
 |row s t z off len a cap ht hz0 jn ha hb=>
  rename_i hs;refine .row s t z off len a cap (ea ht (h.j6 s)) hz0 jn ha (λb' j8=>?_) hs;obtain⟨b,h1,h2,h3,h4⟩:=h.name s t b' ht j8;obtain⟨hz,dp⟩:=hb b h1;refine⟨h2.trans hz,?_⟩;rcases dp with h0|⟨g,arr,e,hg,js,hh,hle⟩
  ·exact .inl h0
  ·obtain⟨y7,Lw,ua⟩:=h4 g arr e hg hh
   exact .inr ⟨g,y7,e,h3.trans hg,js,Lw,ua▸hle⟩
 |ptr s t i j a ht hb=>
  rename_i hs;refine .ptr s t i j a (ea ht (h.j6 s)) (λb' j8=>?_) hs;obtain⟨b,h1,h2,h3,_⟩:=h.name s t b' ht j8;obtain⟨g,hg,js⟩:=hb b h1;exact⟨g,h3.trans hg,h2▸js⟩
 |mp s t g ht hb hs=>
  refine .mp s t g (ea ht (h.j6 s)) (λb' j8=>?_) hs;obtain⟨b,h1,h2,h3,_⟩:=h.name s t b' ht j8;exact h3.trans (hb b h1)
 |x9 cs b o u l hR hc hr=>
  have hlt:cs≠[]->b<m.w.heap.size:=λo7=>by
   cases cs with
   |nil=>exact absurd rfl o7
   |cons c r=>exact RS (hc 0 c rfl)
  refine .x9 cs b o u l (λo7=>h.Ap l b (hlt o7) (hR o7)) (λj c hj=>?_) (λj c hj=>h.rd (hr j c hj));have o7:cs≠[]:=λe=>by subst e;simp at hj
  rw[World.cell?_of_block (w:=m.w) (h.keep b (hlt o7) (rK (hR o7)))];exact hc j c hj
theorem CU.cl{m m':M}(h:CU B S m m'){cs:w_}{vs:List Value}(hc:CL B S m cs vs):CL B S m' cs vs :=
 ⟨hc.1,λj c v h1 h2=>h.cc (hc.2 j c v h1 h2)⟩
theorem CU.ca{m m':M}(h:CU B S m m'){a:AV}{v:Value}(hc:CA B S m a v):CA B S m' a v:=by
 cases hc with
 |one hc=>exact .one (h.cc hc)
 |agg cs vs hc=>exact .agg cs vs (h.cl hc)
 |fn p f g cs vs hp hc=>exact .fn p f g cs vs hp (h.cl hc)
 |tf f g cs vs hp hc=>exact .tf f g cs vs hp (h.cl hc)
theorem CU.cv{m m':M}(h:CU B S m m'){a:AV}{v:Value}(hc:CV B S m a v):CV B S m' a v:=by
 cases hc with
 |any v=>exact .any v
 |ca hc=>exact .ca (h.ca hc)
 |j4 as vs hl hc=>exact .j4 as vs hl λj c v h1 h2=>h.ca (hc j c v h1 h2)
theorem CU.refl(m:M):CU B S m m :=
 ⟨Ga _,λ_ _ _=>rfl,λ_ _ _ h=>h,λ_=>Ga _,λ_ _ b' _ h=>⟨b',h,rfl,rfl,λ_ arr _ _ h=>⟨arr,h,rfl⟩⟩⟩
theorem CU.trans{m m' m'':M}(h:CU B S m m')(k:CU B S m' m''):CU B S m m'' where
 size:=Fb h.size k.size
 keep b hb hs:=(k.keep b (ea hb h.size) (h.Ap true b hb hs)).trans (h.keep b hb hs)
 Ap l b hb hs:=k.Ap l b (ea hb h.size) (h.Ap l b hb hs)
 j6 s:=Fb (h.j6 s) (k.j6 s)
 name s t b'' ht Mb:=by
  obtain⟨b',h1,h2,h3,h4⟩:=k.name s t b'' (ea ht (h.j6 s)) Mb;obtain⟨b,g1,g2,g3,g4⟩:=h.name s t b' ht h1;refine⟨b,g1,h2.trans g2,h3.trans g3,λg arr e hg ha=>?_⟩;obtain⟨y7,Lw,ua⟩:=g4 g arr e hg ha;obtain⟨Eg,Lx,Ob⟩:=h4 g y7 e (g3.trans hg) Lw;exact⟨Eg,Lx,Ob.trans ua⟩
theorem CC.one{m:M}{a:AV}{v:Value}(h:CC B S m a v):v.oneCell'=true:=by
 cases h with
 |rd h=>exact h.one
 |_=>rfl
end
end Go.Eng
