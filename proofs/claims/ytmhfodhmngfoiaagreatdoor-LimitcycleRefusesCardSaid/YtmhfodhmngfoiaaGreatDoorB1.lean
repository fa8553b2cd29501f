/-
  The abstract machine: data without memory. AV: a value; slices that are only read are lists ('sl'), rows and boxes of the call's own are named by a site and a stamp.
  Nothing here speaks of a program; EngSound ties it to the model.
-/
import Derived.Calls
import Derived.Below
import Derived.Laws.CopyRow
import Derived.Laws.Cells
import Derived.Laws.MakeOwn
import Derived.Laws.AppendOwn
import Derived.Deep.AppendSrc
import Derived.Deep.Draws
import Derived.ArgAppend
import Derived.Maps.Own
import Derived.Maps.OwnSet
set_option linter.unusedSimpArgs false
set_option linter.unusedVariables false
set_option linter.unnecessarySimpa false
set_option maxHeartbeats 1000000
open BitVec renaming ofInt->sa
open Int renaming mul_nonneg->ga,mul_nonpos_of_nonpos_of_nonneg->Da,mul_nonpos_of_nonneg_of_nonpos->Ca,mul_le_mul_of_nonpos_left->ub,mul_le_mul_of_nonneg_left->rb,gcd->mb,emod_add_mul_ediv->Nb,emod_lt_of_pos->Fb,emod_nonneg->tc,mul_pos->Oc
open List renaming replicate->ya,length_cons->ua,mem_cons_of_mem->ma,length_take->ja,mem_cons_self->Na,pairwise_iff_getElem->Ma,length_drop->Ja,getElem?_cons_succ->Ia,mem_append->Ha,getElem?_of_mem->Fa,mem_reverse->yb,eq_nil_of_length_eq_zero->xb,map_append->vb,getElem?_set_self->ib,take_append_drop->Pb,take_set_of_le->Lb,getElem?_drop->Jb,take_add_one->Gb,map_reverse->Db,cons_append->Cb,mem_cons->pc,map_cons->oc,mem_map->nc,map_map->mc,range'->fc,map_id->ec,range->Pc
open Nat renaming mul_le_mul_left->xa,div_lt_iff_lt_mul->ta,two_pow_pos->na,lt_of_lt_of_le->ka,pow_add->ea,mul_add->Qa,min_eq_left->Pa,mul_comm->Oa,le_refl->La,mul_assoc->Ka,le_div_iff_mul_le->Ga,pow_le_pow_right->Ea,succ_mul->Ba,mul_succ->zb,strongRecOn->qb,mod_add_div->ob,div_add_mod->nb,pow_succ->eb,le_trans->db,le_mul_of_pos_left->Qb,mul_mod_mul_right->Ob,add_mul->Mb,div_mul_le_self->Kb,pos_of_ne_zero->Ib,mod_lt->Hb,lt_trichotomy->Eb,mod_eq_of_lt->Bb,lt_log2_self->zc,log2_self_le->yc,div_eq_of_lt->xc,mul_add_div->uc,mul_le_mul->sc,zero_add->kc,add_zero->jc,add_comm->ic,one_mul->Qc,blt->Mc
open Option renaming some.inj->za
open Prod renaming mk.injEq->jb,fst->wc,ext->Nc
namespace Go.e9
theorem O'{p:Prop}(h:p:=by omega):p:=h
theorem V'{p:Prop}(h:p:=by assumption):p:=h
theorem Y'{p:Prop}(h:p:=by decide):p:=h
theorem Z'{p:Prop}(h:p:=by simp):p:=h
theorem A'{p:Prop}(h:p:=by grind):p:=h
theorem E'{p:Prop}(h:p:=by(conv=>whnf);exact⟨rfl,rfl,rfl⟩):p:=h
theorem G'{p:Prop}(h:p:=by intro e;cases e):p:=h
theorem H'{p:Prop}(h:p:=by rw[List.length_map];omega):p:=h
theorem J'{p:Prop}(h:p:=by rw[List.length_take];omega):p:=h
theorem K'{p:Prop}(h:p:=by simp;omega):p:=h
theorem N'{α:Type}(l:List α)(i:Nat)(h:i<l.length:=by omega):∃x,l[i]?=some x:=⟨_,List.getElem?_eq_getElem h⟩
abbrev P':=List (List Rat)
abbrev o_:=List Rat
abbrev u_:=List Nat
theorem zE{α:Type}{l:List α}{i:Nat}(h:i < l.length):l[i]?=some l[i] :=
 List.getElem?_eq_getElem h
theorem zS{α:Type}{l:List α}{i:Nat}{a:α}(h:l[i]?=some a):∃h:i < l.length, l[i] = a :=
 List.getElem?_eq_some_iff.1 h
theorem zM{α:Type}{l:List α}{i:Nat}{a:α}(h:l[i]?=some a):a ∈ l :=
 List.mem_of_getElem? h
theorem zR{m n:Nat}(k:Nat)(h:m <= n):m * k <= n * k :=
 Nat.mul_le_mul_right k h
theorem zT{α:Type}{l:List α}{i:Nat}(h:l.length <= i):l.take i = l :=
 List.take_of_length_le h
end Go.e9
namespace Go.e9
inductive AV where
 |int (k:IntKind) (n:Int)
 |bool (b:Bool)
 |sl (l:Bool) (es:List (List AV))
 |row (s t z off len:Nat)
 |nil
 |ptr (s t i j:Nat)
 |z7 (cs:List AV)
 |agg (cs:List AV)
 |j5 (vs:List AV)
 |y8 (v:Value)
 |fn (p:Bool) (f g:Nat) (cs:List AV)
 |any
 |mp (s t:Nat)
 deriving Inhabited
abbrev p_:=Option (Nat×List (List AV))
abbrev v_:=List (List AV)
abbrev w_:=List AV
inductive AL where
 |t (n:Nat)
 |c (v:AV)
 deriving Inhabited
structure DI where
 a7:Nat
 es:v_
abbrev EP:Nat:=960000
structure B5 where
 j7:Nat
 c9:Nat->Option DI
def Own:=Nat->B5
def Own.emp:Own:=λ_=>⟨0,λ_=>none⟩
def Own.put(o:Own)(s:Nat)(x:B5):Own:=λs'=>if s'=s then x else o s'
def Own.get(o:Own)(s t:Nat):Option DI:=(o s).c9 t
def Own.j7(o:Own)(s:Nat):Nat:=(o s).j7
def B5.u5(x:B5)(t:Nat)(b:Option DI):B5:=⟨x.j7,λt'=>if t'=t then b else x.c9 t'⟩
def B5.new(x:B5)(b:DI):B5:=⟨x.j7+1,λt'=>if t'=x.j7 then some b else x.c9 t'⟩
def B5.lost(x:B5):B5:=⟨x.j7+1,λt'=>if t'=x.j7 then none else x.c9 t'⟩
theorem Own.n9(o:Own)(s:Nat)(x:B5):o.put s x s=x:=by simp[Own.put]
theorem Own.jf(o:Own)(s s':Nat)(x:B5)(h:s'≠s):o.put s x s'=o s':=by simp[Own.put,h]
theorem Own.kb(o:Own)(s:Nat)(x y:B5):(o.put s x).put s y=o.put s y:=by
 funext s';by_cases h:s'=s<;>simp[Own.put,h]
inductive EF where
 |q9 (x:AL)
 |ak (s a7:Nat)
 |pick (c a b:AL)
 |bin (op:BinOp) (x y:AL)
 |beq (ne:Bool) (x y:AL)
 |un (op:UnOp) (x:AL)
 |conv (k:IntKind) (x:AL)
 |box (s:Nat) (x:AL)
 |alloc (s:Nat) (zero:w_)
 |build (zero:w_) (parts:List (Nat×Nat×AL))
 |b8 (s a7:Nat) (parts:List AL)
 |lit (a7:Nat) (parts:List AL)
 |o4 (x:AL) (off:Nat)
 |og (x:AL) (off n:Nat) (agg:Bool)
 |u4 (arr:Option Nat) (a7:Nat) (x i:AL)
 |ld (agg:Bool) (n:Nat) (x:AL)
 |st (n:Nat) (x v:AL)
 |mk (s a7 bytes:Nat) (zero:w_) (l c:AL)
 |iz (a7:Nat) (x:AL) (lo hi:Option AL)
 |ext (x:AL) (i:Nat)
 |len (x:AL)
 |mm (max:Bool) (xs:List AL)
 |app (s a7 bytes:Nat) (x y:AL)
 |call (f:Nat) (xs:List AL)
 |j6 (f:Nat) (xs:List AL)
 |uh (ne:Bool) (x:AL)
 |jg (tb:u_) (x:AL)
 |qm (p:Bool) (f:Nat) (xs:List AL)
 |v8 (x:AL) (xs:List AL)
 |o8 (f:Nat) (xs:List AL)
 |qt (s n:Nat) (x v:AL)
 |y5 (s f:Nat) (xs:List AL)
 |dw (s a7 bytes:Nat) (x y:AL)
 |dh (s f:Nat) (xs:List AL)
 |bad
 |mg (x:AL)
 |qo (s:Nat)
 |ru (x k:AL)
 |qp (x k v:AL)
 |oa (a7 bytes:Nat) (x y:AL)
 |fm (fs f a7:Nat) (x c:AL)
 deriving Inhabited
structure AI where
 dst:Option Nat
 op:EF
 guard:Option (Nat×Bool):=none
 b9:u_:=[]
 deriving Inhabited
inductive BH where
 |skip
 |ops (l:List AI) (draw:Bool)
 |dr (c:BH) (ts ss:u_)
 |scope (c:BH)
 |seq (a b:BH)
 |cond (c:AL) (a b:BH)
 |block (id:Nat) (c:BH)
 |loop (c:BH)
 |exit (id:Nat)
 |ret
 deriving Inhabited
inductive LS where
 |tmp (t:Nat)
 |cell (t:Nat) (agg:Bool) (n:Nat)
 deriving Inhabited
structure AFn where
 cr:Nat
 body:BH
 res:List LS
 tk:Bool
abbrev Tm:=List (Nat×AV)
def j8:Tm->Nat->AV
 |[],_=>.any
 |(i,v)::r,j=>if j=i then v else j8 r j
def kv:Tm->Nat->AV->Tm
 |[],j,u=>[(j,u)]
 |(i,v)::r,j,u=>if j=i then(i,u)::r else if j<i then(j,u)::(i,v)::r else(i,v)::kv r j u
def cb:Tm->u_->Tm
 |[],_=>[]
 |(i,v)::r,l=>if l.contains i then cb r l else(i,v)::cb r l
theorem cQ(m:Tm)(i:Nat)(v:AV)(j:Nat):j8 (kv m i v) j=if j=i then v else j8 m j:=by
 induction m with
 |nil=>by_cases h:j=i<;>simp[kv,j8,h]
 |cons x r ih=>
  obtain⟨a,u⟩:=x;by_cases h:i=a
  ·subst h
   by_cases h2:j=i<;>simp[kv,j8,h2]
  ·by_cases k7:i<a
   ·by_cases h2:j=i<;>simp[kv,j8,h,k7,h2]
   ·by_cases h2:j=a
    ·subst h2
     have:¬j=i:=λe=>h e.symm
     simp[kv,j8,h,k7,this]
    ·simp[kv,j8,h,k7,h2,ih]
structure St where
 tm:Tm
 own:Own
def St.ev(st:St):AL->AV
 |.t n=>j8 st.tm n
 |.c v=>v
inductive B9 where
 |val (v:AV)
 |new (s:Nat) (b:DI) (v:Nat->AV)
 |Ae (s:Nat) (b:DI) (v:Nat->AV)
 |cn (v:AV) (own:Own)
 |u5 (s:Nat) (x:B5)
 |tn (s:Nat) (x:B5) (v:AV)
 |Bp (s:Nat) (v:AV) (own:Own)
def cellsOf:AV->Option (w_)
 |.agg cs=>some cs
 |.fn _ _ _ _=>none
 |.j5 _=>none
 |.any=>none
 |v=>some [v]
def NC(agg:Bool)(cs:w_):Option AV :=
 if agg then some (.agg cs)else match cs with|[c]=>some c|_=>none
def part(cs:w_)(off n:Nat):Option (w_) :=
 if off+n<=cs.length then some ((cs.drop off).take n)else none
def splice(cs:w_)(off:Nat)(vs:w_):w_:=cs.take off++vs++cs.drop (off+vs.length)
def fill(cells:w_):List (Nat×Nat×AV)->Option (w_)
 |[]=>some cells
 |(off,n,v)::r=>match cellsOf v with
  |some vs=>if vs.length=n/\off+n<=cells.length then fill (splice cells off vs) r else none
  |none=>none
def DM(op:BinOp)(k:IntKind)(a:Int)(k':IntKind)(b:Int):Option AV :=
 match op with
 |.shl=>if b<0 then none else some (.int k (k.wrap (a*2^(min b.toNat k.bits))))
 |.shr=>if b<0 then none else some (.int k (a.fdiv (2^(min b.toNat k.bits))))
 |.add=>if k=k' then some (.int k (k.wrap (a+b)))else none
 |.sub=>if k=k' then some (.int k (k.wrap (a-b)))else none
 |.mul=>if k=k' then some (.int k (k.wrap (a*b)))else none
 |.quo=>if k=k'/\b≠0 then some (.int k (k.wrap (a.tdiv b)))else none
 |.rem=>if k=k'/\b≠0 then some (.int k (a.tmod b))else none
 |.and=>if k=k' then some (.int k (k.wrap (sa k.bits a &&& sa k.bits b).toNat))else none
 |.or=>if k=k' then some (.int k (k.wrap (sa k.bits a ||| sa k.bits b).toNat))else none
 |.xor=>if k=k' then some (.int k (k.wrap (sa k.bits a ^^^ sa k.bits b).toNat))else none
 |.andNot=>if k=k' then some (.int k (k.wrap (sa k.bits a &&& ~~~ sa k.bits b).toNat))else none
 |.eql=>if k=k' then some (.bool (a == b))else none
 |.neq=>if k=k' then some (.bool (a != b))else none
 |.lss=>if k=k' then some (.bool (decide (a<b)))else none
 |.leq=>if k=k' then some (.bool (decide (a<=b)))else none
 |.gtr=>if k=k' then some (.bool (decide (a>b)))else none
 |.geq=>if k=k' then some (.bool (decide (a≥b)))else none
def U0(op:UnOp):AV->Option AV
 |.int k n=>match op with
  |.neg=>some (.int k (k.wrap (0-n)))
  |.xor=>some (.int k (k.wrap (sa k.bits (if k.signed then -1 else k.max) ^^^ sa k.bits n).toNat))
  |_=>none
 |.bool b=>match op with
  |.not=>some (.bool (!b))
  |_=>none
 |_=>none
def RD(max:Bool):AV->AV->Option AV
 |.int k a,.int _ b=>some (.int k (if max then(if b>a then b else a)else(if b<a then b else a)))
 |_,_=>none
def M3(max:Bool):AV->w_->Option AV
 |v,[]=>some v
 |v,u::r=>match RD max v u with|some x=>M3 max x r|none=>none
def Own.u7(o:Own):u_->Own
 |[]=>o
 |s::r=>λs'=>if s'=s then⟨0,λ_=>none⟩else o.u7 r s'
def Own.rq(own:Own)(s t i j n:Nat):Option (w_) :=
 match own.get s t with
 |some b=>match b.es[i]? with
  |some cs=>part cs j n
  |none=>none
 |none=>none
def Own.py(own:Own)(s t i j:Nat)(vs:w_):Option Own :=
 match own.get s t with
 |some b=>match b.es[i]? with
  |some cs=>if j+vs.length<=cs.length then some (own.put s ((own s).u5 t (some ⟨b.a7,b.es.set i (splice cs j vs)⟩)))else none
  |none=>none
 |none=>none
def FB(own:Own):AV->Option (v_)
 |.sl _ es=>some es
 |.nil=>some []
 |.y8 (.bool _)=>some []
 |.row s t z off len=>match own.get s t with
  |some b=>if off+len<=b.es.length/\b.a7=z then some ((b.es.drop off).take len)else none
  |none=>none
 |_=>none
def RA:AV->Option Nat
 |.sl _ es=>some es.length
 |.nil=>some 0
 |.row _ _ _ _ len=>some len
 |_=>none
def snap(own:Own)(l:Bool):Nat->AV->Option AV
 |_,.int k n=>some (.int k n)
 |_,.bool b=>some (.bool b)
 |_,.sl l' es=>some (.sl l' es)
 |_,.nil=>some (.sl false [])
 |_,.y8 v=>some (.y8 v)
 |d+1,.row s t z off len=>match FB own (.row s t z off len)with
  |some es=>(es.mapM (λcs:w_=>cs.mapM (snap own l d))).map (AV.sl l)
  |none=>none
 |_,_=>none
def DD(own:Own)(l:Bool):AV->Option AV
 |.agg cs=>(cs.mapM (snap own l 6)).map AV.agg
 |v=>snap own l 6 v
def QI(own:Own)(l:Bool):AV->Option AV
 |.nil=>some .nil
 |v=>DD own l v
def UY(own:Own)(l:Bool):AV->Option AV
 |.j5 cs=>(cs.mapM (DD own l)).map AV.j5
 |v=>DD own l v
mutual
def AY:AV->Prop
 |.int _ _=>True
 |.bool _=>True
 |.y8 _=>True
 |.sl l es=>l=false/\DR es
 |.agg cs=>BK cs
 |.j5 cs=>BK cs
 |_=>False
def BK:w_->Prop
 |[]=>True
 |c::r=>AY c/\BK r
def DR:v_->Prop
 |[]=>True
 |c::r=>BK c/\DR r
end
def E7:Nat:=140737488355328
structure Cl where
 pure:Nat->w_->Option AV
 gi:Nat->w_->Own->Option (AV×Own)
 num:Nat->Nat
 cmp:Nat->w_->Option AV
 fo:Nat->Option Nat
structure KW(cmp:Nat->w_->Option AV)(f:Nat)(es es':v_):Prop where
 perm:es'.Perm es
 cln:DR es
 ord:∀(i j:Nat)(x y:w_),es'[i]?=some x->es'[j]?=some y->∃r:Int,cmp f [.agg x,.agg y]=some (.int .i64 r)/\(r<0↔i<j)
theorem KW.uniq{cmp:Nat->w_->Option AV}{f:Nat}{es a b:v_}(ha:KW cmp f es a)(hb:KW cmp f es b):a=b:=by
 have pw:∀{l:v_},KW cmp f es l->l.Pairwise λx y=>∃r:Int,cmp f [.agg x,.agg y]=some (.int .i64 r)/\r<0:=λ{l} h=>by
  rw[Ma];intro i j hi hj jq;obtain⟨r,h1,h2⟩:=h.ord i j _ _ (zE hi) (zE hj);exact⟨r,h1,h2.2 jq⟩
 refine List.Perm.eq_of_pairwise (λx y hx hy ⟨r,h1,h2⟩ ⟨q,h3,h4⟩=>?_) (pw ha) (pw hb) (ha.perm.trans hb.perm.symm);obtain⟨i,hi⟩:=Fa hx;obtain⟨j,hj⟩:=Fa ((ha.perm.trans hb.perm.symm).mem_iff.2 hy);obtain⟨r',g1,g2⟩:=ha.ord i j _ _ hi hj;obtain⟨q',g3,g4⟩:=ha.ord j i _ _ hj hi;have e1:r=r':=by have:=h1.symm.trans g1;simpa using this
 have e2:q=q':=by have:=h3.symm.trans g3;simpa using this
 have:=g2.1 (e1▸h2)
 have:=g4.1 (e2▸h4)
 omega
open Classical in
noncomputable def jV(cmp:Nat->w_->Option AV)(f:Nat)(es:v_):Option (v_):=if h:∃es',KW cmp f es es' then some h.choose else none
theorem Adn{cmp:Nat->w_->Option AV}{f:Nat}{es es':v_}:jV cmp f es=some es'↔KW cmp f es es':=by
 unfold jV;constructor
 ·intro h
  split at h
  ·rename_i hx
   obtain rfl:=za h;exact hx.choose_spec
  ·cases h
 ·intro h
  rw[dif_pos ⟨es',h⟩];exact congrArg some ((Exists.choose_spec (⟨es',h⟩:∃es',KW cmp f es es')).uniq h)
noncomputable def eA(C:Cl)(f:Nat)(vs:w_)(s:Nat)(q:B5):Option (AV×B5) :=
 open Classical in if h : ∃ p : AV × B5, ∀ o : Own, o s = q -> C.gi f vs o = some (p.1, o.put s p.2) then some h.choose else none
theorem eB{C:Cl}{f:Nat}{vs:w_}{s:Nat}{q:B5}{p:AV×B5}:eA C f vs s q=some p ↔ ∀o:Own,o s=q->C.gi f vs o=some (p.1,o.put s p.2):=by
 unfold eA;constructor
 ·intro h
  split at h
  ·rename_i hx
   obtain rfl:=za h;exact hx.choose_spec
  ·cases h
 ·intro h
  rw[dif_pos ⟨p,h⟩];have h1:=(⟨p,h⟩:∃p:AV×B5,∀o:Own,o s=q->C.gi f vs o=some (p.1,o.put s p.2)).choose_spec (λ_=>q) rfl;have h2:=h (λ_=>q) rfl;have h3:=za (h2.symm.trans h1);refine congrArg some ?_;generalize (Exists.choose _:AV×B5)=p' at h3;obtain⟨a,b⟩:=p;obtain⟨a',b'⟩:=p';simp only[jb]at h3;obtain⟨h4,h5⟩:=h3;have h6:b=b':=by
   have:=congrFun h5 s
   simpa [Own.put]using this
  rw[h4,h6]
noncomputable def OM(C:Cl)(f:Nat)(vs:w_)(s:Nat)(own:Own):Option (AV×Own) :=
 open Classical in if h : ∃ p : AV × Own, ∀ o : Own, (∀ q, q ≠ s -> o q = own q) -> C.gi f vs o = some (p.1, p.2.put s (o s)) then some (h.choose.1, h.choose.2.put s ⟨0, λ_ => none⟩) else none
theorem dZ{C:Cl}{f:Nat}{vs:w_}{s:Nat}{own:Own}{p:AV×Own}(h:OM C f vs s own=some p):p.2 s=⟨0,λ_=>none⟩/\∀o:Own,(∀q,q≠s->o q=own q)->C.gi f vs o=some (p.1,p.2.put s (o s)):=by
 unfold OM at h;split at h
 ·rename_i hx
  obtain rfl:=za h;refine⟨by simp[Own.put],λo h2=>?_⟩;rw[hx.choose_spec o h2];congr 2;funext q
  simp only[Own.put];split<;>rfl
 ·cases h
theorem dY{C:Cl}{f:Nat}{vs:w_}{s:Nat}{own:Own}{p:AV×Own}(hp:p.2 s=⟨0,λ_=>none⟩)(h:∀o:Own,(∀q,q≠s->o q=own q)->C.gi f vs o=some (p.1,p.2.put s (o s))):OM C f vs s own=some p:=by
 have hex:∃p:AV×Own,∀o:Own,(∀q,q≠s->o q=own q)->C.gi f vs o=some (p.1,p.2.put s (o s)):=⟨p,h⟩;unfold OM;rw[dif_pos hex];have h1:=hex.choose_spec own λ_ _=>rfl
 have h2:=h own λ_ _=>rfl
 have h3:=za (h2.symm.trans h1);simp only[jb]at h3;refine congrArg some (Nc h3.1.symm ?_);funext q
 have h4:=congrFun h3.2 q;simp only[Own.put]at h4⊢;by_cases e:q=s
 ·subst e;simp[hp]
 ·simpa [e]using h4.symm
def ZH:AV->AV
 |.sl _ es=>.sl false es
 |.nil=>.sl false []
 |v=>v
def yg:AV->AV
 |.agg cs=>.agg (cs.map ZH)
 |v=>ZH v
def bE:AV->AV
 |.sl _ es=>.sl true es
 |v=>v
def Aa:AV->AV
 |.agg cs=>.agg (cs.map bE)
 |v=>bE v
mutual
def H1:AV->AV
 |.sl _ es=>.sl true (IZ es)
 |v=>v
def JJ:w_->w_
 |[]=>[]
 |c::r=>H1 c::JJ r
def IZ:v_->v_
 |[]=>[]
 |c::r=>JJ c::IZ r
end
def KE:AV->AV
 |.agg cs=>.agg (JJ cs)
 |v=>H1 v
def L5:AV->AV
 |.j5 vs=>.j5 (vs.map KE)
 |v=>KE v
def dB:AV->Prop
 |.j5 _=>False
 |.fn _ _ _ _=>False
 |_=>True
def U9:AV->Prop
 |.j5 vs=>∀v∈vs,dB v
 |v=>dB v
def HD:AV->Bool
 |.int _ _=>true |.bool _=>true |.sl _ _=>true |.nil=>true
 |_=>false
def dq:AV->Bool
 |.agg cs=>cs.all HD
 |v=>HD v
def YN:AV->Bool
 |.int _ _=>true |.bool _=>true |.sl _ _=>true
 |_=>false
def RF:AV->Bool
 |.int _ _=>true |.bool _=>true
 |_=>false
def ZR:AV->Prop
 |.int _ _=>True
 |.bool _=>True
 |.sl _ es=>∀e∈es,∀c∈e,RF c=true
 |_=>False
def KS:AV->Prop
 |.agg cs=>∀c∈cs,ZR c
 |v=>ZR v
open Classical in
noncomputable def N3(r:AV):AV:=if KS r then Aa r else L5 r
theorem pA{r:AV}(h:KS r):N3 r=Aa r:=if_pos h
theorem oZ{r:AV}(h:¬KS r):N3 r=L5 r:=if_neg h
def oL:w_->Option (List Int)
 |[]=>some []
 |.int .i64 n::r=>(oL r).map (n :: ·)
 |_=>none
def IL:AV->Option AV
 |.agg _=>none
 |.fn _ _ _ _=>none
 |.j5 _=>none
 |.any=>none
 |v=>some v
open Classical in
noncomputable def OL(x:Option (AV×Own)):p_:=match x with
 |some (.row s t z 0 n,o)=>match o.get s t with
  |some b=>if b.es.length=n/\DR b.es then some (z,b.es)else none
  |none=>none
 |_=>none
theorem Af0{x:Option (AV×Own)}{z:Nat}{es:v_}(h:OL x=some (z,es)):∃s t o b,x=some (.row s t z 0 es.length,o)/\o.get s t=some b/\b.es=es/\DR es:=by
 unfold OL at h;split at h
 ·split at h
  ·rename_i s t z' n o b hb
   split at h
   ·rename_i hc
    obtain⟨rfl,hc⟩:=hc;simp only[Option.some.injEq,jb]at h;obtain⟨rfl,rfl⟩:=h;exact⟨_,_,_,_,rfl,hb,rfl,hc⟩
   ·cases h
  ·cases h
 ·cases h
def MD(s t:ByteArray):Bool:=s.data.toList == t.data.toList
def HF:v_->ByteArray->Option Int
 |[],_=>none
 |c::r,k=>match c with
  |[.y8 (.string s),.int .i64 n]=>bif MD s k then some n else HF r k
  |_=>HF r k
def Ad(k:ByteArray)(c:w_):Bool:=match c with
 |.y8 (.string s)::_=>MD s k
 |_=>false
def S4(l:v_)(k:ByteArray)(n:Int):v_:=[.y8 (.string k),.int .i64 n]::l.filter λc=>!Ad k c
open Classical in
noncomputable def j4(C:Cl)(b9:u_)(ρ:AL->AV)(own:Own):EF->Option B9
 |.q9 x=>some (.val (ρ x))
 |.ak s a7=>some (.Ae s ⟨a7,[]⟩ (λt=>.row s t a7 0 0))
 |.pick c a b=>match ρ c with
  |.bool true=>some (.val (ρ a))
  |.bool false=>some (.val (ρ b))
  |_=>none
 |.bin op x y=>match ρ x,ρ y with
  |.int k a,.int k' b=>(DM op k a k' b).map .val
  |_,_=>none
 |.beq ne x y=>match ρ x,ρ y with
  |.bool a,.bool b=>some (.val (.bool (if ne then !(a == b)else a == b)))
  |_,_=>none
 |.un op x=>(U0 op (ρ x)).map .val
 |.conv k x=>match ρ x with
  |.int _ n=>some (.val (.int k (k.wrap n)))
  |_=>none
 |.box s x=>match cellsOf (ρ x)with
  |some cs=>some (.new s ⟨cs.length,[cs]⟩ (λt=>.ptr s t 0 0))
  |none=>none
 |.alloc s zero=>some (.new s ⟨zero.length,[zero]⟩ (λt=>.ptr s t 0 0))
 |.build zero parts=>(fill zero (parts.map λp=>(p.1,p.2.1,ρ p.2.2))).map (λcs=>.val (.agg cs))
 |.b8 s a7 parts=>match parts.mapM (λx=>cellsOf (ρ x))with
  |some es=>if∀e∈es,e.length=a7 then some (.new s ⟨a7,es⟩ (λt=>.row s t a7 0 es.length))else none
  |none=>none
 |.lit a7 parts=>match parts.mapM (λx=>cellsOf (ρ x))with
  |some es=>if∀e∈es,e.length=a7/\∀c∈e,YN c=true then some (.val (.sl false es))else none
  |none=>none
 |.o4 x off=>match ρ x with
  |.ptr s t i j=>some (.val (.ptr s t i (j+off)))
  |.z7 cs=>some (.val (.z7 (cs.drop off)))
  |_=>none
 |.og x off n agg=>match ρ x with
  |.agg cs=>match part cs off n with
   |some ds=>(NC agg ds).map .val
   |none=>none
  |_=>none
 |.u4 arr a7 x i=>match ρ i with
  |.int _ n=>match arr,ρ x with
   |some len,.ptr s t i' j=>if 0<=n/\n<len then some (.val (.ptr s t i' (j+n.toNat*a7)))else none
   |some len,.z7 cs=>if 0<=n/\n<len then some (.val (.z7 (cs.drop (n.toNat*a7))))else none
   |none,.row s t z off len=>if 0<=n/\n<len/\z=a7 then some (.val (.ptr s t (off+n.toNat) 0))else none
   |none,.sl _ es=>if 0<=n then match es[n.toNat]? with
     |some cs=>if cs.length=a7 then some (.val (.z7 cs))else none
     |none=>none
    else none
   |_,_=>none
  |_=>none
 |.ld agg n x=>match ρ x with
  |.ptr s t i j=>match (own.u7 b9).rq s t i j n with
   |some cs=>(NC agg cs).map .val
   |none=>none
  |.z7 cs=>match part cs 0 n with
   |some ds=>(NC agg ds).map .val
   |none=>none
  |_=>none
 |.st n x v=>match ρ x,cellsOf (ρ v)with
  |.ptr s t i j,some vs=>if vs.length=n then(own.py s t i j vs).map (B9.cn (.j5 []))else none
  |_,_=>none
 |.mk s a7 bytes zero l c=>match ρ l,ρ c with
  |.int _ a,.int _ b=>if 0<=a/\a<=b/\b*bytes<=E7/\b<=9223372036854775807/\zero.length=a7 then some (.new s ⟨a7,ya a.toNat zero⟩ (λt=>.row s t a7 0 a.toNat))else none
  |_,_=>none
 |.iz a7 x lo hi=>match ρ x with
  |.sl l es=>
   let h:Option Nat:=match hi with|none=>some es.length|some o=>match ρ o with |.int _ n=>if 0<=n/\n<=es.length then some n.toNat else none|_=>none
   let a:Option Nat:=match lo with|none=>some 0|some o=>match ρ o with |.int _ n=>if 0<=n then some n.toNat else none|_=>none
   match a,h with
   |some a,some h=>if a<=h/\∀e∈es,e.length=a7 then some (.val (.sl l ((es.take h).drop a)))else none
   |_,_=>none
  |.nil=>
   let h:Option Nat:=match hi with|none=>some 0|some o=>match ρ o with |.int _ n=>if n=0 then some 0 else none|_=>none
   let a:Option Nat:=match lo with|none=>some 0|some o=>match ρ o with |.int _ n=>if n=0 then some 0 else none|_=>none
   match a,h with
   |some _,some _=>some (.val .nil)
   |_,_=>none
  |.row s t z off len=>
   let h:Option Nat:=match hi with|none=>some len|some o=>match ρ o with |.int _ n=>if 0<=n/\n<=len then some n.toNat else none|_=>none
   let a:Option Nat:=match lo with|none=>some 0|some o=>match ρ o with |.int _ n=>if 0<=n then some n.toNat else none|_=>none
   match a,h with
   |some a,some h=>if a<=h/\z=a7 then some (.val (.row s t z (off+a) (h-a)))else none
   |_,_=>none
  |_=>none
 |.ext x i=>match ρ x with
  |.j5 vs=>(vs[i]?).map .val
  |_=>none
 |.len x=>match RA (ρ x)with
  |some n=>some (.val (.int .i64 (n:Int)))
  |none=>none
 |.mm max xs=>match xs.map ρ with
  |[]=>none
  |v::r=>(M3 max v r).map .val
 |.app s a7 bytes x y=>match FB own (ρ y)with
  |some ys=>if∀e∈ys,e.length=a7 then match ρ x with
    |.row s' t z 0 len=>match own.get s' t with
     |some b=>if b.a7=a7/\z=a7/\len<=b.es.length/\(len+ys.length)*bytes<=E7/\len+ys.length<=9223372036854775807 then
       some (.cn (.row s' (own.j7 s') a7 0 (len+ys.length)) (own.put s' (((own s').u5 t none).new ⟨a7,b.es.take len++ys⟩)))
      else none
     |none=>none
    |.nil=>if ys.length*bytes<=E7/\ys.length<=9223372036854775807 then
       some (.cn (.row s (own.j7 s) a7 0 ys.length) (own.put s ((own s).new ⟨a7,ys⟩)))else none
    |_=>none
   else none
  |none=>none
 |.dw s a7 bytes x y=>match ρ y,ρ x with
  |.sl _ ys,.row s' t z 0 len=>match own.get s t with
   |some b=>if s'=s/\(∀e∈ys,e.length=a7)/\b.a7=a7/\z=a7/\len<=b.es.length/\(len+ys.length)*bytes<=E7/\len+ys.length<=9223372036854775807 then
     some (.tn s (((own s).u5 t none).new ⟨a7,b.es.take len++ys⟩) (.row s (own.j7 s) a7 0 (len+ys.length)))
    else none
   |none=>none
  |.sl _ ys,.nil=>if(∀e∈ys,e.length=a7)/\ys.length*bytes<=E7/\ys.length<=9223372036854775807 then some (.tn s ((own s).new ⟨a7,ys⟩) (.row s (own.j7 s) a7 0 ys.length))else none
  |_,_=>none
 |.call f xs=>match (xs.map ρ).mapM (DD (own.u7 b9) true)with
  |some vs=>(C.pure f vs).map .val
  |none=>none
 |.j6 f xs=>match b9 with
  |[s]=>(OM C f (xs.map ρ) s own).map (λr=>.Bp s r.1 r.2)
  |_=>(C.gi f (xs.map ρ) own).map (λr=>.cn r.1 r.2)
 |.uh ne x=>match ρ x with
  |.nil=>some (.val (.bool (xor true ne)))
  |.y8 (.bool b)=>some (.val (.bool (xor b ne)))
  |.sl _ (_::_)=>some (.val (.bool (xor false ne)))
  |.row _ _ _ _ (_+1)=>some (.val (.bool (xor false ne)))
  |_=>none
 |.bad=>none
 |.mg x=>match ρ x with
  |.ptr s t i j=>some (.val (.ptr s t i j))
  |_=>none
 |.qo s=>some (.cn (.mp s (own.j7 s)) (own.put s ((own s).new ⟨2,[]⟩)))
 |.ru x k=>match ρ x,ρ k with
  |.mp s t,.y8 (.string b)=>match (own.u7 b9).get s t with
   |some c9=>if b.size<=9223372036854775807/\c9.es.length<=9223372036854775807 then some (.val (.j5 [.int .i64 ((HF c9.es b).getD 0),.bool (HF c9.es b).isSome]))else none
   |none=>none
  |_,_=>none
 |.qp x k v=>match ρ x,ρ k,ρ v with
  |.mp s t,.y8 (.string b),.int .i64 n=>match own.get s t with
   |some c9=>if b.size<=9223372036854775807/\c9.es.length<9223372036854775807/\-9223372036854775808<=n/\n<=9223372036854775807 then some (.cn .any (own.put s ((own s).u5 t (some ⟨c9.a7,S4 c9.es b n⟩))))else none
   |none=>none
  |_,_,_=>none
 |.oa a7 bytes x y=>match FB own (ρ y),ρ x with
  |some ys,.row s t z 0 0=>match own.get s t with
   |some b=>if(∀e∈ys,e.length=a7/\∀c∈e,RF c=true)/\b.a7=a7/\z=a7/\ys.length*bytes<=E7/\ys.length<=9223372036854775807 then some (.cn (.sl false ys) (own.put s (((own s).u5 t none).lost)))else none
   |none=>none
  |_,_=>none
 |.fm fs f a7 x c=>match ρ c with
  |.fn true f' g []=>if f'=f/\g=C.num f/\C.fo fs=some a7 then(match ρ x with
   |.nil=>some (.cn (.j5 []) own)
   |.row s t z 0 len=>match own.get s t with
    |some b=>if len=b.es.length/\z=a7/\b.a7=a7/\len<4611686018427387904 then(jV C.cmp f b.es).map λes'=>.cn (.j5 []) (own.put s ((own s).u5 t (some ⟨a7,es'⟩)))else none
    |none=>none
   |_=>none)else none
  |_=>none
 |.dh s f xs=>(eA C f (xs.map ρ) s (own s)).map λp=>.tn s p.2 p.1
 |.jg tb x=>match ρ x with
  |.int _ n=>if 0<=n then(match tb[n.toNat]? with
   |some v=>some (.val (.int .u8 v))
   |none=>none)else none
  |_=>none
 |.qm p f xs=>(xs.mapM (λx=>IL (ρ x))).map (λcs=>.val (.fn (p&&cs.isEmpty) f (C.num f) cs))
 |.o8 f xs=>if(xs.map ρ).all dq=true then(match C.pure f ((xs.map ρ).map yg)with
   |some r=>if KS r\/U9 r then some (.val (N3 r))else none
   |none=>none)else none
 |.qt s n x v=>match ρ x,cellsOf (ρ v)with
  |.ptr s' t i j,some vs=>if s'=s/\vs.length=n then(own.py s t i j vs).map (λo'=>B9.u5 s (o' s))else none
  |_,_=>none
 |.y5 s f xs=>match (xs.map ρ).mapM (QI (own.u7 b9) true)with
  |some vs=>(OL (C.gi f vs Own.emp)).map (λr=>.new s ⟨r.1,r.2⟩ (λt=>.row s t r.1 0 r.2.length))
  |none=>none
 |.v8 x xs=>match ρ x with
  |.fn p f g cs=>if g=C.num f then(match p,cs with
   |true,[]=>(match (xs.map ρ).mapM (DD own true)with
    |some vs=>(C.pure f vs).map .val
    |none=>none)
   |false,cs=>(C.gi f (xs.map ρ++cs) own).map (λr=>.cn r.1 r.2)
   |true,c::cs=>(match (AV.agg (c::cs)::xs.map ρ).mapM (DD own true)with
    |some vs=>(C.pure f vs).map .val
    |none=>none))else none
  |_=>none
def St.dst(st:St)(d:Option Nat)(v:AV):St :=
 match d with
 |some d=>{ st with tm:=kv st.tm d v }
 |none=>st
def St.app(st:St)(d:Option Nat):B9->St
 |.val v=>st.dst d v
 |.new s b v=>{ (st.dst d (v (st.own.j7 s)))with own:=st.own.put s ((st.own s).new b) }
 |.Ae s b v=>{ (st.dst d (v (st.own.j7 s)))with own:=st.own.put s ((st.own s).new b) }
 |.cn v o=>{ (st.dst d v)with own:=o }
 |.Bp s v o=>{ (st.dst d v)with own:=o.put s (st.own s) }
 |.u5 s x=>{ (st.dst d (.j5 []))with own:=st.own.put s x }
 |.tn s x v=>{ (st.dst d v)with own:=st.own.put s x }
def GL(st:St):Option (Nat×Bool)->Option Bool
 |none=>some true
 |some (g,want)=>match j8 st.tm g with
  |.bool b=>some (b == want)
  |.j5 []=>some false
  |_=>none
noncomputable def C5(C:Cl)(o:AI)(st:St):Option St :=
 match GL st o.guard with
 |some true=>(j4 C o.b9 st.ev st.own o.op).map (st.app o.dst)
 |some false=>some (st.dst o.dst (.j5 []))
 |none=>none
noncomputable def DT(C:Cl):List AI->St->Option St
 |[],st=>some st
 |o::r,st=>match C5 C o st with
  |some o6=>DT C r o6
  |none=>none
def EY:EF->Option Nat
 |.ak s _=>some s
 |.box s _=>some s
 |.alloc s _=>some s
 |.b8 s _ _=>some s
 |.mk s _ _ _ _ _=>some s
 |.qt s _ _ _=>some s
 |.y5 s _ _=>some s
 |.dw s _ _ _ _=>some s
 |.dh s _ _=>some s
 |_=>none
inductive It where
 |code (c:BH)
 |qa (ts ss:u_)
 |c9 (id:Nat)
 |lp (c:BH)
def GS(id:Nat):List It->Option (List It)
 |.c9 Lh::k=>if Lh=id then some k else GS id k
 |_::k=>GS id k
 |[]=>none
def Own.drop(o:Own):u_->Own
 |[]=>o
 |s::r=>(o.drop r).put s ⟨(o s).j7,λ_=>none⟩
noncomputable def run(C:Cl):Nat->List It->St->Option St
 |0,_,_=>none
 |_+1,[],st=>some st
 |n+1,.c9 _::k,st=>run C n k st
 |n+1,.qa ts ss::k,st=>run C n k ⟨cb st.tm ts,st.own.drop ss⟩
 |n+1,.lp c::k,st=>run C n (.code c :: .lp c::k) st
 |n+1,.code c::k,st=>match c with
  |.skip=>run C n k st
  |.ops l _=>match DT C l st with
   |some o6=>run C n k o6
   |none=>none
  |.dr c ts ss=>run C n (.code c :: .qa ts ss::k) st
  |.scope c=>run C n (.code c::k) st
  |.seq a b=>run C n (.code a :: .code b::k) st
  |.cond c a b=>match st.ev c with
   |.bool true=>run C n (.code a::k) st
   |.bool false=>run C n (.code b::k) st
   |_=>none
  |.block id c=>run C n (.code c :: .c9 id::k) st
  |.loop c=>run C n (.code c :: .lp c::k) st
  |.exit id=>match GS id k with
   |some k'=>run C n k' st
   |none=>none
  |.ret=>some st
def CU(i:Nat):w_->Tm
 |[]=>[]
 |v::r=>(i,v)::CU (i+1) r
def KH:AV->Option AV
 |.any=>none
 |.j5 _=>none
 |v=>some v
def GE(st:St):LS->Option AV
 |.tmp t=>KH (j8 st.tm t)
 |.cell t agg n=>match j8 st.tm t with
  |.ptr s u i j=>match st.own.rq s u i j n with
   |some cs=>NC agg cs
   |none=>none
  |_=>none
def J2:w_->AV
 |[v]=>v
 |vs=>.j5 vs
structure Lib where
 fn:Nat->Option AFn
 num:Nat->Nat
 ext:Nat->w_->Option AV:=λ_ _=>none
 cmp:Nat->w_->Option AV:=λ_ _=>none
 fo:Nat->Option Nat:=λ_=>none
instance:CoeFun Lib (λ_=>Nat->Option AFn) := ⟨Lib.fn⟩
open Classical in
noncomputable def JW(I:w_->Option (AV×Own))(vs:w_):Option AV :=
 match I vs with
 |some (r,o)=>match UY o false r with
  |some r'=>if AY r' then some r' else none
  |none=>none
 |none=>none
def Lib.tk(L:Lib)(f:Nat):Bool:=match L f with
 |some fn=>fn.tk
 |none=>false
open Classical in
noncomputable def N9(b:Bool)(I:w_->Option (AV×Own))(vs:w_):Option AV:=match b,vs with
 |true,.sl _ []::vs=>match JW I (.y8 (.bool true)::vs),JW I (.y8 (.bool false)::vs)with
  |some r,some r'=>if r=r' then some r else none
  |_,_=>none
 |_,vs=>JW I vs
open Classical in
noncomputable def OA(L:Lib)(f:Nat)(I:w_->Option (AV×Own))(vs:w_):Option AV:=match L f with
 |some _=>N9 (L.tk f) I vs
 |none=>match L.ext f vs with
  |some r=>if AY r then some r else none
  |none=>none
noncomputable def D4(L:Lib):Nat->Nat->w_->Own->Option (AV×Own)
 |0,_,_,_=>none
 |n+1,f,args,own=>match L f with
  |none=>none
  |some fn=>if args.length=fn.cr then
    match run ⟨λf vs=>OA L f (λvs=>D4 L n f vs Own.emp) vs,D4 L n,L.num,L.cmp,L.fo⟩ n [.code fn.body] ⟨CU 0 args,own⟩with
    |some st=>match fn.res.mapM (GE st)with
     |some vs=>some (J2 vs,st.own)
     |none=>none
    |none=>none
   else none
noncomputable def F9(L:Lib)(n f:Nat)(vs:w_):Option AV:=OA L f (λvs=>D4 L n f vs Own.emp) vs
noncomputable def CZ(L:Lib)(n:Nat):Cl:=⟨F9 L n,D4 L n,L.num,L.cmp,L.fo⟩
theorem YA(L:Lib)(n f:Nat)(args:w_)(own:Own):D4 L (n+1) f args own =
  match L f with
  |none=>none
  |some fn=>if args.length=fn.cr then
    match run (CZ L n) n [.code fn.body] ⟨CU 0 args,own⟩with
    |some st=>match fn.res.mapM (GE st)with
     |some vs=>some (J2 vs,st.own)
     |none=>none
    |none=>none
   else none:=rfl
namespace C
abbrev o(d:Nat)(op:EF):AI:=⟨some d,op,none,[]⟩
abbrev n(op:EF):AI:=⟨none,op,none,[]⟩
abbrev g(d i:Nat)(b:Bool)(op:EF):AI:=⟨some d,op,some (i,b),[]⟩
abbrev m(d s:Nat):AI:=⟨some d,.q9 (.t s),none,[]⟩
abbrev k(v:Int):AL := .c (.int .i64 v)
abbrev z:AV := .int .i64 0
abbrev q(d:Nat)(b9:u_)(op:EF):AI:=⟨some d,op,none,b9⟩
abbrev u(b9:u_)(op:EF):AI:=⟨none,op,none,b9⟩
abbrev v(d i:Nat)(b:Bool)(b9:u_)(op:EF):AI:=⟨some d,op,some (i,b),b9⟩
abbrev p(l:List AI):BH := .ops l false
abbrev P(l:List AI):BH := .ops l true
abbrev d(l:List AI)(ts:u_):BH := .dr (.ops l false) ts []
abbrev e(l:List AI)(ts:u_):BH := .dr (.ops l true) ts []
abbrev s(a b:BH):BH := .seq a b
abbrev i(c:AL)(a b:BH):BH := .cond c a b
abbrev b(id:Nat)(c:BH):BH := .block id c
abbrev w(c:BH):BH := .loop c
abbrev x(id:Nat):BH := .exit id
instance (i:Nat):OfNat AL i := ⟨.t i⟩
abbrev mv(d:Nat)(x:AL):AI:=⟨some d,.q9 x,none,[]⟩
abbrev tt(d n:Nat)(x:AL):AI:=⟨some d,.ld true n x,none,[]⟩
abbrev uu(d n:Nat)(x:AL):AI:=⟨some d,.ld false n x,none,[]⟩
abbrev ca(d f:Nat)(l:List AL):AI:=⟨some d,.call f l,none,[]⟩
abbrev fa(d:Nat)(x:AL)(a:Nat):AI:=⟨some d,.o4 x a,none,[]⟩
abbrev ia(d z:Nat)(x y:AL):AI:=⟨some d,.u4 none z x y,none,[]⟩
abbrev bi(d:Nat)(f:BinOp)(x y:AL):AI:=⟨some d,.bin f x y,none,[]⟩
abbrev ad(d:Nat)(x y:AL):AI:=⟨some d,.bin .add x y,none,[]⟩
abbrev sb(d:Nat)(x y:AL):AI:=⟨some d,.bin .sub x y,none,[]⟩
abbrev ls(d:Nat)(x y:AL):AI:=⟨some d,.bin .lss x y,none,[]⟩
abbrev al(d:Nat)(l:w_):AI:=⟨some d,.alloc d l,none,[]⟩
abbrev ln(d:Nat)(x:AL):AI:=⟨some d,.len x,none,[]⟩
abbrev et(d:Nat)(x:AL)(a:Nat):AI:=⟨some d,.ext x a,none,[]⟩
abbrev bx(d:Nat)(x:AL):AI:=⟨some d,.box d x,none,[]⟩
abbrev pk(d:Nat)(x y w:AL):AI:=⟨some d,.pick x y w,none,[]⟩
abbrev nt(d:Nat)(x:AL):AI:=⟨some d,.un .not x,none,[]⟩
abbrev cu(d:Nat)(x:AL):AI:=⟨some d,.conv .u64 x,none,[]⟩
abbrev so(n:Nat)(x y:AL):AI:=⟨none,.st n x y,none,[]⟩
abbrev kf:AL := .c (.bool false)
abbrev kt:AL := .c (.bool true)
abbrev k0:AL := .c (.int .i64 0)
abbrev k1:AL := .c (.int .i64 1)
abbrev z3:w_:=[.bool false,.nil,.nil]
abbrev z6:w_:=[.nil,.nil,.nil,.bool false,.nil,.nil]
abbrev sd(l:List AI)(ts:u_)(c:BH):BH := .seq (.dr (.ops l false) ts []) c
abbrev se(l:List AI)(ts:u_)(c:BH):BH := .seq (.dr (.ops l true) ts []) c
abbrev sp(l:List AI)(c:BH):BH := .seq (.ops l false) c
abbrev ra(a n:Nat):u_:=fc a n
abbrev rl(l:u_)(a n:Nat):u_:=l++fc a n
end C
end Go.e9
namespace Go.e9
def fO:Value->AV->Bool
 |.int k n,.int k' n'=>k == k'&&n == n'
 |.bool b,.bool b'=>b == b'
 |.slice none 0 0,.nil=>true
 |.string s,.y8 (.string s')=>s.data.toList == s'.data.toList
 |.nilFunc,.y8 .nilFunc=>true
 |.map none,.y8 (.map none)=>true
 |_,_=>false
def Q0:List Value->w_->Bool
 |[],[]=>true
 |v::r,a::l=>fO v a&&Q0 r l
 |_,_=>false
def mN:Value->AV->Bool
 |.agg cs,.agg l=>Q0 cs.toList l
 |v,a=>fO v a
def BW:Operand->AL->Bool
 |.tmp t,.t n=>t == n
 |.const v,.c a=>mN v a
 |.func g,.c (.fn _ _ g' [])=>g == g'
 |_,_=>false
def EW:List Operand->List AL->Bool
 |[],[]=>true
 |v::r,a::l=>BW v a&&EW r l
 |_,_=>false
def OR:Option Operand->Option AL->Bool
 |none,none=>true
 |some x,some y=>BW x y
 |_,_=>false
section
variable (P:Program)
def XR(t:TypeId):Option Bool :=
 match P.underlying t with
 |some (.struct _)=>some true
 |some (.array _ _)=>some true
 |some _=>some false
 |none=>none
def KO(t:TypeId)(n:Nat):Bool:=match P.info? t with|some i=>i.size == n|none=>false
def XU(t:TypeId)(n:Nat):Bool:=match P.info? t with|some i=>i.bytes == n|none=>false
def XF(t:TypeId)(l:w_):Bool:=match P.info? t with|some i=>(match i.zero with|some z=>Q0 z.cells.toList l|none=>false)|none=>false
def KP(t:TypeId)(f:TypeId->Bool):Bool:=match P.underlying t with|some (.slice e)=>f e|_=>false
def Tf(t:TypeId)(i off n:Nat):Bool:=match P.underlying t with
 |some (.struct fs)=>(match fs[i]? with|some f=>f.offset == off&&KO P f.type n&&n != 0|none=>false)
 |_=>false
def Tg(t:TypeId)(i:Nat)(agg:Bool):Bool:=match P.underlying t with
 |some (.struct fs)=>(match fs[i]? with|some f=>XR P f.type == some agg|none=>false)
 |_=>false
def WM(place:Nat->Option (Nat×Nat)):List (Nat×Operand)->List (Nat×Nat×AL)->Bool
 |[],[]=>true
 |(i,x)::r,(off,n,y)::l=>place i == some (off,n)&&BW x y&&WM place r l
 |_,_=>false
def lG(t:TypeId)(ps:List (Nat×Operand))(dc:List (Nat×Nat×AL)):Bool:=match P.underlying t with
 |some (.struct fs)=>(match fs.toList.mapM (λf=>(P.info? f.type).map λi=>(f.offset,i.size))with|some places=>WM (places.toArray[·]?) ps dc|none=>false)
 |some (.array _ e)=>(match P.info? e with|some ie=>WM (λi=>some (i*ie.size,ie.size)) ps dc|none=>false)
 |_=>false
def V1(k:Nat):List (Nat×Operand)->List AL->Bool
 |[],[]=>true
 |(i,x)::r,y::l=>i == k&&BW x y&&V1 (k+1) r l
 |_,_=>false
def bF(t:TypeId):Bool:=match P.underlying t with
 |some (.map k e)=>(match P.underlying k with|some .string=>true|_=>false)&&(match P.underlying e with|some (.int .i64)=>true|_=>false)&&(match P.info? e with|some i=>(match i.zero with|some (.int .i64 n)=>n == 0|_=>false)|none=>false)
 |_=>false
def A9(num:Nat->Nat)(op:Op):EF->Bool
 |.oa a7 bytes x' y'=>match op with
  |.call ⟨.builtin .append,xs,ts⟩=>(match xs.toList,ts.toList with
   |[x,y],[t,u]=>BW x x'&&BW y y'&&KP P t (λe=>KO P e a7&&XU P e bytes&&(match P.info? e with|some i=>(match i.zero with|some z=>z.cells.size == a7|none=>false)|none=>false))&&a7 != 0&&KP P u (λ_=>true)
   |_,_=>false)
  |_=>false
 |.fm fs _ _ x' c'=>match op with
  |.call ⟨.value (.func f),xs,_⟩=>f == num fs&&EW xs.toList [x',c']
  |_=>false
 |.qo s=>Nat.ble EP s&&(match op with |.makeMap t none=>bF P t|_=>false)
 |.ru x' k'=>match op with |.lookup t x k true=>bF P t&&BW x x'&&BW k k'|_=>false
 |.qp x' k' v'=>match op with |.mapUpdate t x k v=>bF P t&&BW x x'&&BW k k'&&BW v v'|_=>false
 |.q9 y=>match op with |.move x=>BW x y |.assign x=>BW x y|_=>false
 |.ak _ z=>z != 0&&(match op with |.move (.const (.slice none 0 0))=>true |.assign (.const (.slice none 0 0))=>true|_=>false)
 |.pick c' a' b'=>match op with |.pick c a b=>BW c c'&&BW a a'&&BW b b'|_=>false
 |.bin Bh x' y'=>match op with |.binOp op _ x y _=>op == Bh&&BW x x'&&BW y y'|_=>false
 |.beq ne x' y'=>match op with |.binOp op t x y _=>(if ne then op == .neq else op == .eql)&&(match P.underlying t with|some .bool=>true|_=>false)&&BW x x'&&BW y y'|_=>false
 |.un Bh x'=>match op with |.unOp op _ x=>op == Bh&&BW x x'|_=>false
 |.conv k x'=>match op with |.convert s d x=>(P.underlying s).isSome&&(match P.underlying d with|some (.int k')=>k == k'|_=>false)&&BW x x'|_=>false
 |.box _ x'=>match op with |.box _ x=>BW x x'|_=>false
 |.alloc _ z=>match op with |.alloc t=>XF P t z|_=>false
 |.build z dc=>match op with |.build t ps=>XF P t z&&lG P t ps.toList dc|_=>false
 |.b8 _ a7 dc |.lit a7 dc=>match op with
  |.buildSlice t n ps=>KP P t (λe=>KO P e a7)&&a7 != 0&&n == dc.length&&decide (n*a7<=16777216)&&V1 0 ps.toList dc&&(n == 0||KP P t (λe=>match P.info? e with|some i=>(match i.zero with|some z=>z.cells.size == a7|none=>false)|none=>false))
  |_=>false
 |.o4 x' off=>match op with
  |.fieldAddr s x f=>BW x x'&&(match P.underlying s with|some (.struct fs)=>(match fs[f]? with|some fd=>fd.offset == off&&(match P.info? fd.type with|some i=>i.size != 0|none=>false)|none=>false)|_=>false)
  |_=>false
 |.og x' off n agg=>match op with |.field t x f=>BW x x'&&Tf P t f off n&&Tg P t f agg|_=>false
 |.u4 arr a7 x' i'=>match op with
  |.indexAddr t x i=>BW x x'&&BW i i'&&(match P.underlying t,arr with|some (.array len e),some ui=>len == ui&&KO P e a7&&decide (1<len)|some (.slice e),none=>KO P e a7&&a7 != 0|_,_=>false)
  |_=>false
 |.ld agg n x'=>match op with |.load t x=>BW x x'&&XR P t == some agg&&(if agg then KO P t n else n == 1)|_=>false
 |.st n x' v'=>match op with |.store t x v=>BW x x'&&BW v v'&&KO P t n|_=>false
 |.mk _ a7 bytes z l' c'=>match op with
  |.makeSlice t l c=>BW l l'&&BW c c'&&KP P t (λe=>KO P e a7&&XU P e bytes&&XF P e z)&&a7 != 0
  |_=>false
 |.iz a7 x' ql x5=>match op with
  |.slice t x lo hi none=>BW x x'&&OR lo ql&&OR hi x5&&KP P t (λe=>KO P e a7)&&a7 != 0
  |_=>false
 |.ext x' i'=>match op with |.extract x i=>BW x x'&&i == i'|_=>false
 |.len x'=>match op with
  |.call ⟨.builtin .len,xs,ts⟩=>(match xs.toList,ts.toList with|[x],[t]=>BW x x'&&KP P t (λ_=>true)|_,_=>false)
  |_=>false
 |.mm max xs'=>match op with
  |.call ⟨.builtin .min,xs,_⟩=>!max&&EW xs.toList xs'
  |.call ⟨.builtin .max,xs,_⟩=>max&&EW xs.toList xs'
  |_=>false
 |.app _ a7 bytes x' y'=>match op with
  |.call ⟨.builtin .append,xs,ts⟩=>(match xs.toList,ts.toList with
   |[x,y],[t,u]=>BW x x'&&BW y y'&&KP P t (λe=>KO P e a7&&XU P e bytes&&(match P.info? e with|some i=>(match i.zero with|some z=>z.cells.size == a7|none=>false)|none=>false))&&a7 != 0&&KP P u (λ_=>true)
   |_,_=>false)
  |_=>false
 |.dw _ a7 bytes x' y'=>match op with
  |.call ⟨.builtin .append,xs,ts⟩=>(match xs.toList,ts.toList with
   |[x,y],[t,u]=>BW x x'&&BW y y'&&KP P t (λe=>KO P e a7&&XU P e bytes&&(match P.info? e with|some i=>(match i.zero with|some z=>z.cells.size == a7|none=>false)|none=>false))&&a7 != 0&&KP P u (λ_=>true)
   |_,_=>false)
  |_=>false
 |.call f' xs'=>match op with
  |.call ⟨.value (.func f),xs,_⟩=>f == num f'&&EW xs.toList xs'
  |_=>false
 |.j6 f' xs'=>match op with
  |.call ⟨.value (.func f),xs,_⟩=>f == num f'&&EW xs.toList xs'
  |_=>false
 |.dh _ f' xs'=>match op with
  |.call ⟨.value (.func f),xs,_⟩=>f == num f'&&EW xs.toList xs'
  |_=>false
 |.uh ne x'=>match op with
  |.binOp op t x (.const (.slice none 0 0)) _=>(if ne then op == .neq else op == .eql)&&KP P t (λ_=>true)&&BW x x'
  |_=>false
 |.bad=>true
 |.mg x'=>match op with
  |.nilCheck x=>BW x x'
  |_=>false
 |.jg tb i'=>match op with
  |.index t (.const (.string s)) i=>(match P.underlying t with|some .string=>true|_=>false)&&s.data.toList.map (λb=>b.toNat) == tb&&BW i i'
  |_=>false
 |.qm _ f' xs'=>match op with
  |.makeFunc (.func f) first xs=>f == num f'&&first.toList.isEmpty&&EW xs.toList xs'
  |_=>false
 |.o8 f' xs'=>match op with
  |.call ⟨.value (.func f),xs,_⟩=>f == num f'&&EW xs.toList xs'
  |_=>false
 |.y5 _ f' xs'=>match op with
  |.call ⟨.value (.func f),xs,_⟩=>f == num f'&&EW xs.toList xs'
  |_=>false
 |.qt _ n x' v'=>match op with |.store t x v=>BW x x'&&BW v v'&&KO P t n|_=>false
 |.v8 x' xs'=>match op with
  |.call ⟨.value x,xs,_⟩=>BW x x'&&EW xs.toList xs'
  |_=>false
def bL(ops:Array Oper):Option (Nat×Bool)->Option (Nat×Bool)->Bool
 |none,none=>true
 |some (j,b),some (t,b')=>b == b'&&(match ops[j]? with|some o=>o.dst == some t|none=>false)
 |_,_=>false
def Y7(a:EF):Bool:=(match EY a with|some s=>Mc s EP|none=>true)&&(match a with |.app s _ _ _ _=>Mc s EP|_=>true)
def iP(num:Nat->Nat)(N:Nat)(ops:Array Oper)(o:Oper)(a:AI):Bool :=
 o.dst == a.dst&&(match a.dst with|some d=>decide (d<N)|none=>true)&&bL ops o.guard a.guard&&A9 P num o.op a.op&&Y7 a.op
def RG(num:Nat->Nat)(N:Nat)(ops:Array Oper):List Oper->List AI->Bool
 |[],[]=>true
 |o::r,a::l=>iP P num N ops o a&&RG num N ops r l
 |_,_=>false
def GV:EF->Bool
 |.st .. |.app .. |.j6 .. |.v8 .. |.qo .. |.qp .. |.oa .. |.fm .. =>true
 |_=>false
def WQ:EF->Bool
 |.ld .. |.call .. |.y5 .. |.ru .. =>true
 |_=>false
def MZ(a:EF):Bool:=GV a||WQ a||(EY a).isSome
def CN:AL->u_
 |.t n=>[n]
 |.c _=>[]
def qJ:Option AL->u_
 |some x=>CN x
 |none=>[]
def HQ:EF->u_
 |.q9 x=>CN x
 |.ak _ _=>[]
 |.pick c a b=>CN c++CN a++CN b
 |.bin _ x y=>CN x++CN y
 |.beq _ x y=>CN x++CN y
 |.un _ x=>CN x
 |.conv _ x=>CN x
 |.box _ x=>CN x
 |.alloc _ _=>[]
 |.build _ ps=>ps.flatMap (λp=>CN p.2.2)
 |.b8 _ _ ps=>ps.flatMap CN
 |.lit _ ps=>ps.flatMap CN
 |.o4 x _=>CN x
 |.og x _ _ _=>CN x
 |.u4 _ _ x i=>CN x++CN i
 |.ld _ _ x=>CN x
 |.st _ x v=>CN x++CN v
 |.mk _ _ _ _ l c=>CN l++CN c
 |.iz _ x lo hi=>CN x++qJ lo++qJ hi
 |.ext x _=>CN x
 |.len x=>CN x
 |.mm _ xs=>xs.flatMap CN
 |.app _ _ _ x y=>CN x++CN y
 |.dw _ _ _ x y=>CN x++CN y
 |.call _ xs=>xs.flatMap CN
 |.j6 _ xs=>xs.flatMap CN
 |.uh _ x=>CN x
 |.jg _ x=>CN x
 |.qm _ _ xs=>xs.flatMap CN
 |.v8 x xs=>CN x++xs.flatMap CN
 |.o8 _ xs=>xs.flatMap CN
 |.qt _ _ x v=>CN x++CN v
 |.y5 _ _ xs=>xs.flatMap CN
 |.dh _ _ xs=>xs.flatMap CN
 |.bad=>[]
 |.mg x=>CN x
 |.qo _=>[]
 |.oa _ _ x y=>CN x++CN y
 |.fm _ _ _ x c=>CN x++CN c
 |.ru x k=>CN x++CN k
 |.qp x k v=>CN x++CN k++CN v
def YO(x:AI):u_:=HQ x.op++(match x.guard with|some (g,_)=>[g]|none=>[])++x.dst.toList
def KF(b:Array Nat)(i j:Nat):Bool:=(b.getD (max i j) 0).testBit (min i j)
def OT(x:AI):Option Nat:=match x.op,x.b9 with
 |.j6 _ _,[s]=>some s
 |_,_=>none
def YK(x y:AI):Bool:=match OT x with
 |some s=>EY y.op == some s&&(!GV y.op && !WQ y.op)
 |none=>false
def Yl(b:Array Nat)(x:AI)(i:Nat)(y:AI)(j:Nat):Bool :=
 i == j||KF b i j ||
  ((match y.dst with|some t=>!(YO x).contains t|none=>true) &&
   (!GV x.op || !MZ y.op||YK x y) &&
   (!WQ x.op||(match EY y.op with|some s=>x.b9.contains s|none=>true)) )
def VY(ops:Array Oper)(l:List AI):Bool :=
 let b:=Region.before ops
 (l.zipIdx.all λ(x,i)=>l.zipIdx.all λ(y,j)=>Yl b x i y j&&(i == j||KF b i j||(match EY x.op,EY y.op with|some s,some s'=>s != s'|_,_=>true))) &&
 (ops.toList.zipIdx.all λ(o,i)=>o.after.all λe=>decide (e.on<i)||(match e.ground with |.gcOnly _=>true|_=>false)) &&
 (!Region.departs ops||(Pc ops.size).all (λi=>(Region.linearise .gc ops 0).contains i))
def FR(num:Nat->Nat)(N:Nat):Code->BH->Bool
 |c,.dr a _ _=>FR num N c a
 |c',.skip=>match c' with |.skip=>true |.label _=>true|_=>false
 |c',.scope a=>match c' with |.scope c=>FR num N c a|_=>false
 |c',.ops l sf=>match c' with |.region _ ops draw=>draw == sf&&RG P num N ops ops.toList l&&(!draw||VY ops l)|_=>false
 |c',.seq a' b'=>match c' with |.seq a b=>FR num N a a'&&FR num N b b'|_=>false
 |c',.cond x' a' b'=>match c' with |.cond x a b=>BW x x'&&FR num N a a'&&FR num N b b'|_=>false
 |c',.block i' a=>match c' with |.block i c=>i == i'&&FR num N c a|_=>false
 |c',.loop a=>match c' with |.loop c=>FR num N c a|_=>false
 |c',.exit i'=>match c' with |.exit i=>i == i'|_=>false
 |c',.ret=>match c' with |.ret=>true|_=>false
def N8:List ResultVar->List LS->Bool
 |[],[]=>true
 |.tmp t::r,.tmp t'::l=>t == t'&&N8 r l
 |.cell a t::r,.cell a' agg n::l=>a == a'&&XR P t == some agg&&(if agg then KO P t n else n == 1)&&N8 r l
 |_,_=>false
def okFn(num:Nat->Nat)(fn:Func)(a:AFn):Bool :=
 fn.params.size+fn.nfree == a.cr&&decide (a.cr<=fn.ntmps)&&N8 P fn.results.toList a.res&&(match fn.body with|some c=>FR P num fn.ntmps c a.body|none=>false)
end
end Go.e9

namespace Go.e9
@[irreducible] def FF(a b:Nat):Nat := (a + 18446744073709551616 - b) % 18446744073709551616
theorem XB(a b:Nat):FF a b=(a+18446744073709551616-b)%18446744073709551616:=by unfold FF;rfl
def val:u_->Nat
 |[]=>0
 |d::l=>d+4294967296*val l
def A3(l:u_):Prop := ∀d∈l,d<4294967296
def dg(n:Nat):u_:=if h:n=0 then[]else n%4294967296::dg (n/4294967296)
termination_by n
decreasing_by omega
theorem FX:dg 0=[]:=by rw[dg];simp
theorem K0{n:Nat}(h:n≠0):dg n=n%4294967296::dg (n/4294967296):=by rw[dg];simp[h]
theorem KR:val []=0:=rfl
theorem RO(d:Nat)(l:u_):val (d::l)=d+4294967296*val l:=rfl
theorem BQ(n:Nat):val (dg n)=n:=by
 induction n using qb with
 |ind n ih=>
  by_cases h:n=0
  ·subst h;rw[FX];rfl
  ·rw[K0 h,RO,ih _ O']
   omega
theorem EH(n:Nat):A3 (dg n):=by
 induction n using qb with
 |ind n ih=>
  by_cases h:n=0
  ·subst h;rw[FX];intro d hd;cases hd
  ·rw[K0 h]
   intro d hd;rcases pc.1 hd with rfl|hd
   ·omega
   ·exact ih _ O' d hd
theorem A3.tail{d:Nat}{l:u_}(h:A3 (d::l)):A3 l:=λx hx=>h x (ma _ hx)
theorem A3.head{d:Nat}{l:u_}(h:A3 (d::l)):d<4294967296:=h d Na
theorem A3.at{l:u_}(h:A3 l){i d:Nat}(hd:l[i]?=some d):d<4294967296:=h d (zM hd)
theorem A3.take{l:u_}(h:A3 l)(n:Nat):A3 (l.take n):=λx hx=>h x (List.mem_of_mem_take hx)
theorem A3.drop{l:u_}(h:A3 l)(n:Nat):A3 (l.drop n):=λx hx=>h x (List.mem_of_mem_drop hx)
theorem X7:A3 []:=λ_ h=>by cases h
theorem A3.append{a b:u_}(h:A3 a)(h':A3 b):A3 (a++b):=λx hx=>(Ha.1 hx).elim (h x) (h' x)
theorem IV{d:Nat}(h:d<4294967296):A3 [d]:=λx hx=>by simp at hx;omega
theorem A3.set{l:u_}(h:A3 l)(i:Nat){d:Nat}(hd:d<4294967296):A3 (l.set i d):=λx hx=>by
 rcases List.mem_or_eq_of_mem_set hx with h1|h1
 ·exact h x h1
 ·omega
theorem K2(n:Nat):A3 (ya n 0):=λx hx=>by rw[(List.mem_replicate.1 hx).2];omega
theorem ZJ(a b:u_):val (a++b)=val a+4294967296^a.length*val b:=by
 induction a with
 |nil=>simp[val]
 |cons d l ih=>rw[Cb,RO,RO,ih,ua,eb];grind
theorem OE(l:u_)(v:Nat):val (l++[v])=val l+4294967296^l.length*v:=by
 rw[ZJ];simp[val]
theorem F2{l:u_}(h:A3 l):val l<4294967296^l.length:=by
 induction l with
 |nil=>simp[val]
 |cons d l ih=>
  have h1:=ih h.tail;have h2:=h.head;rw[RO,ua,eb];omega
theorem ER{l:u_}{i v:Nat}(h:l[i]?=some v):val (l.take (i+1))=val (l.take i)+4294967296^i*v:=by
 have hi:=(zS h).1;rw[Gb,h,Option.toList_some,OE,ja,Pa O']
theorem LQ(l:u_)(i:Nat)(h:i<=l.length):val l=val (l.take i)+4294967296^i*val (l.drop i):=by
 have:=ZJ (l.take i) (l.drop i)
 rw[Pb,ja,Pa h]at this;exact this
theorem kH(n:Nat):val (ya n 0)=0:=by
 induction n with
 |zero=>rfl
 |succ n ih=>rw[List.replicate_succ,RO,ih]
theorem Ahh{l:u_}(h:A3 l)(ht:l=[]\/∃d,l[l.length-1]?=some d/\d≠0):dg (val l)=l:=by
 induction l with
 |nil=>exact FX
 |cons d l ih=>
  have h1:=h.head;by_cases hl:l=[]
  ·subst hl
   rcases ht with ht|⟨x,hx,nz⟩
   ·cases ht
   ·simp at hx
    subst hx;rw[RO,KR,K0 O',show(d+4294967296*0)/4294967296=0 by omega,FX,show(d+4294967296*0)%4294967296=d by omega]
  ·have ny:∃x,l[l.length-1]?=some x/\x≠0:=by
    rcases ht with ht|⟨x,hx,nz⟩
    ·cases ht
    ·refine⟨x,?_,nz⟩
     have:l.length≠0:=λe=>hl (xb e)
     rw[ua,show l.length+1-1=(l.length-1)+1 by omega,Ia]at hx;exact hx
   have Jg:=ih h.tail (Or.inr ny);have zl:val l≠0:=by
    intro e;rw[e,FX]at Jg;exact hl Jg.symm
   rw[RO,K0 O',show(d+4294967296*val l)/4294967296=val l by omega,Jg,show(d+4294967296*val l)%4294967296=d by omega]
theorem H5{l:u_}(h:A3 l){n:Nat}(hn:n<=l.length)(hz:∀i,n<=i->i<l.length->l[i]?=some 0)(ht:n=0\/∃d,l[n-1]?=some d/\d≠0):l.take n=dg (val l):=by
 have hv:val l=val (l.take n):=by
  have h0:l.drop n=ya (l.length-n) 0:=by
   apply List.ext_getElem?;intro i;rw[Jb,List.getElem?_replicate];by_cases hi:n+i<l.length
   ·rw[hz (n+i) O' hi,if_pos O']
   ·rw[List.getElem?_eq_none O',if_neg O']
  rw[LQ l n hn,h0,kH];omega
 rw[hv];refine(Ahh (h.take n) ?_).symm;rcases ht with rfl|⟨d,hd,rh⟩
 ·exact Or.inl Z'
 ·have k7:=(zS hd).1
  by_cases pe:n=0
  ·subst pe;exact Or.inl Z'
  ·refine Or.inr ⟨d,?_,rh⟩
   rw[ja,Pa hn,List.getElem?_take,if_pos O'];exact hd
theorem NV{n k:Nat}:(dg n).length<=k↔n<4294967296^k:=by
 induction k generalizing n with
 |zero=>
  by_cases h:n=0
  ·subst h;simp[FX]
  ·rw[K0 h];simp;omega
 |succ k ih=>
  by_cases h:n=0
  ·subst h;simp[FX];exact Ib Z'
  ·rw[K0 h,ua,Nat.succ_le_succ_iff,ih,eb]
   rw[ta O']
theorem FN{l:u_}(h:A3 l):(dg (val l)).length<=l.length:=NV.2 (F2 h)
theorem lZ{n:Nat}(h:n≠0):∃d,(dg n)[(dg n).length-1]?=some d/\d≠0:=by
 induction n using qb with
 |ind n ih=>
  rw[K0 h];by_cases h2:n/4294967296=0
  ·rw[h2,FX]
   exact⟨n%4294967296,Z',O'⟩
  ·obtain⟨d,hd,rh⟩:=ih _ O' h2
   refine⟨d,?_,rh⟩;have hl:(dg (n/4294967296)).length≠0:=λe=>by rw[xb e]at hd;simp at hd
   rw[ua,show(dg (n/4294967296)).length+1-1=(dg (n/4294967296)).length-1+1 by omega,Ia];exact hd
theorem lX{n:Nat}:dg n=[]↔n=0:=by
 constructor
 ·intro h
  by_cases h0:n=0
  ·exact h0
  ·rw[K0 h0]at h;cases h
 ·rintro rfl;exact FX
theorem aF{n:Nat}(h:n≠0):1<=(dg n).length:=by rw[K0 h];simp
theorem Am8{o:u_}{i v:Nat}(h:i<o.length):(o.set i v).take (i+1)=o.take i++[v]:=by
 rw[Gb,ib h,Lb (La i)];rfl
theorem HS{o:u_}{i v:Nat}(h:i<o.length):val ((o.set i v).take (i+1))=val (o.take i)+4294967296^i*v:=by
 rw[Am8 h,OE,ja,Pa O']
theorem QU(V p t:Nat):V+p*(t%4294967296)+p*4294967296*(t/4294967296)=V+p*t:=by
 have h:=ob t 4294967296;have:p*(t%4294967296)+p*4294967296*(t/4294967296)=p*t:=by
  rw[Ka,<-Qa,h]
 omega
theorem DQ{l:u_}{n:Nat}(h:l.length<=n):val (l.take n)=val l:=by rw[zT h]
theorem Yn(i:Nat):1<=4294967296^i:=Ib Z'
theorem I4{l:u_}{i d:Nat}(h:l[i]?=some d):val (l.drop i)=d+4294967296*val (l.drop (i+1)):=by
 obtain⟨hi,rfl⟩:=zS h;rw[List.drop_eq_getElem_cons hi,RO]
theorem kD{a b:u_}(ha:A3 a)(hb:A3 b)(hl:a.length=b.length){i:Nat}{x y:Nat}(hx:a[i]?=some x)(hy:b[i]?=some y)(he:a.drop (i+1)=b.drop (i+1))(h:x<y):val a<val b:=by
 have hia:=(zS hx).1;have hib:=(zS hy).1;rw[LQ a i O',LQ b i O',I4 hx,I4 hy,he];have h1:=F2 (ha.take i);rw[ja,Pa O']at h1;generalize val (b.drop (i+1))=r;generalize 4294967296^i=p at*;have:p*(x+4294967296*r)+p<=p*(y+4294967296*r):=by
  rw[<-zb];exact xa p O'
 omega
theorem kE{o:u_}{k v old:Nat}(h:o[k]?=some old):val (o.set k v)+4294967296^k*old=val o+4294967296^k*v:=by
 have hk:=(zS h).1;have h1:val (o.set k v)=val (o.take k)+4294967296^k*(v+4294967296*val (o.drop (k+1))):=by
  rw[LQ (o.set k v) k K',Lb (La k),I4 (l:=o.set k v) (d:=v) (by rw[ib hk]),List.drop_set_of_lt O']
 have h2:val o=val (o.take k)+4294967296^k*(old+4294967296*val (o.drop (k+1))):=by
  rw[LQ o k O',I4 h]
 rw[h1,h2,Qa,Qa];omega
theorem cL{l:u_}(h:A3 l):l.take (dg (val l)).length=dg (val l):=by
 induction l with
 |nil=>rw[KR,FX];rfl
 |cons d l ih=>
  have h1:=h.head;by_cases h0:val (d::l)=0
  ·rw[h0,FX];rfl
  ·rw[K0 h0,RO,show(d+4294967296*val l)/4294967296=val l by omega,show(d+4294967296*val l)%4294967296=d by omega,ua,List.take_succ_cons,ih h.tail]
theorem ZK{a b:Nat}(h:(dg a).length<(dg b).length):a<b:=by
 have h1:a<4294967296^(dg a).length:=NV.1 (La _);have h2:¬b<4294967296^((dg b).length-1):=λh3=>by have:=NV.2 h3;omega
 have h3:4294967296^(dg a).length<=4294967296^((dg b).length-1):=Ea O' O';omega
end Go.e9

namespace Go.e9
def B6:List Int->List Int->Int
 |[],[]=>0
 |[],_::_=>-1
 |_::_,[]=>1
 |a::x,b::y=>if a<b then -1 else if b<a then 1 else B6 x y
theorem X1:∀x,B6 x x=0
 |[]=>rfl
 |a::x=>by simp only[B6,Int.lt_irrefl,if_false];exact X1 x
theorem VS:∀{x y},B6 x y=0->x=y
 |[],[],_=>rfl
 |[],_::_,h=>by simp[B6]at h
 |_::_,[],h=>by simp[B6]at h
 |a::x,b::y,h=>by
  simp only[B6]at h;split at h
  ·simp at h
  ·split at h
   ·simp at h
   ·rw[show a=b by omega,VS h]
theorem VR:∀x y,B6 y x = -B6 x y
 |[],[]=>rfl
 |[],_::_=>rfl
 |_::_,[]=>rfl
 |a::x,b::y=>by
  simp only[B6];have:=VR x y
  split<;>split<;>first|omega|(split<;>omega)|skip
theorem aB:∀{x y z},B6 x y<0->B6 y z<0->B6 x z<0
 |[],[],_,h,_=>by simp[B6]at h
 |[],_::_,[],_,h=>by simp[B6]at h
 |[],_::_,_::_,_,_=>by simp[B6]
 |_::_,[],_,h,_=>by simp[B6]at h
 |_::_,_::_,[],_,h=>by simp[B6]at h
 |a::x,b::y,c::z,h1,h2=>by
  simp only[B6]at*;have := @aB x y z;split at h1<;>split at h2<;>(try split at h1)<;>(try split at h2)<;>(try omega)
  all_goals (split;omega;split;omega;first|omega|exact this h1 h2)
theorem vU:∀x y,B6 x y = -1\/B6 x y=0\/B6 x y=1
 |[],[]=>by simp[B6]
 |[],_::_=>by simp[B6]
 |_::_,[]=>by simp[B6]
 |a::x,b::y=>by
  simp only[B6];have:=vU x y
  split
  ·simp
  ·split
   ·simp
   ·exact this
section
variable (f:List Int->List Int)
def AQ:Nat->List Int->List Int
 |0,s=>s
 |k+1,s=>AQ k (f s)
def A6:Nat->List Int->List (List Int)
 |0,_=>[]
 |k+1,s=>s::A6 k (f s)
variable {f}
theorem Q8:∀(k:Nat)(s:List Int),AQ f (k+1) s=f (AQ f k s)
 |0,_=>rfl
 |k+1,s=>Q8 k (f s)
theorem G0:∀(a b:Nat)(s:List Int),AQ f (a+b) s=AQ f b (AQ f a s)
 |0,b,s=>by rw[kc];rfl
 |a+1,b,s=>by rw[show a+1+b=(a+b)+1 by omega];exact G0 a b (f s)
theorem FZ:∀(k:Nat)(s:List Int),(A6 f k s).length=k
 |0,_=>rfl
 |k+1,s=>by simp only[A6,ua,FZ k]
theorem O7:∀{k j:Nat}{s:List Int},j<k->(A6 f k s)[j]?=some (AQ f j s)
 |0,_,_,h=>O'
 |k+1,0,s,_=>rfl
 |k+1,j+1,s,h=>by
  simp only[A6,Ia];exact O7 O'
theorem FC{k:Nat}{s t:List Int}:t∈A6 f k s ↔ ∃j,j<k/\t=AQ f j s:=by
 constructor
 ·intro h
  obtain⟨j,hj⟩:=Fa h;have hl:j<k:=by have:=(zS hj).1;rwa [FZ]at this
  rw[O7 hl]at hj;exact⟨j,hl,(za hj).symm⟩
 ·rintro⟨j,hj,rfl⟩
  exact zM (O7 hj)
theorem bS:∀(a b:Nat)(s:List Int),A6 f (a+b) s=A6 f a s++A6 f b (AQ f a s)
 |0,b,s=>by rw[kc];rfl
 |a+1,b,s=>by
  rw[show a+1+b=(a+b)+1 by omega];simp only[A6,Cb,bS a b];rfl
theorem O8(k:Nat)(s:List Int):A6 f (k+1) s=A6 f k s++[AQ f k s]:=bS k 1 s
theorem YY(a b:Nat)(s:List Int):(A6 f (a+b) s).drop a=A6 f b (AQ f a s):=by
 rw[bS,List.drop_left' (FZ a s)]
theorem Amg(a b:Nat)(s:List Int):(A6 f (a+b) s).take a=A6 f a s:=by
 rw[bS,List.take_left' (FZ a s)]
theorem YZ{k i j:Nat}{s:List Int}(h:(A6 f k s).Nodup)(hi:i<k)(hj:j<k)(e:AQ f i s=AQ f j s):i=j:=by
 refine(List.getElem?_inj (by rwa [FZ]) h).1 ?_;rw[O7 hi,O7 hj,e]
theorem bB{n:Nat}{s:List Int}(h:AQ f n s=s):∀q,AQ f (n*q) s=s
 |0=>rfl
 |q+1=>by rw[zb,G0,bB h q,h]
theorem Ak6{n:Nat}{s:List Int}(h:AQ f n s=s)(m:Nat):AQ f m s=AQ f (m%n) s:=by
 conv=>lhs;rw[<-nb m n]
 rw[G0,bB h]
theorem bC{n:Nat}{s:List Int}(h0:0<n)(h:AQ f n s=s)(m:Nat):AQ f m s∈A6 f n s :=
 FC.2 ⟨m%n,Hb _ h0,Ak6 h m⟩
theorem oO{n:Nat}{s:List Int}(h0:0<n)(h:AQ f n s=s)(m:Nat):AQ f (n*m) s=s/\m<=n*m/\AQ f (n*m-m) (AQ f m s)=s:=by
 have h1:m<=n*m:=Qb m h0;refine⟨bB h m,h1,?_⟩;rw[<-G0,show m+(n*m-m)=n*m by omega,bB h]
theorem oP{n:Nat}{s:List Int}(h:AQ f n s=s)(m:Nat):AQ f n (AQ f m s)=AQ f m s:=by
 rw[<-G0,ic,G0,h]
def HM{α:Type}(m:Nat)(l:List α):List α:=l.drop m++l.take m
theorem cB{n m:Nat}{s:List Int}(h:AQ f n s=s)(hm:m<=n):HM m (A6 f n s)=A6 f n (AQ f m s):=by
 obtain⟨d,rfl⟩:∃d,n=m+d:=⟨n-m,O'⟩;unfold HM;rw[YY,Amg,ic m d,bS d m,<-G0,h]
theorem rB{α β:Type}(g:α->β)(m:Nat)(l:List α):HM m (l.map g)=(HM m l).map g:=by simp[HM,List.map_drop,List.map_take]
theorem Wz{α:Type}{m:Nat}{l:List α}(h:m<=l.length):(HM m l).length=l.length:=by
 simp only[HM,List.length_append,Ja,ja];omega
theorem Wy{α:Type}{m i:Nat}{l:List α}(hm:m<l.length)(hi:i<l.length):(HM m l)[i]?=l[(m+i)%l.length]? := by
 unfold HM;by_cases h:m+i<l.length
 ·rw[List.getElem?_append_left (by rw[Ja];omega),Jb,Bb h]
 ·rw[List.getElem?_append_right (by rw[Ja];omega),Ja,List.getElem?_take_of_lt O',Nat.mod_eq_sub_mod O',Bb O']
  congr 1;omega
theorem UX{α:Type}(m:Nat)(l:List α):(HM m l).Perm l:=by
 unfold HM;exact List.perm_append_comm.trans (by rw[Pb])
variable (f) in
structure G9(g:List Int->Int)(B:List Int->Prop)(c:List (List Int)×List Int)(s:List Int)(k:Nat):Prop where
 pos:0<k
 Bi:AQ f k s=s
 nd:(A6 f k s).Nodup
 st:c.1=A6 f k s
 out:c.2=(A6 f k s).map g
 box:∀t∈A6 f k s,B t
 low:∀t∈A6 f k s,0<=B6 t s
variable {g:List Int->Int} {B B':List Int->Prop} {c d:List (List Int) × List Int} {s u:List Int} {k m:Nat}
theorem G9.uniq(h:G9 f g B c s k)(h':G9 f g B' d u m){t:List Int}(h1:t∈c.1)(h2:t∈d.1):c=d/\s=u/\k=m:=by
 rw[h.st]at h1;rw[h'.st]at h2;obtain⟨a,ha,rfl⟩:=FC.1 h1;obtain⟨b,hb,e⟩:=FC.1 h2;have r1:s∈A6 f m u:=by
  have:=(oO h.pos h.Bi a).2.2
  rw[e,<-G0]at this;rw[<-this];exact bC h'.pos h'.Bi _
 have r2:u∈A6 f k s:=by
  have:=(oO h'.pos h'.Bi b).2.2
  rw[<-e,<-G0]at this;rw[<-this];exact bC h.pos h.Bi _
 have q1:=h'.low s r1;have q2:=h.low u r2;rw[VR]at q2;obtain rfl:s=u:=VS O';have hkm:k=m:=by
  rcases Eb k m with k7|he|k7
  ·have:=YZ h'.nd (i:=k) (j:=0) k7 h'.pos h.Bi
   have:=h.pos
   omega
  ·exact he
  ·have:=YZ h.nd (i:=m) (j:=0) k7 h.pos h'.Bi
   have:=h'.pos
   omega
 subst hkm;refine⟨?_,rfl,rfl⟩;have e1:=h.st.trans h'.st.symm;have e2:=h.out.trans h'.out.symm;exact Nc e1 e2
theorem G9.Re{p j:Nat}(hp:0<p)(hu:AQ f p u=u)(hn:(A6 f p u).Nodup)(hj:j<p)(kn:∀t∈A6 f p u,0<=B6 t (AQ f j u))(hB:∀t∈A6 f p u,B t) :
  G9 f g B (HM j (A6 f p u),HM j ((A6 f p u).map g)) (AQ f j u) p:=by
 have e:=cB hu (m:=j) O';have hm:∀t,t∈A6 f p (AQ f j u)↔t∈A6 f p u:=λt=>by rw[<-e];exact(UX j _).mem_iff
 exact⟨hp,oP hu j,by rw[<-e];exact(UX j _).nodup_iff.2 hn,e,by rw[rB,e],λt ht=>hB t ((hm t).1 ht),λt ht=>kn t ((hm t).1 ht)⟩
end
def CK:List Int->List Int->Prop
 |[],[]=>True
 |b::box,v::s=>(-b<=v/\v<=b)/\CK box s
 |_,_=>False
def BX:List Int->Nat
 |[]=>1
 |b::box=>(2*b+1).toNat*BX box
def B8:List Int->List Int->Nat
 |b::box,v::s=>(v+b).toNat*BX box+B8 box s
 |_,_=>0
theorem Q7:∀{box s},CK box s->s.length=box.length
 |[],[],_=>rfl
 |_::_,_::_,h=>by simp only[ua,Q7 h.2]
 |[],_::_,h=>h.elim
 |_::_,[],h=>h.elim
theorem aZ:∀{box s:List Int}{i:Nat}{v b:Int},CK box s->s[i]?=some v->box[i]?=some b->-b<=v/\v<=b
 |[],[],_,_,_,_,h,_=>by simp at h
 |_::_,_::_,0,_,_,h,h1,h2=>by
  obtain rfl:=za h1;obtain rfl:=za h2;exact h.1
 |_::_,_::_,i+1,_,_,h,h1,h2=>aZ h.2 h1 h2
 |[],_::_,_,_,_,h,_,_=>h.elim
 |_::_,[],_,_,_,h,_,_=>h.elim
theorem JS:∀{box s:List Int},CK box s->B8 box s<BX box
 |[],[],_=>by simp[B8,BX]
 |b::box,v::s,h=>by
  obtain⟨⟨h1,h2⟩,h3⟩:=h;have ih:=JS h3;simp only[B8,BX];have:(v+b).toNat+1<=(2*b+1).toNat:=O'
  have:=zR (BX box) this
  rw[Ba]at this;omega
 |[],_::_,h=>h.elim
 |_::_,[],h=>h.elim
theorem aY:∀{box s t:List Int},CK box s->CK box t->B8 box s=B8 box t->s=t
 |[],[],[],_,_,_=>rfl
 |b::box,v::s,w::t,h,h',e=>by
  obtain⟨⟨h1,h2⟩,h3⟩:=h;obtain⟨⟨g1,g2⟩,g3⟩:=h';have l1:=JS h3;have l2:=JS g3;simp only[B8]at e;have e1:(v+b).toNat=(w+b).toNat:=by
   have d1:((v+b).toNat*BX box+B8 box s)/BX box=(v+b).toNat:=by
    rw[Oa,uc O',xc l1,jc]
   have d2:((w+b).toNat*BX box+B8 box t)/BX box=(w+b).toNat:=by
    rw[Oa,uc O',xc l2,jc]
   rw[<-d1,<-d2,e]
  rw[e1]at e;rw[aY h3 g3 O',show v=w by omega]
 |[],_::_,_,h,_,_=>h.elim
 |_::_,[],_,h,_,_=>h.elim
 |[],[],_::_,_,h,_=>h.elim
 |_::_,_::_,[],_,h,_=>h.elim
theorem pV{box:List Int}{l:List (List Int)}(hn:l.Nodup)(hb:∀s∈l,CK box s):l.length<=BX box:=by
 have h1:(l.map (B8 box)).Nodup:=by
  rw[List.Nodup,List.pairwise_map];refine List.Pairwise.imp_of_mem ?_ hn;intro a b ha j9 q6 e;exact q6 (aY (hb a ha) (hb b j9) e)
 have h2:=h1.length_le_of_subset (l₂:=Pc (BX box)) (λx hx=>by
  obtain⟨s,hs,rfl⟩:=nc.1 hx;exact List.mem_range.2 (JS (hb s hs)))
 simpa using h2
def JU:List Int->List Int->Option (List Int)
 |b::box,v::s=>match JU box s with
  |some s'=>some (v::s')
  |none=>if v<b then some ((v+1)::box.map λx=>-x)else none
 |_,_=>none
theorem oI:∀{box:List Int},(∀b∈box,0<=b)->CK box (box.map λx=>-x)/\B8 box (box.map λx=>-x)=0
 |[],_=>⟨trivial,rfl⟩
 |b::box,h=>by
  have h0:=h b Na;obtain⟨i1,i2⟩:=oI λx hx=>h x (ma _ hx)
  refine⟨⟨by show -b <= -b/\-b<=b;omega,i1⟩,?_⟩;simp only[oc,B8,i2];rw[show(-b+b).toNat=0 by omega];simp
theorem Zv:∀{box:List Int},(∀b∈box,0<=b)->0<BX box
 |[],_=>by simp[BX]
 |b::box,h=>by
  have h0:=h b Na;have:=Zv λx hx=>h x (ma _ hx)
  exact Nat.mul_pos O' this
theorem iI:∀{box s:List Int},(∀b∈box,0<=b)->CK box s->JU box s=none->B8 box s+1=BX box
 |[],[],_,_,_=>rfl
 |[],_::_,_,h,_=>h.elim
 |_::_,[],_,h,_=>h.elim
 |b::box,v::s,hb,h,hn=>by
  have j9:∀x∈box,0<=x:=λx hx=>hb x (ma _ hx)
  simp only[JU]at hn;split at hn
  ·cases hn
  ·rename_i ht
   split at hn
   ·cases hn
   ·have:=iI j9 h.2 ht
    simp only[B8,BX];have e:(2*b+1).toNat=(v+b).toNat+1:=by have:=h.1;omega
    rw[e,Ba];omega
theorem pU:∀{box s s':List Int},(∀b∈box,0<=b)->CK box s->JU box s=some s'->CK box s'/\B8 box s'=B8 box s+1
 |[],_,_,_,_,h=>by simp[JU]at h
 |_::_,[],_,_,h,_=>h.elim
 |b::box,v::s,s',hb,h,hn=>by
  have j9:∀x∈box,0<=x:=λx hx=>hb x (ma _ hx)
  simp only[JU]at hn;split at hn
  ·rename_i t ht
   obtain rfl:=za hn;obtain⟨i1,i2⟩:=pU j9 h.2 ht;refine⟨⟨h.1,i1⟩,?_⟩;simp only[B8,i2];omega
  ·rename_i ht
   split at hn
   ·rename_i k7
    obtain rfl:=za hn;obtain⟨i1,i2⟩:=oI j9;have h1:=h.1;refine⟨⟨O',i1⟩,?_⟩;have Ap3:=iI j9 h.2 ht;simp only[B8,i2];have e:(v+1+b).toNat=(v+b).toNat+1:=O'
    rw[e,Ba];omega
   ·cases hn
theorem iH:∀{box s:List Int},s.length=box.length->(∀(j:Nat)(x y:Int),s[j]?=some x->box[j]?=some y->y<=x)->JU box s=none
 |[],_,_,_=>by simp[JU]
 |_::_,[],_,_=>by simp[JU]
 |b::box,v::s,hl,h=>by
  have:=iH (box:=box) (s:=s) (by simpa using hl) λj x y hx hy=>h (j+1) x y hx hy
  have h0:=h 0 v b rfl rfl;simp only[JU,this];rw[if_neg O']
theorem pT:∀{box s:List Int}{i:Nat}{v b:Int},s.length=box.length->s[i]?=some v->box[i]?=some b->v<b->(∀(j:Nat)(x y:Int),i<j->s[j]?=some x->box[j]?=some y->y<=x)->JU box s=some (s.take i++(v+1)::(box.drop (i+1)).map λx=>-x)
 |[],_,_,_,_,_,_,h,_,_=>by simp at h
 |_::_,[],_,_,_,_,h,_,_,_=>by simp at h
 |b'::box,v'::s,0,v,b,hl,h1,h2,k7,hr=>by
  obtain rfl:=za h1;obtain rfl:=za h2;have:JU box s=none:=iH (by simpa using hl) λj x y hx hy=>hr (j+1) x y O' hx hy
  simp[JU,this,k7]
 |b'::box,v'::s,i+1,v,b,hl,h1,h2,k7,hr=>by
  have:=pT (box:=box) (s:=s) (i:=i) (by simpa using hl) h1 h2 k7 λj x y hj hx hy=>hr (j+1) x y O' hx hy
  simp[JU,this]
def H7:List (List Int×Int)->List Int->Option Int
 |[],_=>none
 |p::r,s=>if p.1=s then some p.2 else H7 r s
abbrev D5(seen:List (List Int×Int)):List (List Int):=seen.map wc
theorem gW:∀{seen:List (List Int×Int)}{s:List Int},H7 seen s=none↔s ∉ D5 seen
 |[],s=>by simp[H7]
 |p::r,s=>by
  simp only[H7,D5,oc,pc,not_or];split
  ·rename_i h;simp[h]
  ·rename_i h
   rw[gW];exact⟨λh'=>⟨λe=>h e.symm,h'⟩,λh'=>h'.2⟩
theorem bD:∀{seen:List (List Int×Int)}{s:List Int}{w:Int},H7 seen s=some w->(s,w)∈seen
 |[],_,_,h=>by simp[H7]at h
 |p::r,s,w,h=>by
  simp only[H7]at h;split at h
  ·rename_i e
   obtain rfl:=za h;subst e;exact Na
  ·exact ma _ (bD h)
section
variable (f:List Int->List Int) (g:List Int->Int) (box:List Int)
def FH(seen:List (List Int×Int))(s:List Int)(w:Int)(k:Nat):List (List Int×Int):=((A6 f k s).map λt=>(t,w)).reverse++seen
theorem Xn(seen:List (List Int×Int))(s:List Int)(w:Int)(k:Nat):FH f seen s w (k+1)=(AQ f k s,w)::FH f seen s w k:=by
 unfold FH;rw[O8,vb,List.reverse_append];rfl
theorem J5{seen:List (List Int×Int)}{s:List Int}{w:Int}{k:Nat}{t:List Int}:t∈D5 (FH f seen s w k)↔t∈A6 f k s\/t∈D5 seen:=by
 unfold FH;simp only[D5,vb,Db,mc,Ha,yb];rw[show(wc ∘ λt:List Int=>(t,w))=id from rfl,ec]
structure MK(seen:List (List Int×Int))(s:List Int)(k:Nat):Prop where
 nd:(A6 f k s).Nodup
 bx:∀t∈A6 f k s,CK box t
 nw:∀t∈A6 f k s,t ∉ D5 seen
inductive LY(seen:List (List Int×Int))(s:List Int)(k:Nat):Option (List (List Int)×List Int)->Prop where
 |out (h:¬CK box (AQ f k s)):LY seen s k none
 |old (h:AQ f k s∈D5 seen):LY seen s k none
 |new (i:Nat) (c:List (List Int)×List Int) (u:List Int) (hi:i<k) (h:AQ f k s=AQ f i s) (hc:G9 f g (CK box) c u (k-i)) (hu:∀t,t∈c.1 ↔ ∃j,i<=j/\j<k/\t=AQ f j s):LY seen s k (some c)
structure IQ(seen:List (List Int×Int))(l:List (List (List Int)×List Int))(w:Int):Prop where
 nd:(D5 seen).Nodup
 bx:∀t∈D5 seen,CK box t
 num:∀p∈seen,p.2<=w
 cl:∀t∈D5 seen,CK box (f t)->f t∈D5 seen
 pz:∀c∈l,(∃s k,G9 f g (CK box) c s k)/\∀t∈c.1,t∈D5 seen
 all:∀t∈D5 seen,∀n,0<n->AQ f n t=t->(∀u∈A6 f n t,CK box u)->∃c∈l,t∈c.1
 dis:l.Pairwise λc d=>∀t∈c.1,t ∉ d.1
variable {f g box}
theorem IQ.start:IQ f g box [] [] 0:=⟨List.nodup_nil,Z',Z',Z',Z',Z',List.Pairwise.nil⟩
theorem IQ.it{seen:List (List Int×Int)}{l:List (List (List Int)×List Int)}{w:Int}(h:IQ f g box seen l w):∀(m:Nat){t:List Int},t∈D5 seen->(∀j,CK box (AQ f j t))->AQ f m t∈D5 seen
 |0,_,ht,_=>ht
 |m+1,t,ht,hb=>h.it m (h.cl t ht (hb 1)) λj=>hb (j+1)
theorem IQ.walk{seen:List (List Int×Int)}{l:List (List (List Int)×List Int)}{w:Int}(h:IQ f g box seen l w){s:List Int}{k:Nat}{r:Option (List (List Int)×List Int)}(hk:MK f box seen s k)(hr:LY f g box seen s k r) :
  IQ f g box (FH f seen s (w+1) k) (l++r.toList) (w+1):=by
 have u6:∀t∈A6 f k s,CK box (f t)->f t∈A6 f k s\/f t∈D5 seen:=λt ht hb=>by
  obtain⟨j,hj,rfl⟩:=FC.1 ht;rw[<-Q8 (f:=f)]at hb⊢;by_cases e:j+1<k
  ·exact .inl (FC.2 ⟨j+1,e,rfl⟩)
  ·have e:j+1=k:=O'
   rw[e]at hb⊢;cases hr with
   |out h'=>exact absurd hb h'
   |old h'=>exact .inr h'
   |new i c u hi h' _ _=>rw[h'];exact .inl (FC.2 ⟨i,hi,rfl⟩)
 refine⟨?_,λt ht=>?_,λp hp=>?_,λt ht hb=>?_,λc hc=>?_,λt ht n hn hp hb=>?_,?_⟩
 ·unfold FH
  simp only[D5,vb,Db,mc];rw[show(wc ∘ λt:List Int=>(t,w+1))=id from rfl,ec,List.nodup_append];exact⟨(List.reverse_perm _).nodup_iff.2 hk.nd,h.nd,λa ha b hb e=>hk.nw a (yb.1 ha) (e▸hb)⟩
 ·rcases(J5 f).1 ht with ht|ht
  ·exact hk.bx t ht
  ·exact h.bx t ht
 ·unfold FH at hp
  rcases Ha.1 hp with hp|hp
  ·obtain⟨t,_,rfl⟩:=nc.1 (yb.1 hp)
   exact Int.le_refl _
  ·have:=h.num p hp;omega
 ·rcases(J5 f).1 ht with ht|ht
  ·exact(J5 f).2 (u6 t ht hb)
  ·exact(J5 f).2 (.inr (h.cl t ht hb))
 ·rcases Ha.1 hc with hc|hc
  ·obtain⟨h1,h2⟩:=h.pz c hc
   exact⟨h1,λt ht=>(J5 f).2 (.inr (h2 t ht))⟩
  ·cases hr with
   |out=>simp at hc
   |old=>simp at hc
   |new i c' u hi h' h1 h2=>
    obtain rfl:c=c':=by simpa using hc
    refine⟨⟨_,_,h1⟩,λt ht=>(J5 f).2 (.inl ?_)⟩;obtain⟨j,_,hj,rfl⟩:=(h2 t).1 ht;exact FC.2 ⟨j,hj,rfl⟩
 ·have jm:∀j,CK box (AQ f j t):=λj=>hb _ (bC hn hp j)
  rcases(J5 f).1 ht with ht|ht
  ·obtain⟨j,hj,rfl⟩:=FC.1 ht
   have he:AQ f k s=AQ f (k-j) (AQ f j s):=by rw[<-G0,show j+(k-j)=k by omega]
   cases hr with
   |out h'=>rw[he]at h';exact absurd (jm _) h'
   |old h'=>
    exfalso;obtain⟨_,_,fp⟩:=oO hn hp (k-j);rw[<-he]at fp;have:=h.it (n*(k-j)-(k-j)) h' (λm=>by rw[he,<-G0];exact jm _)
    rw[fp]at this;exact hk.nw _ ht this
   |new i c u hi h' h1 h2=>
    refine⟨c,Z',(h2 _).2 ?_⟩;have ep:AQ f (k-i) (AQ f i s)=AQ f i s:=by rw[<-G0,show i+(k-i)=k by omega];exact h'
    have e:AQ f j s=AQ f (n*i+j-i) (AQ f i s):=by
     have h3:=bB hp i;have h4:i<=n*i:=Qb i hn;rw[<-G0,show i+(n*i+j-i)=j+n*i by omega,G0,h3]
    rw[e];obtain⟨q,hq,e2⟩:=FC.1 (bC (show 0<k-i by omega) ep (n*i+j-i));exact⟨i+q,O',O',by rw[e2,<-G0]⟩
  ·obtain⟨c,hc,hm⟩:=h.all t ht n hn hp hb
   exact⟨c,List.mem_append_left _ hc,hm⟩
 ·rw[List.pairwise_append]
  refine⟨h.dis,by cases r<;>simp,λc hc d hd t Qg htd=>?_⟩;cases hr with
  |out=>simp at hd
  |old=>simp at hd
  |new i c' u hi h' h1 h2=>
   obtain rfl:d=c':=by simpa using hd
   obtain⟨j,_,hj,rfl⟩:=(h2 t).1 htd;exact hk.nw _ (FC.2 ⟨j,hj,rfl⟩) ((h.pz c hc).2 _ Qg)
structure LT(f:List Int->List Int)(g:List Int->Int)(box:List Int)(l:List (List (List Int)×List Int)):Prop where
 pz:∀c∈l,∃s k,G9 f g (CK box) c s k
 all:∀c s k,G9 f g (CK box) c s k->c∈l
 Jo:l.Pairwise λc d=>∀s t,c.1[0]?=some s->d.1[0]?=some t->B6 s t<0
theorem G9.head{B:List Int->Prop}{c:List (List Int)×List Int}{s:List Int}{k:Nat}(h:G9 f g B c s k):c.1[0]?=some s:=by
 rw[h.st,O7 h.pos];rfl
theorem IQ.full{seen:List (List Int×Int)}{l l':List (List (List Int)×List Int)}{w:Int}(h:IQ f g box seen l w)(hf:∀t,CK box t->t∈D5 seen)(hp:l'.Perm l)(ho:∀(i j:Nat)(x y:List (List Int)×List Int),l'[i]?=some x->l'[j]?=some y->i<j->∀s t,x.1[0]?=some s->y.1[0]?=some t->B6 s t<0):LT f g box l':=by
 refine⟨λc hc=>(h.pz c (hp.mem_iff.1 hc)).1,λc s k hc=>hp.mem_iff.2 ?_,?_⟩
 ·have hs:s∈A6 f k s:=FC.2 ⟨0,hc.pos,rfl⟩
  obtain⟨d,hd,hm⟩:=h.all s (hf s (hc.box s hs)) k hc.pos hc.Bi hc.box;obtain⟨u,m,hu⟩:=(h.pz d hd).1;rw[(hc.uniq hu (by rw[hc.st];exact hs) hm).1];exact hd
 ·rw[Ma]
  intro i j hi hj jq;exact ho i j _ _ (zE hi) (zE hj) jq
theorem IQ.As{seen:List (List Int×Int)}{l:List (List (List Int)×List Int)}{w:Int}(h:IQ f g box seen l w){i j:Nat}{c d:List (List Int)×List Int}{s t:List Int}(hi:l[i]?=some c)(hj:l[j]?=some d)(hc:c.1[0]?=some s)(hd:d.1[0]?=some t)(e:s=t):i=j:=by
 obtain⟨i1,rfl⟩:=zS hi;obtain⟨j1,rfl⟩:=zS hj;have hp:=Ma.1 h.dis;subst e;rcases Eb i j with h1|h1|h1
 ·exact absurd (zM hd) (hp i j i1 j1 h1 s (zM hc))
 ·exact h1
 ·exact absurd (zM hc) (hp j i j1 i1 h1 s (zM hd))
theorem LT.uniq{l l':List (List (List Int)×List Int)}(h:LT f g box l)(h':LT f g box l'):l=l':=by
 have lt:∀{l:List (List (List Int)×List Int)},LT f g box l->l.Pairwise λc d=>∀s t,c.1[0]?=some s->d.1[0]?=some t->B6 s t<0:=λh=>h.Jo
 have nd:∀{l:List (List (List Int)×List Int)},LT f g box l->l.Nodup:=λ{l} h=>by
  refine List.Pairwise.imp_of_mem ?_ h.Jo;intro a b ha hb yq e;subst e;obtain⟨s,k,hc⟩:=h.pz a ha;have:=yq s s hc.head hc.head
  rw[X1]at this;omega
 have hm:∀c,c∈l↔c∈l':=λc=>⟨λhc=>by obtain⟨s,k,h1⟩:=h.pz c hc;exact h'.all c s k h1,λhc=>by obtain⟨s,k,h1⟩:=h'.pz c hc;exact h.all c s k h1⟩
 have hp:l.Perm l':=(List.perm_ext_iff_of_nodup (nd h) (nd h')).2 hm;refine List.Perm.eq_of_pairwise (λa b ha hb yq hba=>?_) h.Jo h'.Jo hp;obtain⟨s,k,h1⟩:=h.pz a ha;obtain⟨t,m,h2⟩:=h'.pz b hb;have q1:=yq s t h1.head h2.head;have q2:=hba t s h2.head h1.head;rw[VR]at q2;omega
end
end Go.e9

namespace Go.e9
section
variable {U V UL VL p u0 u1 u2 v1 v2 top q r:Nat}
theorem Akp(hU:U=UL+p*(u2+4294967296*top))(hV:V=VL+p*(v2+4294967296*v1))(hl:UL<p)(h2:u2<4294967296)(cg:0<V):U/V*v1<=top:=by
 have h1:U/V*V<=U:=Kb U V;generalize U/V=Q at*;have h3:U<p*(4294967296*(top+1)):=by
  have:p*(u2+4294967296*top)+p<=p*(4294967296*(top+1)):=by
   rw[<-zb];exact xa p O'
  omega
 have h4:p*(4294967296*(Q*v1))<=Q*V:=by
  have e:Q*V=Q*VL+Q*(p*v2)+p*(4294967296*(Q*v1)):=by rw[hV];grind
  omega
 have h5:p*(4294967296*(Q*v1))<p*(4294967296*(top+1)):=O'
 have:=Nat.lt_of_mul_lt_mul_left h5
 omega
theorem Ako(hU:U=UL+p*(u2+4294967296*top))(hV:V=VL+p*(v2+4294967296*v1))(hl:UL<p)(hq:q*v1+r=top)(h:r*4294967296+u2<q*v2)(cg:0<V):U/V<q:=by
 rw[ta cg];have e:q*V=q*VL+p*(q*v2+4294967296*(q*v1)):=by rw[hV];grind
 have h1:p*(u2+4294967296*top)+p<=p*(q*v2+4294967296*(q*v1)):=by
  rw[<-zb];exact xa p O'
 omega
theorem Akn(h:U<4294967296*V)(hq:4294967296<=q)(cg:0<V):U/V<q:=by
 have:U/V<4294967296:=(ta cg).2 h
 omega
theorem Sb(hU:U=UL+p*(u2+4294967296*top))(hV:V=VL+p*(v2+4294967296*v1))(Cf:VL<p)(h1:2147483648<=v1)(hq:q*v1+r=top)(h:q*v2<=r*4294967296+u2)(hqB:q<4294967296):q<=U/V+1:=by
 have cg:0<V:=by
  have:p*4294967296<=p*(v2+4294967296*v1):=xa p O'
  omega
 by_cases h0:q=0
 ·subst h0;exact Nat.zero_le _
 have e:q*V=q*VL+p*(q*v2+4294967296*(q*v1)):=by rw[hV];grind
 have h2:p*(q*v2+4294967296*(q*v1))<=p*(u2+4294967296*top):=xa p O';have h3:q*VL<V:=by
  have a1:q*VL<=4294967296*VL:=zR _ O';have a2:p*4294967296<=p*(v2+4294967296*v1):=xa p O';omega
 have h4:(q-1)*V<U+1:=by
  have:(q-1)*V+V=q*V:=by
   have:q=q-1+1:=O'
   rw[<-Ba,Nat.succ_eq_add_one,<-this]
  omega
 have h5:q-1<=U/V:=(Ga cg).2 O';omega
end
theorem wS{U V U' q:Nat}(cg:0<V)(h1:U/V<=q)(h:U'+q*V=U):q=U/V/\U'=U%V:=by
 have h2:q*V<=U:=O'
 have h3:q<=U/V:=(Ga cg).2 h2;have h4:q=U/V:=O'
 have:=nb U V
 rw[Oa,<-h4]at this;exact⟨h4,O'⟩
theorem wR{U V U' q P:Nat}(cg:0<V)(h2:q<=U/V+1)(Ec:U'<P)(h:U'+q*V=U+P):q-1=U/V/\1<=q/\U'+V=U%V+P:=by
 have h3:U/V*V<=U:=Kb U V;have h4:U/V<q:=by
  rcases Nat.lt_or_ge (U/V) q with h|h
  ·exact h
  ·have:q*V<=U/V*V:=zR _ h
   omega
 have h6:=nb U V;rw[Oa]at h6;generalize U/V=Q at*;generalize U%V=R at*;obtain rfl:q=Q+1:=O'
 rw[Mb,Qc]at h;exact⟨O',O',O'⟩
theorem kC{u pl bw:Nat}(hu:u<4294967296)(hp:pl<4294967296)(hb:bw<=1):FF (FF u pl) bw%4294967296+pl+bw=u+4294967296*(FF (FF u pl) bw/9223372036854775808)/\FF (FF u pl) bw/9223372036854775808<=1:=by
 rw[XB,XB];omega
theorem AnM{d e bw:Nat}(hu:d<4294967296)(hp:e<4294967296)(hb:bw<=1):FF (FF d bw) e%4294967296+e+bw=d+4294967296*(FF (FF d bw) e/9223372036854775808)/\FF (FF d bw) e/9223372036854775808<=1:=by
 rw[XB,XB];omega
theorem AnL{d bw:Nat}(hu:d<4294967296)(hb:bw<=1):FF d bw%4294967296+bw=d+4294967296*(FF d bw/9223372036854775808)/\FF d bw/9223372036854775808<=1:=by
 rw[XB];omega
theorem Adz{V Y X p D e bw dm d:Nat}(h:V+Y=X+p*bw)(hd:D+e+bw=d+4294967296*dm):V+p*D+(Y+p*e)=X+p*d+p*4294967296*dm:=by
 have h2:p*D+p*e+p*bw=p*d+p*4294967296*dm:=by
  rw[<-Qa,<-Qa,hd,Qa,Ka]
 omega
theorem YU{a b:Nat}(ha:a<4294967296)(hb:b<4294967296):a*b<=18446744065119617025 :=
 sc (show a<=4294967295 by omega) (show b<=4294967295 by omega)
theorem wV{X Y s:Nat}(hs:0<s):X*s/(Y*s)=X/Y/\X*s%(Y*s)/s=X%Y:=by
 refine⟨Nat.mul_div_mul_right X Y hs,?_⟩;rw[Ob,Nat.mul_div_cancel _ hs]
end Go.e9

namespace Go.e9
@[irreducible] def RK(d s:Nat):Nat := d * 2 ^ s % 4294967296
@[irreducible] def WW(d s:Nat):Nat := d * 2 ^ s / 4294967296
theorem rR(d s:Nat):RK d s=d*2^s%4294967296:=by unfold RK;rfl
theorem WX(d s:Nat):WW d s=d*2^s/4294967296:=by unfold WW;rfl
theorem UZ{s:Nat}(hs:s<=32):4294967296=2^s*2^(32-s):=by
 rw[<-ea,show s+(32-s)=32 by omega]
theorem Anc(d s:Nat):RK d s+4294967296*WW d s=d*2^s:=by
 rw[rR,WX];exact ob _ _
theorem Xv{d s:Nat}(hs:s<=32):RK d s=2^s*(d%2^(32-s)):=by
 rw[rR,UZ hs,Oa d,Nat.mul_mod_mul_left]
theorem Xu{d s:Nat}(hs:s<=32):WW d s=d/2^(32-s):=by
 rw[WX,UZ hs,Oa d,Nat.mul_div_mul_left _ _ (na s)]
theorem WY{d s:Nat}(hd:d<4294967296)(hs:s<=32):RK d s%2^s=0/\WW d s<2^s/\RK d s+2^s<=4294967296/\d*2^s<=18446744073709551615:=by
 refine⟨by rw[Xv hs,Nat.mul_mod_right],?_,?_,?_⟩
 ·rw[Xu hs,ta (na _),<-ea,show s+(32-s)=32 by omega];exact hd
 ·rw[Xv hs]
  have h1:d%2^(32-s)+1<=2^(32-s):=Hb _ (na _);have h2:=xa (2^s) h1;rw[Qa,Nat.mul_one,<-UZ hs]at h2;exact h2
 ·have h1:2^s<=2^32:=Ea O' hs
  have h2:d*2^s<=4294967295*4294967296:=sc O' h1;omega
theorem bT{s:Nat}(hs:s<=32):2^s<=4294967296:=(Ea O' hs:2^s<=2^32)
theorem Wi{V X p lo s d:Nat}(h:V+p*lo=X*2^s):V+p*(RK d s+lo)+p*4294967296*WW d s=(X+p*d)*2^s:=by
 have h1:=Anc d s;have h2:p*(RK d s+lo)+p*4294967296*WW d s=p*lo+p*(d*2^s):=by
  rw[<-h1];grind
 rw[Mb,<-h,Ka p d];omega
theorem pC{d V s:Nat}(hs:s<=32):(d+4294967296*V)/2^s=d/2^s+V%2^s*2^(32-s)+4294967296*(V/2^s):=by
 have e:4294967296*V=2^s*(2^(32-s)*V):=by rw[<-Ka,<-UZ hs]
 rw[e,Nat.add_mul_div_left _ _ (na s)];have h:=ob V (2^s);have h2:2^(32-s)*V=V%2^s*2^(32-s)+4294967296*(V/2^s):=by
  have h3:2^(32-s)*V=2^(32-s)*(V%2^s+2^s*(V/2^s)):=by rw[h]
  rw[h3,UZ hs];grind
 omega
theorem Uk{d V s:Nat}(hs:s<=32):(d+4294967296*V)%2^s=d%2^s:=by
 have e:4294967296*V=2^s*(2^(32-s)*V):=by rw[<-Ka,<-UZ hs]
 rw[e,Nat.add_mul_mod_self_left]
theorem Aly{d s:Nat}(hs:s<=32):d*2^(32-s)%4294967296=d%2^s*2^(32-s):=by
 have e:4294967296=2^s*2^(32-s):=UZ hs;rw[e,Ob]
theorem Uj{d V s:Nat}(hd:d<4294967296)(hs:s<=32):d/2^s<2^(32-s)/\V%2^s*2^(32-s)%2^(32-s)=0/\V%2^s*2^(32-s)+2^(32-s)<=4294967296:=by
 refine⟨?_,Nat.mul_mod_left _ _,?_⟩
 ·rw[ta (na _),<-ea,show 32-s+s=32 by omega];exact hd
 ·have h1:V%2^s+1<=2^s:=Hb _ (na _)
  have h2:=zR (2^(32-s)) h1;rw[Mb,Qc,<-UZ hs]at h2;exact h2
def w4(x:Nat):Nat:=if x=0 then 0 else x.log2+1
theorem uW{x:Nat}(h:x≠0):2^(w4 x-1)<=x/\x<2^w4 x/\1<=w4 x:=by
 unfold w4;rw[if_neg h];exact⟨yc h,zc,O'⟩
theorem dV{x k:Nat}(h:x<2^k):w4 x<=k:=by
 by_cases h0:x=0
 ·subst h0;unfold w4;simp
 ·obtain⟨h1,_,h3⟩:=uW h0
  have h2:2^(w4 x-1)<2^k:=O'
  have:=(Nat.pow_lt_pow_iff_right O').1 h2
  omega
theorem Z3{x:Nat}(n:Nat)(h:2^n<=x):w4 (x/2^n)+n=w4 x:=by
 have hp:=na n;have hx:x≠0:=O'
 have hq:x/2^n≠0:=by have:=Nat.div_pos h hp;omega
 unfold w4;rw[if_neg hx,if_neg hq];have:(x/2^n).log2+n=x.log2:=by
  symm
  rw[Nat.log2_eq_iff hx];have h1:=yc hq;have h2:x/2^n<2^((x/2^n).log2+1):=zc;rw[Ga hp,<-ea]at h1;rw[ta hp,<-ea]at h2;exact⟨h1,by rw[show(x/2^n).log2+n+1=(x/2^n).log2+1+n by omega];exact h2⟩
 omega
theorem pD{x:Nat}(h0:x≠0)(hx:x<4294967296):w4 x<=32/\1<=w4 x/\2147483648<=x*2^(32-w4 x)/\x*2^(32-w4 x)<4294967296:=by
 obtain⟨h1,h2,h3⟩:=uW h0;have hk:w4 x<=32:=dV (k:=32) hx;refine⟨hk,h3,?_,?_⟩
 ·have:=zR (2^(32-w4 x)) h1
  rw[<-ea,show w4 x-1+(32-w4 x)=31 by omega]at this;exact this
 ·have:=Nat.mul_lt_mul_of_pos_right h2 (na (32-w4 x))
  rw[<-ea,show w4 x+(32-w4 x)=32 by omega]at this;exact this
def kK(a b c d:Int):Prop:=(0<=a/\b<=0/\c<=0/\0<=d)\/(a<=0/\0<=b/\0<=c/\d<=0)
structure VC(P Q a b c d p q:Int):Prop where
 hp:p=a*P+b*Q
 hq:q=c*P+d*Q
 sg:kK a b c d
 pa:0<=p+a
 pb:0<=p+b
 qc:0<=q+c
 qd:0<=q+d
theorem VC.start{P Q:Int}(hP:0<=P)(hQ:0<=Q):VC P Q 1 0 0 1 P Q :=
 ⟨O',O',Or.inl O',O',O',O',O'⟩
def ZS(P Q a b c d:Int):Prop := ∀x y K e1 e2:Int,0<K->x=K*P+e1->y=K*Q+e2->0<=e1->e1<=K->0<=e2->e2<=K ->
 0<=c*x+d*y/\c*x+d*y<a*x+b*y/\a*x+b*y<=y/\mb (a*x+b*y) (c*x+d*y)=mb x y
def XM(P Q a b c d:Int):Prop := ∀x y K e1 e2:Int,0<K->x=K*P+e1->y=K*Q+e2->0<=e1->e1<=K->0<=e2->e2<=K ->
 c*x+d*y<=y/\mb (a*x+b*y) (c*x+d*y)=mb x y
theorem XM.start(P Q:Int):XM P Q 1 0 0 1:=by
 intro x y K e1 e2 _ _ _ _ _ _ _;simp
theorem ZS.half{P Q a b c d:Int}(h:ZS P Q a b c d):XM P Q a b c d:=λx y K e1 e2 h1 h2 h3 h4 h5 h6 h7=>by
 obtain⟨g1,g2,g3,g4⟩:=h x y K e1 e2 h1 h2 h3 h4 h5 h6 h7;exact⟨O',g4⟩
theorem Aj8(X Y f:Int):mb Y (X-f*Y)=mb X Y:=by
 rw[Int.gcd_comm X Y];exact Int.gcd_sub_mul_right_right Y X f
theorem VC.step{P Q a b c d p q f:Int}(h:VC P Q a b c d p q)(hc:q+c≠0)(hd:q+d≠0)(h1:f=(p+a)/(q+c))(h2:f=(p+b)/(q+d)) :
  VC P Q c d (a-f*c) (b-f*d) q (p-f*q)/\0<=f/\p-f*q<q/\(XM P Q a b c d->ZS P Q c d (a-f*c) (b-f*d)):=by
 have c0:0<q+c:=by have:=h.qc;omega
 have d0:0<q+d:=by have:=h.qd;omega
 have f0:0<=f:=by rw[h1];exact Int.ediv_nonneg h.pa h.qc
 have m1:p-f*q+(a-f*c)=(p+a)%(q+c):=by
  have:=Nb (p+a) (q+c)
  rw[<-h1]at this;grind
 have m2:p-f*q+(b-f*d)=(p+b)%(q+d):=by
  have:=Nb (p+b) (q+d)
  rw[<-h2]at this;grind
 have n1:0<=p-f*q+(a-f*c):=by rw[m1];exact tc _ hc
 have n2:0<=p-f*q+(b-f*d):=by rw[m2];exact tc _ hd
 have n3:p-f*q+(a-f*c)<q+c:=by rw[m1];exact Fb _ c0
 have n4:p-f*q+(b-f*d)<q+d:=by rw[m2];exact Fb _ d0
 have Et:p-f*q=(a-f*c)*P+(b-f*d)*Q:=by rw[h.hp,h.hq];grind
 have zp:kK c d (a-f*c) (b-f*d):=by
  rcases h.sg with⟨s1,s2,s3,s4⟩|⟨s1,s2,s3,s4⟩
  ·have t1:f*c<=0:=Ca f0 s3
   have t2:0<=f*d:=ga f0 s4;exact Or.inr O'
  ·have t1:0<=f*c:=ga f0 s3
   have t2:f*d<=0:=Ca f0 s4;exact Or.inl O'
 have k7:p-f*q<q:=by
  rcases zp with⟨s1,s2,s3,s4⟩|⟨s1,s2,s3,s4⟩
  ·omega
  ·omega
 refine⟨⟨h.hq,Et,zp,h.qc,h.qd,n1,n2⟩,f0,k7,λhh=>?_⟩;intro x y K e1 e2 hK hx hy a1 a2 b1 b2;obtain⟨k1,k2⟩:=hh x y K e1 e2 hK hx hy a1 a2 b1 b2;have eY:c*x+d*y=K*q+c*e1+d*e2:=by rw[hx,hy,h.hq];grind
 have eX:(a-f*c)*x+(b-f*d)*y=K*(p-f*q)+(a-f*c)*e1+(b-f*d)*e2:=by rw[hx,hy,Et];grind
 have eS:(a-f*c)*x+(b-f*d)*y=(a*x+b*y)-f*(c*x+d*y):=A'
 generalize hE:a-f*c=E at*;generalize hG:b-f*d=G at*;generalize Eu:p-f*q=q2 at*;have key:0<=E*x+G*y/\E*x+G*y<c*x+d*y:=by
  rw[eX,eY];rcases zp with⟨s1,s2,s3,s4⟩|⟨s1,s2,s3,s4⟩
  ·-- c≥0,d<=0,E<=0,G≥0
   have t1:E*K<=E*e1:=ub s3 a2;have t2:0<=G*e2:=ga s4 b1;have t3:0<=K*(q2+E):=ga O' n1;have t4:(G-d)*e2<=(G-d)*K:=rb b2 O';have t5:(E-c)*e1<=0:=Da O' a1;have t6:0<K*((q+d)-(q2+G)):=Oc hK O';constructor
   ·grind
   ·grind
  ·have t1:G*K<=G*e2:=ub s4 b2
   have t2:0<=E*e1:=ga s3 a1;have t3:0<=K*(q2+G):=ga O' n2;have t4:(E-c)*e1<=(E-c)*K:=rb a2 O';have t5:(G-d)*e2<=0:=Da O' b1;have t6:0<K*((q+c)-(q2+E)):=Oc hK O';constructor
   ·grind
   ·grind
 refine⟨key.1,key.2,k1,?_⟩;rw[<-k2,eS];exact Aj8 _ _ _
end Go.e9

namespace Go.e9.F
open C
def R5:AFn:=⟨1,(sd [mv 2 kf] [2] (sd [m 3 0,m 4 0,bi 5 .neq 3 4,m 2 5] [0,3,4,5] .ret)),[.tmp 2],false⟩
def R6:AFn:=⟨1,(sd [mv 2 kf] [2] (sd [m 3 0,m 4 0,bi 5 .neq 3 4,m 2 5] [0,3,4,5] .ret)),[.tmp 2],false⟩
def R3:AFn:=⟨2,(sd [mv 4 k0] [4] (sd [m 7 0,ca 8 58 [7],m 5 8] [7,8] (sd [m 9 1,ca 10 58 [9],m 6 10] [9,10] (s (sd [m 11 5] [5] (i 11 (s (sd [m 12 6] [0,1,6,11] (i 12 (sd [mv 4 k0] [12] .ret) .skip)) (sd [mv 4 (k (-1))] [12] .ret)) .skip)) (s (sd [m 13 6] [6,11] (i 13 (sd [mv 4 k1] [0,1,13] .ret) .skip)) (s (sd [m 14 0,m 15 1,ls 16 14 15] [13,14,15] (i 16 (sd [mv 4 (k (-1))] [0,1,16] .ret) .skip)) (s (sd [m 17 0,m 18 1,bi 19 .gtr 17 18] [0,1,16,17,18] (i 19 (sd [mv 4 k1] [19] .ret) .skip)) (sd [mv 4 k0] [19] .ret)))))))),[.tmp 4],false⟩
def R4:AFn:=⟨2,(sd [mv 4 k0] [4] (sd [m 7 0,ca 8 59 [7],m 5 8] [7,8] (sd [m 9 1,ca 10 59 [9],m 6 10] [9,10] (s (sd [m 11 5] [5] (i 11 (s (sd [m 12 6] [0,1,6,11] (i 12 (sd [mv 4 k0] [12] .ret) .skip)) (sd [mv 4 (k (-1))] [12] .ret)) .skip)) (s (sd [m 13 6] [6,11] (i 13 (sd [mv 4 k1] [0,1,13] .ret) .skip)) (s (sd [m 14 0,m 15 1,ls 16 14 15] [13,14,15] (i 16 (sd [mv 4 (k (-1))] [0,1,16] .ret) .skip)) (s (sd [m 17 0,m 18 1,bi 19 .gtr 17 18] [0,1,16,17,18] (i 19 (sd [mv 4 k1] [19] .ret) .skip)) (sd [mv 4 k0] [19] .ret)))))))),[.tmp 4],false⟩
def LN:AFn:=⟨1,(sd [mv 2 (.c .nil)] [2] (s (sd [m 3 0,o 4 (.uh false 3)] [3] (i 4 (sd [mv 2 (.c .nil)] [0,4] .ret) .skip)) (sd [o 5 (.b8 5 1 []),m 6 0,o 7 (.app 7 1 4 5 6),m 2 7] [0,4,5,6,7] .ret))),[.tmp 2],true⟩
def S2:AFn:=⟨1,(sp [mv 2 k0] (s (sd [m 3 0,bi 4 .geq 3 (.c (.int .u32 (65536)))] [3] (i 4 (sd [m 5 0,bi 6 .shr 5 (.c (.int .u64 (16))),m 0 6] [2,4,5,6] (p [mv 2 (k 16)])) .skip)) (s (sd [m 7 0,bi 8 .geq 7 (.c (.int .u32 (256)))] [4,7] (i 8 (sd [m 9 0,bi 10 .shr 9 (.c (.int .u64 (8))),m 0 10] [8,9,10] (d [m 11 2,ad 12 11 (k 8),m 2 12] [11,12])) .skip)) (sd [m 13 2,m 14 0,o 15 (.conv .u8 14),o 16 (.jg (ya 1 0++ya 1 1++ya 2 2++ya 4 3++ya 8 4++ya 16 5++ya 32 6++ya 64 7++ya 128 8) 15),o 17 (.conv .i64 16),ad 18 13 17,m 2 18] (rl [0,8] 13 6) .ret)))),[.tmp 2],false⟩
def S1:AFn:=⟨1,(sd [mv 2 k0] [2] (sd [m 3 0,ca 4 63 [3],sb 5 (k 32) 4,m 2 5] [0,3,4,5] .ret)),[.tmp 2],false⟩
def HH.l1:=(s (sd [m 6 3,bi 7 .gtr 6 k0,m 8 7,g 9 8 true (.q9 0),g 10 8 true (.q9 3),g 11 8 true (.bin .sub 10 k1),g 12 8 true (.u4 none 1 9 11),g 13 8 true (.ld false 1 12),g 14 8 true (.bin .eql 13 (.c (.int .u32 (0)))),pk 15 8 14 kf] (ra 6 9) (i 15 .skip (x 0))) (b 1 (d [m 16 3,sb 17 16 k1,m 3 17] [15,16,17])))
def HH:AFn:=⟨1,(sd [mv 2 (.c .nil)] [2] (sd [m 4 0,ln 5 4,m 3 5] [4,5] (s (b 0 (w HH.l1)) (sd [m 18 0,m 19 3,o 20 (.iz 1 18 none (some 19)),m 2 20] [0,3,15,18,19,20] .ret)))),[.tmp 2],false⟩
def S7:AFn:=⟨1,(sd [mv 2 (.c .nil)] [2] (sd [m 3 0,o 4 (.j6 65 [3]),ca 5 62 [4],m 2 5] [0,3,4,5] .ret)),[.tmp 2],false⟩
def OZ.l1:=(s (sd [m 25 7,bi 26 .geq 25 k0] [25] (i 26 .skip (x 0))) (s (b 1 (se [m 29 5,m 30 7,ia 31 1 29 30,uu 32 1 31,m 33 6,m 34 7,ia 35 1 33 34,uu 36 1 35,bi 37 .neq 32 36] (rl [26] 29 8) (i 37 (se [m 38 5,m 39 7,ia 40 1 38 39,uu 41 1 40,m 42 6,m 43 7,ia 44 1 42 43,uu 45 1 44,ca 46 61 [41,45],m 4 46] (rl [5,6,7] 37 10) .ret) .skip))) (d [m 27 7,sb 28 27 k1,m 7 28] [27,28,37])))
def OZ:AFn:=⟨2,(sd [mv 4 k0] [4] (sd [m 8 0,o 9 (.j6 65 [8]),m 10 1,o 11 (.j6 65 [10]),m 5 9,m 6 11] (rl [0,1] 8 4) (s (sd [m 12 5,ln 13 12,m 14 6,ln 15 14,bi 16 .neq 13 15] (ra 12 4) (i 16 (sd [m 17 5,ln 18 17,m 19 6,ln 20 19,ca 21 60 [18,20],m 4 21] (rl [5,6] 16 6) .ret) .skip)) (s (sd [m 22 5,ln 23 22,sb 24 23 k1,m 7 24] [16,22,23,24] (b 0 (w OZ.l1))) (sd [mv 4 k0] [5,6,7,26] .ret))))),[.tmp 4],false⟩
def OY.l1:=(sp [ls 30 29 28] (s (i 30 .skip (x 0)) (s (b 1 (sd [m 31 29,ia 32 1 27 29,uu 33 1 32,m 9 31,m 10 33] (ra 30 4) (sd [m 34 10,cu 35 34,m 36 8,ad 37 35 36,m 11 37] (rl [8,10] 34 4) (s (sd [m 38 9,m 39 6,ln 40 39,ls 41 38 40] [38,39,40] (i 41 (d [m 42 11,m 43 6,m 44 9,ia 45 1 43 44,uu 46 1 45,cu 47 46,ad 48 42 47,m 11 48] (ra 41 8)) .skip)) (sd [m 49 7,m 50 9,m 51 11,o 52 (.conv .u32 51),ia 53 1 49 50,so 1 53 52] (rl [9,41] 49 5) (d [m 54 11,bi 55 .shr 54 (.c (.int .u64 (32))),m 8 55] [11,54,55])))))) (d [ad 56 29 k1,m 29 56] [56]))))
def OY:AFn:=⟨2,(sd [mv 4 (.c .nil)] [4] (sd [m 12 0,o 13 (.j6 65 [12]),m 14 1,o 15 (.j6 65 [14]),m 5 13,m 6 15] (rl [0,1] 12 4) (s (sd [m 16 5,ln 17 16,m 18 6,ln 19 18,ls 20 17 19] (ra 16 4) (i 20 (d [m 21 6,m 22 5,m 5 21,m 6 22] [20,21,22]) .skip)) (sd [m 23 5,ln 24 23,ad 25 24 k1,o 26 (.mk 26 1 4 [(.int .u32 (0))] 25 25),m 7 26] (rl [20] 23 4) (sp [mv 8 (.c (.int .u64 (0)))] (s (sp [m 27 5,ln 28 27,mv 29 k0] (b 0 (w OY.l1))) (sd [m 57 7,m 58 5,ln 59 58,m 60 8,o 61 (.conv .u32 60),ia 62 1 57 59,so 1 62 61] (rl [5,6,8,27,28,29,30] 57 6) (sd [m 63 7,o 64 (.j6 65 [63]),m 4 64] [7,63,64] .ret)))))))),[.tmp 4],false⟩
def O0.l1:=(sp [ls 26 25 24] (s (i 26 .skip (x 0)) (s (b 1 (sd [m 27 25,ia 28 1 23 25,uu 29 1 28,m 9 27,m 10 29] (ra 26 4) (sd [m 30 10,cu 31 30,m 32 8,sb 33 31 32,m 11 33] (rl [8,10] 30 4) (s (sd [m 34 9,m 35 6,ln 36 35,ls 37 34 36] [34,35,36] (i 37 (d [m 38 11,m 39 6,m 40 9,ia 41 1 39 40,uu 42 1 41,cu 43 42,sb 44 38 43,m 11 44] (ra 37 8)) .skip)) (sd [m 45 7,m 46 9,m 47 11,o 48 (.conv .u32 47),ia 49 1 45 46,so 1 49 48] (rl [9,37] 45 5) (d [m 50 11,bi 51 .shr 50 (.c (.int .u64 (63))),m 8 51] [11,50,51])))))) (d [ad 52 25 k1,m 25 52] [52]))))
def O0:AFn:=⟨2,(sd [mv 4 (.c .nil)] [4] (s (sd [m 12 0,m 13 1,ca 14 67 [12,13],bi 15 .leq 14 k0] [12,13,14] (i 15 (sd [mv 4 (.c .nil)] [0,1,15] .ret) .skip)) (sd [m 16 0,o 17 (.j6 65 [16]),m 18 1,o 19 (.j6 65 [18]),m 5 17,m 6 19] (rl [0,1] 15 5) (sd [m 20 5,ln 21 20,o 22 (.mk 22 1 4 [(.int .u32 (0))] 21 21),m 7 22] [20,21,22] (sp [mv 8 (.c (.int .u64 (0)))] (s (sd [m 23 5,ln 24 23,mv 25 k0] [5] (b 0 (w O0.l1))) (sd [m 53 7,o 54 (.j6 65 [53]),m 4 54] [6,7,8,23,24,25,26,53,54] .ret))))))),[.tmp 4],false⟩
def M4.l2:=(sp [ls 44 43 42] (s (i 44 .skip (x 2)) (s (b 3 (sd [m 45 43,ia 46 1 41 43,uu 47 1 46,m 11 45,m 12 47] (ra 44 4) (sd [m 48 9,cu 49 48,m 50 12,cu 51 50,bi 52 .mul 49 51,m 53 7,m 54 8,m 55 11,ad 56 54 55,ia 57 1 53 56,uu 58 1 57,cu 59 58,ad 60 52 59,m 61 10,ad 62 60 61,m 13 62] (rl [10,12] 48 15) (sd [m 63 7,m 64 8,m 65 11,ad 66 64 65,m 67 13,o 68 (.conv .u32 67),ia 69 1 63 66,so 1 69 68] (rl [11] 63 7) (d [m 70 13,bi 71 .shr 70 (.c (.int .u64 (32))),m 10 71] [13,70,71]))))) (d [ad 72 43 k1,m 43 72] [72]))))
def M4.l1:=(sp [ls 35 34 33] (s (i 35 .skip (x 0)) (s (b 1 (sd [m 36 34,ia 37 1 32 34,uu 38 1 37,m 8 36,m 9 38] (ra 35 4) (s (sd [m 39 9,bi 40 .eql 39 (.c (.int .u32 (0)))] [39] (i 40 (x 1) .skip)) (sd [mv 10 (.c (.int .u64 (0)))] [40] (s (sp [m 41 6,ln 42 41,mv 43 k0] (b 2 (w M4.l2))) (d [m 73 7,m 74 8,m 75 6,ln 76 75,ad 77 74 76,m 78 10,o 79 (.conv .u32 78),ia 80 1 73 77,so 1 80 79] (rl [8,9,10,41,42,43,44] 73 8))))))) (d [ad 81 34 k1,m 34 81] [8,9,40,81]))))
def M4:AFn:=⟨2,(sd [mv 4 (.c .nil)] [4] (sd [m 14 0,o 15 (.j6 65 [14]),m 16 1,o 17 (.j6 65 [16]),m 5 15,m 6 17] (rl [0,1] 14 4) (s (sd [m 18 5,ln 19 18,bi 20 .eql 19 k0,m 21 20,g 22 21 false (.q9 6),g 23 21 false (.len 22),g 24 21 false (.bin .eql 23 k0),pk 25 21 kt 24] (ra 18 7) (i 25 (sd [mv 4 (.c .nil)] [5,6,25] .ret) .skip)) (sd [m 26 5,ln 27 26,m 28 6,ln 29 28,ad 30 27 29,o 31 (.mk 31 1 4 [(.int .u32 (0))] 30 30),m 7 31] (ra 25 7) (s (sd [m 32 5,ln 33 32,mv 34 k0] [5] (b 0 (w M4.l1))) (sd [m 82 7,o 83 (.j6 65 [82]),m 4 83] [6,7,32,33,34,35,82,83] .ret)))))),[.tmp 4],false⟩
def M7.l1:=(sp [ls 16 15 14] (s (i 16 .skip (x 0)) (s (b 1 (sd [m 17 15,ia 18 1 13 15,uu 19 1 18,m 9 17,m 10 19] (ra 16 4) (sd [m 20 7,m 21 9,m 22 10,m 23 1,bi 24 .shl 22 23,m 25 8,bi 26 .or 24 25,ia 27 1 20 21,so 1 27 26] (rl [8,9] 20 8) (d [m 28 10,cu 29 28,m 30 1,bi 31 .shl 29 30,bi 32 .shr 31 (.c (.int .u64 (32))),o 33 (.conv .u32 32),m 8 33] (rl [10] 28 6))))) (d [ad 34 15 k1,m 15 34] [34]))))
def M7:AFn:=⟨3,(sd [mv 6 (.c .nil)] [6] (sd [m 11 2,o 12 (.mk 71012 1 4 [(.int .u32 (0))] 11 11),m 7 12] [11,12] (sp [mv 8 (.c (.int .u32 (0)))] (s (sp [m 13 0,ln 14 13,mv 15 k0] (b 0 (w M7.l1))) (s (sd [m 35 2,m 36 0,ln 37 36,bi 38 .gtr 35 37] [1,2,13,14,15,16,35,36,37] (i 38 (d [m 39 7,m 40 0,ln 41 40,m 42 8,ia 43 1 39 41,so 1 43 42] (rl [0,8] 38 6)) .skip)) (sd [m 44 7,m 6 44] [0,7,8,38,44] .ret)))))),[.tmp 6],false⟩
def O3.l1:=(s (sd [m 14 7,bi 15 .geq 14 k0] [14] (i 15 .skip (x 0))) (s (b 1 (sd [m 18 5,m 19 7,m 20 0,m 21 7,ia 22 1 20 21,uu 23 1 22,m 24 1,bi 25 .shr 23 24,m 26 6,bi 27 .or 25 26,ia 28 1 18 19,so 1 28 27] (rl [6,15] 18 11) (d [m 29 0,m 30 7,ia 31 1 29 30,uu 32 1 31,cu 33 32,m 34 1,sb 35 (.c (.int .u64 (32))) 34,bi 36 .shl 33 35,o 37 (.conv .u32 36),m 6 37] (ra 29 9)))) (d [m 16 7,sb 17 16 k1,m 7 17] [16,17])))
def O3:AFn:=⟨2,(sd [mv 4 (.c .nil)] [4] (sd [m 8 0,ln 9 8,o 10 (.mk 10 1 4 [(.int .u32 (0))] 9 9),m 5 10] [8,9,10] (sp [mv 6 (.c (.int .u32 (0)))] (s (sd [m 11 0,ln 12 11,sb 13 12 k1,m 7 13] [11,12,13] (b 0 (w O3.l1))) (sd [m 38 5,m 4 38] [0,1,5,6,7,15,38] .ret))))),[.tmp 4],false⟩
namespace HI
def r0:=[mv 4 (.c (.int .u32 (0)))]
def r1:=[m 19 1,ln 20 19,m 5 20]
def r2:=[m 21 0,m 22 5,ia 23 1 21 22,uu 24 1 23,cu 25 24,bi 26 .shl 25 (.c (.int .u64 (32))),m 27 0,m 28 5,
 sb 29 28 k1,ia 30 1 27 29,uu 31 1 30,cu 32 31,bi 33 .or 26 32,m 6 33]
def r3:=[m 34 6,m 35 1,m 36 5,sb 37 36 k1,ia 38 1 35 37,uu 39 1 38,cu 40 39,bi 41 .quo 34 40,m 42 6,
 m 43 1,m 44 5,sb 45 44 k1,ia 46 1 43 45,uu 47 1 46,cu 48 47,bi 49 .rem 42 48,m 7 41,m 8 49]
def r4:=[m 50 7,bi 51 .geq 50 (.c (.int .u64 (4294967296))),m 52 51,g 53 52 false (.q9 7),g 54 52 false (.q9 1),g 55 52 false (.q9 5),
 g 56 52 false (.bin .sub 55 (k 2)),g 57 52 false (.u4 none 1 54 56),g 58 52 false (.ld false 1 57),g 59 52 false (.conv .u64 58),
 g 60 52 false (.bin .mul 53 59),g 61 52 false (.q9 8),g 62 52 false (.bin .shl 61 (.c (.int .u64 (32)))),g 63 52 false (.q9 0),g 64 52 false (.q9 5),
 g 65 52 false (.bin .sub 64 (k 2)),g 66 52 false (.u4 none 1 63 65),g 67 52 false (.ld false 1 66),g 68 52 false (.conv .u64 67),
 g 69 52 false (.bin .or 62 68),g 70 52 false (.bin .gtr 60 69),pk 71 52 kt 70]
def r5:=[m 72 7,sb 73 72 (.c (.int .u64 (1))),m 7 73]
def r6:=[m 74 8,m 75 1,m 76 5,sb 77 76 k1,ia 78 1 75 77,uu 79 1 78,cu 80 79,ad 81 74 80,m 8 81]
def r7:=[m 82 8,bi 83 .geq 82 (.c (.int .u64 (4294967296)))]
def r8:=[mv 9 (.c (.int .u64 (0))),mv 10 (.c (.int .u64 (0)))]
def r9:=[m 84 1,ln 85 84,mv 86 k0]
def WN:=[ls 87 86 85]
def WO:=[m 88 86,ia 89 1 84 86,uu 90 1 89,m 11 88,m 12 90]
def Bj:=[m 91 7,m 92 12,cu 93 92,bi 94 .mul 91 93,m 95 9,ad 96 94 95,m 13 96]
def bV:=[m 97 13,bi 98 .shr 97 (.c (.int .u64 (32))),m 9 98]
def Fe:=[m 99 0,m 100 11,ia 101 1 99 100,uu 102 1 101,cu 103 102,m 104 13,o 105 (.conv .u32 104),cu 106 105,
 sb 107 103 106,m 108 10,sb 109 107 108,m 14 109]
def Ff:=[m 110 0,m 111 11,m 112 14,o 113 (.conv .u32 112),ia 114 1 110 111,so 1 114 113]
def Fg:=[m 115 14,bi 116 .shr 115 (.c (.int .u64 (63))),m 10 116]
def bW:=[ad 117 86 k1,m 86 117]
def Bk:=[m 118 0,m 119 5,ia 120 1 118 119,uu 121 1 120,cu 122 121,m 123 9,sb 124 122 123,m 125 10,
 sb 126 124 125,m 15 126]
def Li:=[m 127 0,m 128 5,m 129 15,o 130 (.conv .u32 129),ia 131 1 127 128,so 1 131 130]
def Lj:=[m 132 15,bi 133 .shr 132 (.c (.int .u64 (63))),bi 134 .eql 133 (.c (.int .u64 (0)))]
def Lk:=[m 135 7,o 136 (.conv .u32 135),m 4 136]
def Ll:=[mv 9 (.c (.int .u64 (0)))]
def Lm:=[m 137 1,ln 138 137,mv 139 k0]
def qP:=[ls 140 139 138]
def qQ:=[m 141 139,ia 142 1 137 139,uu 143 1 142,m 16 141,m 17 143]
def qR:=[m 144 0,m 145 16,ia 146 1 144 145,uu 147 1 146,cu 148 147,m 149 17,cu 150 149,ad 151 148 150,
 m 152 9,ad 153 151 152,m 18 153]
def qS:=[m 154 0,m 155 16,m 156 18,o 157 (.conv .u32 156),ia 158 1 154 155,so 1 158 157]
def qT:=[m 159 18,bi 160 .shr 159 (.c (.int .u64 (32))),m 9 160]
def qU:=[ad 161 139 k1,m 139 161]
def Ln:=[m 162 0,m 163 5,ia 164 1 162 163,uu 165 1 164,m 166 9,o 167 (.conv .u32 166),ad 168 165 167,
 ia 169 1 162 163,so 1 169 168]
def Lo:=[m 170 7,sb 171 170 (.c (.int .u64 (1))),o 172 (.conv .u32 171),m 4 172]
def l1:=(s (se r4 [50,51,52,53,54,55,56,57,58,59,60,61,62,63,64,65,66,67,68,69,70,83] (i 71 .skip (x 0))) (b 1 (sd r5 [71,72,73] (sd r6 (ra 74 8) (sd r7 [82] (i 83 (x 0) .skip))))))
def l2:=(sp WN (s (i 87 .skip (x 2)) (s (b 3 (sd WO (ra 87 4) (sd Bj (rl [9,12] 91 6) (sd bV [97,98] (sd Fe (rl [10,13] 99 11) (sd Ff (rl [11] 110 5) (d Fg [14,115,116]))))))) (d bW [117]))))
def l3:=(sp qP (s (i 140 .skip (x 4)) (s (b 5 (sd qQ (ra 140 4) (sd qR (rl [9,17] 144 10) (sd qS (rl [16] 154 5) (d qT [18,159,160]))))) (d qU [161]))))
def c:=(sd r0 [4] (sd r1 [19,20] (se r2 (ra 21 13) (se r3 (rl [6] 34 16) (s (b 0 (w l1)) (sd r8 [8,71,83] (s (sp r9 (b 2 (w l2))) (sd Bk (rl [9,10,84,85,86,87] 118 9) (sd Li (ra 127 5) (s (sd Lj [15,132,133] (i 134 (sd Lk [0,1,5,7,134,135,136] .ret) .skip)) (sd Ll [134] (s (sd Lm [1] (b 4 (w l3))) (sd Ln (rl [0,5,9,137,138,139,140] 162 8) (sd Lo [7,170,171,172] .ret))))))))))))))
end HI
def HI:AFn:=⟨2,HI.c,[.tmp 4],false⟩
def M5.l1:=(s (sd [m 34 9,bi 35 .geq 34 k0] [34] (i 35 .skip (x 0))) (s (b 1 (sd [m 38 8,bi 39 .shl 38 (.c (.int .u64 (32))),m 40 0,m 41 9,ia 42 1 40 41,uu 43 1 42,cu 44 43,bi 45 .or 39 44,m 10 45] (rl [8,35] 38 8) (sd [m 46 7,m 47 9,m 48 10,m 49 1,ia 50 1 49 k0,uu 51 1 50,cu 52 51,bi 53 .quo 48 52,o 54 (.conv .u32 53),ia 55 1 46 47,so 1 55 54] (ra 46 10) (d [m 56 10,m 57 1,ia 58 1 57 k0,uu 59 1 58,cu 60 59,bi 61 .rem 56 60,m 8 61] (rl [10] 56 6))))) (d [m 36 9,sb 37 36 k1,m 9 37] [36,37])))
def M5.l2:=(s (sd [m 89 14,bi 90 .geq 89 k0] [89] (i 90 .skip (x 2))) (s (b 3 (d [m 93 7,m 94 14,m 95 12,m 96 14,m 97 14,m 98 6,ad 99 97 98,ad 100 99 k1,o 101 (.iz 1 95 (some 96) (some 100)),m 102 13,o 103 (.j6 73 [101,102]),ia 104 1 93 94,so 1 104 103] (rl [90] 93 12))) (d [m 91 14,sb 92 91 k1,m 14 92] [91,92])))
def M5:AFn:=⟨2,(sd [mv 4 (.c .nil),mv 5 (.c .nil)] [4,5] (s (sd [m 15 0,m 16 1,ca 17 67 [15,16],ls 18 17 k0] [15,16,17] (i 18 (sd [m 19 0,ca 20 62 [19],mv 4 (.c .nil),m 5 20] [0,1,18,19,20] .ret) .skip)) (sd [m 21 1,ln 22 21,m 6 22] [18,21,22] (sd [m 23 0,ln 24 23,m 25 6,sb 26 24 25,ad 27 26 k1,o 28 (.mk 28 1 4 [(.int .u32 (0))] 27 27),m 7 28] (ra 23 6) (s (sd [m 29 6,bi 30 .eql 29 k1] [29] (i 30 (sd [mv 8 (.c (.int .u64 (0)))] [6,30] (s (sd [m 31 0,ln 32 31,sb 33 32 k1,m 9 33] [31,32,33] (b 0 (w M5.l1))) (sd [m 62 7,o 63 (.j6 65 [62]),m 64 8,o 65 (.conv .u32 64),o 66 (.b8 66 1 [65]),o 67 (.j6 65 [66]),m 4 63,m 5 67] (rl [0,1,7,8,9,35] 62 6) .ret))) .skip)) (sd [m 68 1,m 69 6,sb 70 69 k1,ia 71 1 68 70,uu 72 1 71,ca 73 64 [72],cu 74 73,m 11 74] (rl [30] 68 7) (sd [m 75 0,m 76 11,m 77 0,ln 78 77,ad 79 78 k1,o 80 (.j6 71 [75,76,79]),m 81 1,m 82 11,m 83 6,ca 84 71 [81,82,83],m 12 80,m 13 84] (rl [1] 75 10) (s (sd [m 85 0,ln 86 85,m 87 6,sb 88 86 87,m 14 88] (rl [0] 85 4) (b 2 (w M5.l2))) (se [m 105 7,o 106 (.j6 65 [105]),m 107 12,m 108 6,o 109 (.iz 1 107 none (some 108)),m 110 11,ca 111 72 [109,110],o 112 (.j6 65 [111]),m 4 106,m 5 112] (rl [6,7,11,12,13,14,90] 105 8) .ret))))))))),[.tmp 4,.tmp 5],false⟩
def S6:AFn:=⟨2,(sd [mv 4 (.c .nil),mv 5 (.c .nil),mv 6 k0] [4,5,6] (sd [m 10 1,o 11 (.j6 65 [10]),m 7 11] [1,10,11] (s (sd [m 12 7,ln 13 12,bi 14 .eql 13 k0] [12,13] (i 14 (sd [mv 4 (.c .nil),mv 5 (.c .nil),mv 6 (k 3)] [0,7,14] .ret) .skip)) (sd [m 16 0,o 17 (.j6 65 [16]),m 18 7,ca 19 74 [17,18],m 15 19,et 20 15 0,et 21 15 1,m 8 20,m 9 21] (rl [0,7] 14 8) (sd [m 22 8,m 23 9,m 4 22,m 5 23,mv 6 k0] [8,9,22,23] .ret))))),[.tmp 4,.tmp 5,.tmp 6],false⟩
def O4.l1:=(sp [ls 9 8 7] (s (i 9 .skip (x 0)) (s (b 1 (sd [m 10 8,ia 11 1 6 8,uu 12 1 11,m 4 10,m 5 12] (ra 9 4) (d [m 13 3,m 14 5,cu 15 14,m 16 4,bi 17 .mul (k 32) 16,bi 18 .shl 15 17,bi 19 .or 13 18,m 3 19] (rl [4,5] 13 7)))) (d [ad 20 8 k1,m 8 20] [20]))))
def O4:AFn:=⟨1,(sd [mv 2 (.c (.int .u64 (0)))] [2] (sp [mv 3 (.c (.int .u64 (0)))] (s (sd [m 6 0,ln 7 6,mv 8 k0] [0] (b 0 (w O4.l1))) (sd [m 21 3,m 2 21] [3,6,7,8,9,21] .ret)))),[.tmp 2],false⟩
def M6:AFn:=⟨2,(sd [mv 3 (.c (.int .u64 (0)))] [3] (s (sd [m 4 0,uu 5 1 1,ln 6 5,ls 7 4 6] [4,5,6] (i 7 (sd [uu 8 1 1,m 9 0,ia 10 1 8 9,uu 11 1 10,cu 12 11,m 3 12] (rl [0,1] 7 6) .ret) .skip)) (sd [mv 3 (.c (.int .u64 (0)))] [0,1,7] .ret))),[.tmp 3],false⟩
def S8:AFn:=⟨3,(sd [bx 3 0,mv 6 k0] [0,6] (sd [o 9 (.qm false 77 [3]),m 7 9] [3,9] (sd [m 10 7,m 11 1,sb 12 11 k1,o 13 (.v8 10 [12]),bi 14 .shl 13 (.c (.int .u64 (32))),m 15 7,m 16 1,sb 17 16 (k 2),o 18 (.v8 15 [17]),bi 19 .or 14 18,m 20 2,bi 21 .shl 19 20,m 8 21] (ra 10 12) (sd [m 22 8,m 23 7,m 24 1,sb 25 24 (k 3),o 26 (.v8 23 [25]),m 27 2,bi 28 .shl 26 27,bi 29 .shr 28 (.c (.int .u64 (32))),bi 30 .or 22 29,m 8 30] (rl [1,2,7] 22 9) (sd [m 31 8,bi 32 .shr 31 (.c (.int .u64 (2))),o 33 (.conv .i64 32),m 6 33] [8,31,32,33] .ret))))),[.tmp 6],false⟩
def O1.l1:=(s (sd [m 11 1,m 12 6,ad 13 11 12,bi 14 .neq 13 k0,m 15 14,g 16 15 true (.q9 1),g 17 15 true (.q9 7),g 18 15 true (.bin .add 16 17),g 19 15 true (.bin .neq 18 k0),pk 20 15 19 kf] (ra 11 9) (i 20 .skip (x 0))) (b 1 (sd [m 21 0,m 22 4,ad 23 21 22,m 24 1,m 25 6,ad 26 24 25,bi 27 .quo 23 26,m 8 27] (ra 20 8) (s (sd [m 28 8,m 29 0,m 30 5,ad 31 29 30,m 32 1,m 33 7,ad 34 32 33,bi 35 .quo 31 34,bi 36 .neq 28 35,m 37 36,g 38 37 false (.q9 8),g 39 37 false (.bin .gtr 38 (k 2147483647)),pk 40 37 kt 39] (ra 28 12) (i 40 (x 0) .skip)) (sd [m 41 4,m 42 8,m 43 6,bi 44 .mul 42 43,sb 45 41 44,m 46 5,m 47 8,m 48 7,bi 49 .mul 47 48,sb 50 46 49,m 9 45,m 10 50] (ra 40 11) (s (sd [m 51 9,m 52 9,o 53 (.un .neg 52),m 54 10,m 55 10,o 56 (.un .neg 55),o 57 (.mm true [51,53,54,56]),bi 58 .gtr 57 (k 2147483647)] (ra 51 7) (i 58 (x 0) .skip)) (sd [m 59 6,m 60 7,m 61 9,m 62 10,m 4 59,m 5 60,m 6 61,m 7 62] (rl [9,10] 58 5) (d [m 63 1,m 64 0,m 65 8,m 66 1,bi 67 .mul 65 66,sb 68 64 67,m 0 63,m 1 68] (rl [8] 63 6)))))))))
def O1:AFn:=⟨2,(sd [mv 4 k0,mv 5 k0,mv 6 k0,mv 7 k0] [4,7] (sp [mv 4 k1,mv 7 k1] (s (b 0 (w O1.l1)) (sd [m 69 4,m 70 5,m 71 6,m 72 7,m 4 69,m 5 70,m 6 71,m 7 72] (rl [0,1,8,9,10,20,40,58] 69 4) .ret)))),[.tmp 4,.tmp 5,.tmp 6,.tmp 7],false⟩
def O2.l1:=(sp [ls 20 19 18] (s (i 20 .skip (x 0)) (s (b 1 (sd [m 21 19,ia 22 1 17 19,uu 23 1 22,m 11 21,m 12 23] (ra 20 4) (sd [m 24 2,m 25 12,o 26 (.conv .i64 25),bi 27 .mul 24 26,m 28 10,ad 29 27 28,m 13 29] (rl [10,12] 24 6) (s (sd [m 30 11,m 31 1,ln 32 31,ls 33 30 32] [30,31,32] (i 33 (d [m 34 13,m 35 3,m 36 1,m 37 11,ia 38 1 36 37,uu 39 1 38,o 40 (.conv .i64 39),bi 41 .mul 35 40,ad 42 34 41,m 13 42] (ra 33 10)) .skip)) (sd [m 43 9,m 44 11,m 45 13,o 46 (.conv .u32 45),ia 47 1 43 44,so 1 47 46] (rl [11,33] 43 5) (d [m 48 13,bi 49 .shr 48 (.c (.int .u64 (32))),m 10 49] [13,48,49])))))) (d [ad 50 19 k1,m 19 50] [50]))))
def O2:AFn:=⟨4,(sd [mv 8 (.c .nil)] [8] (sd [m 14 0,ln 15 14,o 16 (.mk 16 1 4 [(.int .u32 (0))] 15 15),m 9 16] [14,15,16] (sp [mv 10 k0] (s (sd [m 17 0,ln 18 17,mv 19 k0] [0] (b 0 (w O2.l1))) (sd [m 51 9,o 52 (.j6 65 [51]),m 8 52] [1,2,3,9,10,17,18,19,20,51,52] .ret))))),[.tmp 8],false⟩
def S9:AFn:=⟨2,(sd [mv 4 (.c .nil),mv 5 (.c .nil)] [4,5] (sd [m 14 0,ln 15 14,m 6 15] [14,15] (sd [m 16 0,m 17 6,sb 18 17 k1,ia 19 1 16 18,uu 20 1 19,ca 21 64 [20],cu 22 21,m 7 22] (ra 16 7) (sd [m 24 0,m 25 6,m 26 7,ca 27 78 [24,25,26],m 28 1,m 29 6,m 30 7,ca 31 78 [28,29,30],ca 32 79 [27,31],m 23 32,et 33 23 0,et 34 23 1,et 35 23 2,et 36 23 3,m 8 33,m 9 34,m 10 35,m 11 36] (rl [6,7] 23 14) (s (sd [m 37 9,bi 38 .eql 37 k0] [37] (i 38 (sd [m 40 0,m 41 1,ca 42 74 [40,41],m 39 42,et 43 39 0,et 44 39 1,m 12 43,m 13 44] (rl [0,8,9,10,11,12] 38 7) (sd [m 45 1,m 46 13,m 4 45,m 5 46] [1,13,45,46] .ret)) .skip)) (sd [m 47 0,m 48 1,m 49 8,m 50 9,ca 51 80 [47,48,49,50],m 52 0,m 53 1,m 54 10,m 55 11,ca 56 80 [52,53,54,55],m 4 51,m 5 56] (rl [0,1,8,9,10,11,38] 47 10) .ret)))))),[.tmp 4,.tmp 5],false⟩
namespace IK
def r0:=[mv 4 (.c .nil)]
def r1:=[m 11 0,ca 12 66 [11],m 13 1,ca 14 66 [13],m 5 12,m 6 14]
def r2:=[m 15 5,m 16 6,ca 17 67 [15,16],ls 18 17 k0]
def r3:=[m 19 6,m 20 5,m 5 19,m 6 20]
def r4:=[m 21 6,ln 22 21,bi 23 .gtr 22 (k 2)]
def r5:=[m 25 5,m 26 6,ca 27 81 [25,26],m 24 27,et 28 24 0,et 29 24 1,m 5 28,m 6 29]
def r6:=[m 30 6,ln 31 30,bi 32 .eql 31 k0]
def r7:=[m 33 5,m 4 33]
def r8:=[m 35 5,m 36 6,ca 37 74 [35,36],m 34 37,et 38 34 0,et 39 34 1,m 7 38,m 8 39]
def r9:=[m 40 6,ca 41 76 [40],m 42 8,ca 43 76 [42],m 9 41,m 10 43]
def WN:=[m 44 10,bi 45 .neq 44 (.c (.int .u64 (0)))]
def WO:=[m 46 10,m 47 9,m 48 10,bi 49 .rem 47 48,m 9 46,m 10 49]
def Bj:=[m 50 9,o 51 (.conv .u32 50),m 52 9,bi 53 .shr 52 (.c (.int .u64 (32))),o 54 (.conv .u32 53),o 55 (.b8 55 1 [51,54]),o 56 (.j6 65 [55]),
 m 4 56]
def l1:=(s (sd r4 [18,21,22] (i 23 .skip (x 0))) (b 1 (d r5 (ra 23 7))))
def l2:=(s (sd WN [44] (i 45 .skip (x 2))) (b 3 (e WO (ra 45 5))))
def c:=(sd r0 [4] (sd r1 (rl [0,1] 11 4) (s (sd r2 [15,16,17] (i 18 (d r3 [18,19,20]) .skip)) (s (b 0 (w l1)) (s (sd r6 [23,30,31] (i 32 (sd r7 [5,6,32,33] .ret) .skip)) (sd r8 (rl [5,7,32] 34 6) (sd r9 (rl [6,8] 40 4) (s (b 2 (w l2)) (sd Bj (rl [9,10,45] 50 7) .ret)))))))))
end IK
def IK:AFn:=⟨2,IK.c,[.tmp 4],false⟩
structure c6(L:Lib):Prop where
 R5:L 58=some F.R5
 R6:L 59=some F.R6
 R3:L 60=some F.R3
 R4:L 61=some F.R4
 LN:L 62=some F.LN
 S2:L 63=some F.S2
 S1:L 64=some F.S1
 HH:L 65=some F.HH
 S7:L 66=some F.S7
 OZ:L 67=some F.OZ
 OY:L 68=some F.OY
 O0:L 69=some F.O0
 M4:L 70=some F.M4
 M7:L 71=some F.M7
 O3:L 72=some F.O3
 HI:L 73=some F.HI
 M5:L 74=some F.M5
 S6:L 75=some F.S6
 O4:L 76=some F.O4
 M6:L 77=some F.M6
 S8:L 78=some F.S8
 O1:L 79=some F.O1
 O2:L 80=some F.O2
 S9:L 81=some F.S9
 IK:L 82=some F.IK
end Go.e9.F

namespace Go.e9.F
open C
def SL:AFn:=⟨1,(sd [mv 2 kf] [2] (sd [m 3 0,bi 4 .geq 3 k1,m 5 4,g 6 5 true (.q9 0),g 7 5 true (.bin .leq 6 (k 3)),pk 8 5 7 kf,m 2 8] (rl [0] 3 6) .ret)),[.tmp 2],false⟩
def SJ:AFn:=⟨1,(sd [bx 1 0,mv 2 kf] [0,2] (s (sd [fa 3 1 0,uu 4 1 3,ls 5 4 (k 4),m 6 5,g 7 6 false (.o4 1 0),g 8 6 false (.ld false 1 7),g 9 6 false (.bin .gtr 8 (k 24)),pk 10 6 kt 9,m 11 10,g 12 11 false (.o4 1 1),g 13 11 false (.ld false 1 12),g 14 11 false (.bin .lss 13 k0),pk 15 11 kt 14,m 16 15,g 17 16 false (.o4 1 1),g 18 16 false (.ld false 1 17),g 19 16 false (.o4 1 0),g 20 16 false (.ld false 1 19),g 21 16 false (.bin .geq 18 20),pk 22 16 kt 21] (ra 3 19) (i 22 (sd [mv 2 kf] [1,22] .ret) .skip)) (sd [fa 23 1 2,uu 24 1 23,ca 25 1 [24],m 26 25,g 27 26 true (.o4 1 3),g 28 26 true (.ld false 1 27),g 29 26 true (.bin .eql 28 k1),g 30 26 true (.q9 29),g 31 30 false (.o4 1 3),g 32 30 false (.ld false 1 31),g 33 30 false (.bin .eql 32 (k 2)),g 34 26 true (.pick 30 kt 33),pk 35 26 34 kf,m 2 35] (rl [1] 22 14) .ret))),[.tmp 2],false⟩
def SF:AFn:=⟨1,(sd [bx 1 0,mv 2 k0] [0,2] (s (sd [tt 3 4 1,ca 4 2 [3],nt 5 4] [3,4] (i 5 (sd [mv 2 k0] [1,5] .ret) .skip)) (sd [fa 6 1 0,uu 7 1 6,sb 8 7 k1,bi 9 .shl k1 8,o 10 (.un .neg 9),m 2 10] (rl [1] 5 6) .ret))),[.tmp 2],false⟩
def SE:AFn:=⟨1,(sd [bx 1 0,mv 2 k0] [0,2] (s (sd [tt 3 4 1,ca 4 2 [3],nt 5 4] [3,4] (i 5 (sd [mv 2 k0] [1,5] .ret) .skip)) (sd [fa 6 1 0,uu 7 1 6,sb 8 7 k1,bi 9 .shl k1 8,sb 10 9 k1,m 2 10] (rl [1] 5 6) .ret))),[.tmp 2],false⟩
def SD:AFn:=⟨2,(sd [bx 2 0,mv 4 kf] [0,4] (sd [tt 5 4 2,ca 6 2 [5],m 7 6,g 8 7 true (.q9 1),g 9 7 true (.ld true 4 2),g 10 7 true (.call 3 [9]),g 11 7 true (.bin .geq 8 10),pk 12 7 11 kf,m 13 12,g 14 13 true (.q9 1),g 15 13 true (.ld true 4 2),g 16 13 true (.call 4 [15]),g 17 13 true (.bin .leq 14 16),pk 18 13 17 kf,m 4 18] (rl [1,2] 5 14) .ret)),[.tmp 4],false⟩
def SI:AFn:=⟨3,(sd [mv 6 k0] [6] (s (sd [m 9 1,ls 10 9 k0,m 11 10,g 12 11 false (.q9 1),g 13 11 false (.bin .gtr 12 (k 62)),pk 14 11 kt 13,m 15 14,g 16 15 false (.q9 2),g 17 15 false (.call 1 [16]),g 18 15 false (.un .not 17),pk 19 15 kt 18] (ra 9 10) (i 19 (sd [mv 6 k0] [0,1,2,19] .ret) .skip)) (s (sd [m 20 1,bi 21 .eql 20 k0] [19,20] (i 21 (sd [m 22 0,m 6 22] [0,1,2,21,22] .ret) .skip)) (sd [m 23 0,m 24 1,bi 25 .shr 23 24,m 7 25] [21,23,24,25] (sd [m 26 7,m 27 7,m 28 0,m 29 1,sb 30 29 k1,bi 31 .shr 28 30,bi 32 .and 31 k1,ad 33 27 32,m 34 7,o 35 (.build [z,z,z] [(0,1,26),(1,1,33),(2,1,34)]),al 8 [z,z,z],so 3 8 35] (rl [7] 26 10) (s (sd [m 36 0,ls 37 36 k0,m 38 37,g 39 38 true (.q9 0),g 40 38 true (.q9 1),g 41 38 true (.bin .shl k1 40),g 42 38 true (.bin .sub 41 k1),g 43 38 true (.bin .and 39 42),g 44 38 true (.bin .neq 43 k0),pk 45 38 44 kf] (rl [0,1] 36 9) (i 45 (d [o 46 (.u4 (some 3) 1 8 (k 2)),uu 47 1 46,ad 48 47 k1,o 49 (.u4 (some 3) 1 8 (k 2)),so 1 49 48] (ra 45 5)) .skip)) (sd [m 50 2,sb 51 50 k1,o 52 (.u4 (some 3) 1 8 51),uu 53 1 52,m 6 53] (rl [2,8,45] 50 4) .ret))))))),[.tmp 6],false⟩
def SK:AFn:=⟨2,(sd [mv 4 k0] [4] (s (sd [m 6 0,ls 7 6 k1,m 8 7,g 9 8 false (.q9 0),g 10 8 false (.bin .gtr 9 (k 62)),pk 11 8 kt 10] (ra 6 5) (i 11 (sd [mv 4 k0] [0,1,11] .ret) .skip)) (sd [m 12 1,m 13 0,bi 14 .shl k1 13,sb 15 14 k1,bi 16 .and 12 15,m 5 16] (rl [1] 11 6) (s (sd [m 17 5,m 18 0,sb 19 18 k1,bi 20 .shl k1 19,bi 21 .geq 17 20] (ra 17 4) (i 21 (d [m 22 5,m 23 0,bi 24 .shl k1 23,sb 25 22 24,m 5 25] (rl [0] 21 5)) .skip)) (sd [m 26 5,m 4 26] [0,5,21,26] .ret))))),[.tmp 4],false⟩
def SH:AFn:=⟨2,(sd [bx 2 0,mv 4 k0] [0,4] (se [m 5 1,tt 6 4 2,ca 7 3 [6],o 8 (.mm true [5,7]),tt 9 4 2,ca 10 4 [9],o 11 (.mm false [8,10]),m 4 11] (rl [1,2] 5 7) .ret)),[.tmp 4],false⟩
def SG:AFn:=⟨2,(sd [bx 2 0,mv 4 k0] [0,4] (s (sd [tt 5 4 2,ca 6 2 [5],nt 7 6] [5,6] (i 7 (sd [mv 4 k0] [1,2,7] .ret) .skip)) (s (sd [fa 8 2 3,uu 9 1 8,bi 10 .eql 9 (k 2)] [7,8,9] (i 10 (sd [fa 11 2 0,uu 12 1 11,m 13 1,ca 14 7 [12,13],m 4 14] (rl [1,2] 10 5) .ret) .skip)) (sd [tt 15 4 2,m 16 1,ca 17 8 [15,16],m 4 17] [1,2,10,15,16,17] .ret)))),[.tmp 4],false⟩
def UK:AFn:=⟨3,(sd [mv 6 kf] [6] (sd [m 7 0,m 8 1,bi 9 .geq 7 8,m 10 9,g 11 10 true (.q9 0),g 12 10 true (.q9 2),g 13 10 true (.bin .leq 11 12),pk 14 10 13 kf,m 6 14] (rl [0,1,2] 7 8) .ret)),[.tmp 6],false⟩
def UQ:AFn:=⟨1,(sd [bx 1 0,mv 2 kf] [0,2] (sd [fa 3 1 0,uu 4 1 3,ca 5 10 [4,(k 4),(k 24)],m 6 5,g 7 6 true (.o4 1 1),g 8 6 true (.ld false 1 7),g 9 6 true (.o4 1 0),g 10 6 true (.ld false 1 9),g 11 6 true (.bin .sub 10 k1),g 12 6 true (.call 10 [8,k0,11]),pk 13 6 12 kf,m 14 13,g 15 14 true (.o4 1 2),g 16 14 true (.ld false 1 15),g 17 14 true (.call 10 [16,k1,(k 3)]),pk 18 14 17 kf,m 19 18,g 20 19 true (.o4 1 3),g 21 19 true (.ld false 1 20),g 22 19 true (.call 10 [21,k1,(k 2)]),pk 23 19 22 kf,m 2 23] (rl [1] 3 21) .ret)),[.tmp 2],false⟩
def UM:AFn:=⟨1,(sd [bx 1 0,mv 2 k0] [0,2] (s (sd [tt 3 4 1,ca 4 11 [3],nt 5 4] [3,4] (i 5 (sd [mv 2 k0] [1,5] .ret) .skip)) (sd [fa 6 1 0,uu 7 1 6,sb 8 7 k1,cu 9 8,bi 10 .shl k1 9,o 11 (.un .neg 10),m 2 11] (rl [1] 5 7) .ret))),[.tmp 2],false⟩
def UJ:AFn:=⟨1,(sd [bx 1 0,mv 2 k0] [0,2] (s (sd [tt 3 4 1,ca 4 11 [3],nt 5 4] [3,4] (i 5 (sd [mv 2 k0] [1,5] .ret) .skip)) (sd [fa 6 1 0,uu 7 1 6,sb 8 7 k1,cu 9 8,bi 10 .shl k1 9,sb 11 10 k1,m 2 11] (rl [1] 5 7) .ret))),[.tmp 2],false⟩
def UI:AFn:=⟨2,(sd [bx 2 0,mv 4 kf] [0,4] (se [tt 5 4 2,ca 6 11 [5],m 7 6,g 8 7 true (.q9 1),g 9 7 true (.ld true 4 2),g 10 7 true (.call 12 [9]),g 11 7 true (.ld true 4 2),g 12 7 true (.call 13 [11]),g 13 7 true (.call 10 [8,10,12]),pk 14 7 13 kf,m 4 14] (rl [1,2] 5 10) .ret)),[.tmp 4],false⟩
def UR:AFn:=⟨2,(sd [mv 4 k0] [4] (s (sd [m 7 0,ca 8 10 [7,k1,(k 62)],nt 9 8] [7,8] (i 9 (sd [mv 4 k0] [0,1,9] .ret) .skip)) (sd [m 10 0,cu 11 10,bi 12 .shl k1 11,m 5 12] (rl [0] 9 4) (sd [m 13 1,m 14 5,bi 15 .rem 13 14,m 6 15] [1,13,14,15] (s (sd [m 16 6,ls 17 16 k0] [16] (i 17 (d [m 18 6,m 19 5,ad 20 18 19,m 6 20] (ra 17 4)) .skip)) (s (sd [m 21 6,m 22 5,bi 23 .quo 22 (k 2),bi 24 .geq 21 23] [17,21,22,23] (i 24 (d [m 25 6,m 26 5,sb 27 25 26,m 6 27] (rl [5] 24 4)) .skip)) (sd [m 28 6,m 4 28] [5,6,24,28] .ret))))))),[.tmp 4],false⟩
def UO:AFn:=⟨2,(sd [bx 2 0,mv 4 k0] [0,4] (se [m 5 1,tt 6 4 2,ca 7 12 [6],o 8 (.mm true [5,7]),tt 9 4 2,ca 10 13 [9],o 11 (.mm false [8,10]),m 4 11] (rl [1,2] 5 7) .ret)),[.tmp 4],false⟩
def UN:AFn:=⟨2,(sd [bx 2 0,mv 4 k0] [0,4] (s (sd [tt 5 4 2,ca 6 11 [5],nt 7 6] [5,6] (i 7 (sd [mv 4 k0] [1,2,7] .ret) .skip)) (s (sd [fa 8 2 3,uu 9 1 8,bi 10 .eql 9 (k 2)] [7,8,9] (i 10 (sd [fa 11 2 0,uu 12 1 11,m 13 1,ca 14 15 [12,13],m 4 14] (rl [1,2] 10 5) .ret) .skip)) (sd [tt 15 4 2,m 16 1,ca 17 16 [15,16],m 4 17] [1,2,10,15,16,17] .ret)))),[.tmp 4],false⟩
def UP:AFn:=⟨3,(sd [mv 6 k0] [6] (s (sd [m 10 1,ca 11 10 [10,k0,(k 62)],nt 12 11,m 13 12,g 14 13 false (.q9 2),g 15 13 false (.call 10 [14,k1,(k 3)]),g 16 13 false (.un .not 15),pk 17 13 kt 16] (ra 10 7) (i 17 (sd [mv 6 k0] [0,1,2,17] .ret) .skip)) (sd [m 18 1,cu 19 18,bi 20 .shl k1 19,m 7 20] (ra 17 4) (se [m 21 0,m 22 7,bi 23 .quo 21 22,m 24 0,m 25 7,bi 26 .rem 24 25,m 8 23,m 9 26] (ra 21 6) (s (sd [m 27 9,ls 28 27 k0] [27] (i 28 (d [m 29 8,sb 30 29 k1,m 31 9,m 32 7,ad 33 31 32,m 8 30,m 9 33] (ra 28 6)) .skip)) (s (sd [m 34 2,bi 35 .eql 34 (k 2),m 36 35,g 37 36 true (.q9 9),g 38 36 true (.q9 7),g 39 36 true (.bin .sub 38 k1),g 40 36 true (.q9 9),g 41 36 true (.bin .sub 39 40),g 42 36 true (.bin .gtr 37 41),pk 43 36 42 kf,m 44 43,g 45 44 true (.q9 1),g 46 44 true (.bin .gtr 45 k0),pk 47 44 46 kf] (rl [1,7,28] 34 13) (i 47 (d [m 48 8,ad 49 48 k1,m 8 49] [47,48,49]) .skip)) (s (sd [m 50 2,bi 51 .eql 50 (k 3),m 52 51,g 53 52 true (.q9 0),g 54 52 true (.bin .lss 53 k0),pk 55 52 54 kf,m 56 55,g 57 56 true (.q9 9),g 58 56 true (.bin .gtr 57 k0),pk 59 56 58 kf] (rl [0,2,9,47] 50 9) (i 59 (d [m 60 8,ad 61 60 k1,m 8 61] [59,60,61]) .skip)) (sd [m 62 8,m 6 62] [8,59,62] .ret)))))))),[.tmp 6],false⟩
def PT.l1:=(s (sd [m 6 5,m 7 1,ln 8 7,ls 9 6 8] [6,7,8] (i 9 .skip (x 0))) (s (b 1 (se [tt 12 4 2,m 13 1,m 14 5,ia 15 1 13 14,uu 16 1 15,ca 17 14 [12,16],nt 18 17] (rl [9] 12 6) (i 18 (sd [mv 4 kf] [1,2,5,18] .ret) .skip))) (d [m 10 5,ad 11 10 k1,m 5 11] [10,11,18])))
def PT:AFn:=⟨2,(sd [bx 2 0,mv 4 kf] [0,4] (s (sp [mv 5 k0] (b 0 (w PT.l1))) (sd [mv 4 kt] [1,2,5,9] .ret))),[.tmp 4],false⟩
def PS.l1:=(s (sd [m 11 5,m 12 0,ln 13 12,ls 14 11 13] [11,12,13] (i 14 .skip (x 0))) (s (b 1 (se [m 17 0,m 18 5,ia 19 1 17 18,uu 20 1 19,m 21 1,m 22 5,ia 23 1 21 22,uu 24 1 23,bi 25 .neq 20 24] (rl [14] 17 8) (i 25 (sd [mv 4 kf] [0,1,5,25] .ret) .skip))) (d [m 15 5,ad 16 15 k1,m 5 16] [15,16,25])))
def PS:AFn:=⟨2,(sd [mv 4 kf] [4] (s (sd [m 6 0,ln 7 6,m 8 1,ln 9 8,bi 10 .neq 7 9] (ra 6 4) (i 10 (sd [mv 4 kf] [0,1,10] .ret) .skip)) (s (sd [mv 5 k0] [10] (b 0 (w PS.l1))) (sd [mv 4 kt] [0,1,5,14] .ret)))),[.tmp 4],false⟩
structure a8(L:Lib):Prop where
 SL:L 1=some F.SL
 SJ:L 2=some F.SJ
 SF:L 3=some F.SF
 SE:L 4=some F.SE
 SD:L 5=some F.SD
 SI:L 6=some F.SI
 SK:L 7=some F.SK
 SH:L 8=some F.SH
 SG:L 9=some F.SG
 UK:L 10=some F.UK
 UQ:L 11=some F.UQ
 UM:L 12=some F.UM
 UJ:L 13=some F.UJ
 UI:L 14=some F.UI
 UR:L 15=some F.UR
 UO:L 16=some F.UO
 UN:L 17=some F.UN
 UP:L 18=some F.UP
 PT:L 19=some F.PT
 PS:L 20=some F.PS
def LC.l2:=(sp [ls 58 57 56] (s (i 58 .skip (x 2)) (s (b 3 (sd [ia 59 2 55 57,tt 60 2 59,al 6 [z,z],so 2 6 60] [58,59,60] (s (sd [fa 61 6 0,uu 62 1 61,ls 63 62 k0,m 64 63,g 65 64 false (.o4 6 0),g 66 64 false (.ld false 1 65),g 67 64 false (.o4 1 8),g 68 64 false (.ld false 1 67),g 69 64 false (.q9 3),g 70 64 false (.bin .add 68 69),g 71 64 false (.bin .gtr 66 70),pk 72 64 kt 71] (ra 61 11) (i 72 (sd [mv 2 kf] [1,3,6,43,44,45,55,56,57,72] .ret) .skip)) (se [fa 73 6 1,uu 74 1 73,fa 75 1 4,fa 76 75 1,uu 77 1 76,bi 78 .shl k1 77,bi 79 .neq 74 78,m 80 79,g 81 80 true (.o4 1 4),g 82 80 true (.ld true 4 81),g 83 80 true (.o4 6 1),g 84 80 true (.ld false 1 83),g 85 80 true (.call 5 [82,84]),g 86 80 true (.un .not 85),pk 87 80 86 kf] (rl [6] 72 15) (i 87 (sd [mv 2 kf] [1,3,43,44,45,55,56,57,87] .ret) .skip))))) (d [ad 88 57 k1,m 57 88] [87,88]))))
def LC.l1:=(sp [ls 46 45 44] (s (i 46 .skip (x 0)) (s (b 1 (sd [m 47 45,ia 48 1 43 45,tt 49 1 48,al 4 [.nil],m 3 47,so 1 4 49] (ra 46 4) (s (sd [fa 50 4 0,uu 51 1 50,ln 52 51,bi 53 .gtr 52 (k 64)] [50,51,52] (i 53 (sd [mv 2 kf] [1,3,4,43,44,45,53] .ret) .skip)) (sd [fa 54 4 0,uu 55 1 54,ln 56 55,mv 57 k0] [4,53,54] (b 2 (w LC.l2)))))) (d [ad 89 45 k1,m 45 89] [3,55,56,57,58,89]))))
def LC.l3:=(sp [ls 100 99 98] (s (i 100 .skip (x 4)) (s (b 5 (sd [ia 101 1 97 99,uu 102 1 101,m 9 102] [100,101,102] (sd [m 103 9,ls 104 103 k0,m 105 104,g 106 105 false (.q9 9),g 107 105 false (.q9 7),g 108 105 false (.bin .gtr 106 107),pk 109 105 kt 108] (rl [9] 103 6) (i 109 (sd [mv 2 kf] [1,7,97,98,99,109] .ret) .skip)))) (d [ad 110 99 k1,m 99 110] [109,110]))))
def LC:AFn:=⟨1,(sd [bx 1 0,mv 2 kf] [0,2] (s (sd [fa 10 1 0,tt 11 4 10,ca 12 2 [11],nt 13 12,m 14 13,g 15 14 false (.o4 1 4),g 16 14 false (.ld true 4 15),g 17 14 false (.call 2 [16]),g 18 14 false (.un .not 17),pk 19 14 kt 18] (ra 10 9) (i 19 (sd [mv 2 kf] [1,19] .ret) .skip)) (s (sd [fa 20 1 8,uu 21 1 20,ls 22 21 k0,m 23 22,g 24 23 false (.o4 1 8),g 25 23 false (.ld false 1 24),g 26 23 false (.bin .gtr 25 (k 64)),pk 27 23 kt 26,m 28 27,g 29 28 false (.o4 1 9),g 30 28 false (.ld false 1 29),g 31 28 false (.len 30),g 32 28 false (.bin .gtr 31 (k 64)),pk 33 28 kt 32,m 34 33,g 35 34 false (.o4 1 10),g 36 34 false (.ld false 1 35),g 37 34 false (.len 36),g 38 34 false (.o4 1 8),g 39 34 false (.ld false 1 38),g 40 34 false (.bin .neq 37 39),pk 41 34 kt 40] (ra 19 22) (i 41 (sd [mv 2 kf] [1,41] .ret) .skip)) (s (sd [fa 42 1 9,uu 43 1 42,ln 44 43,mv 45 k0] [41,42] (b 0 (w LC.l1))) (sd [fa 90 1 8,uu 91 1 90,fa 92 1 9,uu 93 1 92,ln 94 93,ad 95 91 94,m 7 95] (rl [43,44,45,46] 90 6) (s (sd [fa 96 1 10,uu 97 1 96,ln 98 97,mv 99 k0] [96] (b 4 (w LC.l3))) (sd [fa 111 1 11,uu 112 1 111,bi 113 .geq 112 k0,m 114 113,g 115 114 true (.o4 1 11),g 116 114 true (.ld false 1 115),g 117 114 true (.q9 7),g 118 114 true (.bin .leq 116 117),pk 119 114 118 kf,m 2 119] (rl [1,7,97,98,99,100] 111 9) .ret))))))),[.tmp 2],false⟩
def M9.l1:=(sp [ls 19 18 17] (s (i 19 .skip (x 0)) (s (b 1 (sd [ia 20 1 16 18,uu 21 1 20,m 8 21] [19,20,21] (sd [fa 22 3 0,tt 23 4 22,m 24 8,ca 25 5 [23,24],nt 26 25] (rl [8] 22 4) (i 26 (sd [mv 6 (k 17)] [2,3,16,17,18,26] .ret) .skip)))) (d [ad 27 18 k1,m 18 27] [26,27]))))
def M9.l2:=(sp [ls 31 30 29] (s (i 31 .skip (x 2)) (s (b 3 (sd [ia 32 1 28 30,uu 33 1 32,m 10 33] [31,32,33] (sd [fa 34 3 0,tt 35 4 34,m 36 10,ca 37 5 [35,36],nt 38 37] (rl [10] 34 4) (i 38 (sd [mv 6 (k 17)] [3,28,29,30,38] .ret) .skip)))) (d [ad 39 30 k1,m 30 39] [38,39]))))
def M9:AFn:=⟨3,(sd [bx 3 0,mv 6 k0] [0,6] (s (sd [m 11 1,ln 12 11,fa 13 3 8,uu 14 1 13,bi 15 .neq 12 14] (ra 11 4) (i 15 (sd [mv 6 k1] [1,2,3,15] .ret) .skip)) (s (sd [m 16 1,ln 17 16,mv 18 k0] [1,15] (b 0 (w M9.l1))) (s (sd [m 28 2,ln 29 28,mv 30 k0] (rl [2] 16 4) (b 2 (w M9.l2))) (sd [mv 6 k0] (rl [3] 28 4) .ret))))),[.tmp 6],false⟩
def M8.l2:=(sp [ls 42 41 40] (s (i 42 .skip (x 2)) (s (b 3 (sd [ia 43 2 39 41,tt 44 2 43,al 14 [z,z],so 2 14 44] [42,43,44] (e [m 45 12,fa 46 14 1,uu 47 1 46,m 48 8,fa 49 14 0,uu 50 1 49,ia 51 1 48 50,uu 52 1 51,bi 53 .mul 47 52,ad 54 45 53,m 12 54] (rl [14] 45 10)))) (d [ad 55 41 k1,m 41 55] [55]))))
def M8.l1:=(sp [ls 35 34 33] (s (i 35 .skip (x 0)) (s (b 1 (sd [ia 36 1 32 34,tt 37 1 36,al 11 [.nil],so 1 11 37] [35,36,37] (sp [mv 12 k0] (s (sd [fa 38 11 0,uu 39 1 38,ln 40 39,mv 41 k0] [11,38] (b 2 (w M8.l2))) (sd [m 56 12,fa 57 3 4,fa 58 57 1,uu 59 1 58,fa 60 3 0,fa 61 60 2,uu 62 1 61,ca 63 6 [56,59,62],m 15 63] (rl [12,39,40,41,42] 56 8) (sd [m 64 9,m 65 64,g 66 65 false (.o4 3 0),g 67 65 false (.ld true 4 66),g 68 65 false (.q9 15),g 69 65 false (.call 5 [67,68]),g 70 65 false (.un .not 69),pk 71 65 kt 70,m 9 71] (ra 64 8) (d [m 72 8,fa 73 3 0,tt 74 4 73,m 75 15,ca 76 9 [74,75],o 77 (.b8 77 1 [76]),o 78 (.app 78 1 8 72 77),m 8 78] (rl [15] 72 7)))))))) (d [ad 79 34 k1,m 34 79] [79]))))
def M8:AFn:=⟨3,(sd [bx 3 0,mv 6 (.c .nil),mv 7 kf] [0,6,7] (sd [fa 16 3 8,uu 17 1 16,ad 18 k1 17,fa 19 3 9,uu 20 1 19,ln 21 20,ad 22 18 21,o 23 (.mk 23 1 8 [z] k0 22),m 8 23] (ra 16 8) (sd [m 24 8,m 25 2,o 26 (.b8 26 1 [25]),o 27 (.app 27 1 8 24 26),m 8 27] (rl [2] 24 4) (sd [m 28 8,m 29 1,o 30 (.app 30 1 8 28 29),m 8 30] [1,28,29,30] (sp [mv 9 kf] (s (sd [fa 31 3 9,uu 32 1 31,ln 33 32,mv 34 k0] [31] (b 0 (w M8.l1))) (sd [m 80 8,m 81 9,m 6 80,m 7 81] [3,8,9,32,33,34,35,80,81] .ret))))))),[.tmp 6,.tmp 7],false⟩
def TB:AFn:=⟨3,(sd [bx 3 0,mv 6 (.c .nil),mv 7 kf,mv 8 k0] [0,6,7,8] (s (sd [tt 12 12 3,ca 13 21 [12],nt 14 13] [12,13] (i 14 (sd [mv 6 (.c .nil),mv 7 kf,mv 8 (k 2)] [1,2,3,14] .ret) .skip)) (s (sd [tt 15 12 3,m 16 1,m 17 2,o 18 (.b8 18 1 [17]),ca 19 22 [15,16,18],m 9 19] (ra 14 6) (sd [m 20 9,bi 21 .neq 20 k0] [20] (i 21 (sd [m 22 9,mv 6 (.c .nil),mv 7 kf,m 8 22] [1,2,3,9,21,22] .ret) .skip))) (sd [tt 24 12 3,m 25 1,m 26 2,ca 27 23 [24,25,26],m 23 27,et 28 23 0,et 29 23 1,m 10 28,m 11 29] (rl [1,2,3,9,21] 23 7) (sd [m 30 10,m 31 11,m 6 30,m 7 31,mv 8 k0] [10,11,30,31] .ret))))),[.tmp 6,.tmp 7,.tmp 8],false⟩
def O5.l1:=(sp [ls 15 14 13] (s (i 15 .skip (x 0)) (s (b 1 (sd [m 16 14,ia 17 1 12 14,uu 18 1 17,m 6 16,m 7 18] (ra 15 4) (d [m 19 5,m 20 6,m 21 1,m 22 7,ia 23 1 21 22,uu 24 1 23,ia 25 1 19 20,so 1 25 24] (rl [6,7] 19 7)))) (d [ad 26 14 k1,m 14 26] [26]))))
def O5:AFn:=⟨2,(sd [bx 2 0,mv 4 (.c .nil)] [0,4] (sd [fa 8 2 8,uu 9 1 8,o 10 (.mk 10 1 8 [z] 9 9),m 5 10] [8,9,10] (s (sd [fa 11 2 10,uu 12 1 11,ln 13 12,mv 14 k0] [2,11] (b 0 (w O5.l1))) (sd [m 27 5,m 4 27] [1,5,12,13,14,15,27] .ret)))),[.tmp 4],false⟩
def TA:AFn:=⟨3,(sd [bx 3 0,mv 6 (.c .nil),mv 7 k0,mv 8 kf,mv 9 k0] [0,6,7,8,9] (sd [tt 14 12 3,m 15 1,m 16 2,ca 17 24 [14,15,16],m 13 17,et 18 13 0,et 19 13 1,et 20 13 2,m 10 18,m 11 19,m 12 20] (rl [1,2] 13 8) (s (sd [m 21 12,bi 22 .neq 21 k0] [21] (i 22 (sd [m 23 12,mv 6 (.c .nil),mv 7 k0,mv 8 kf,m 9 23] [3,10,11,12,22,23] .ret) .skip)) (se [tt 24 12 3,m 25 10,ca 26 25 [24,25],m 27 10,fa 28 3 11,uu 29 1 28,ia 30 1 27 29,uu 31 1 30,m 32 11,m 6 26,m 7 31,m 8 32,mv 9 k0] (rl [3,10,11,12,22] 24 9) .ret)))),[.tmp 6,.tmp 7,.tmp 8,.tmp 9],false⟩
def LI.l2:=(s (sd [m 53 4,fa 54 1 9,uu 55 1 54,m 56 3,ia 57 1 55 56,fa 58 57 0,uu 59 1 58,ln 60 59,ls 61 53 60] (ra 53 8) (i 61 .skip (x 2))) (s (b 3 (sd [fa 64 1 9,uu 65 1 64,m 66 3,ia 67 1 65 66,fa 68 67 0,uu 69 1 68,m 70 4,ia 71 2 69 70,tt 72 2 71,al 5 [z,z],so 2 5 72] (rl [61] 64 9) (sd [fa 73 5 0,uu 74 1 73,fa 75 1 8,uu 76 1 75,m 77 3,ad 78 76 77,ca 79 10 [74,k0,78],nt 80 79,m 81 80,g 82 81 false (.o4 1 4),g 83 81 false (.ld true 4 82),g 84 81 false (.o4 5 1),g 85 81 false (.ld false 1 84),g 86 81 false (.call 14 [83,85]),g 87 81 false (.un .not 86),g 88 81 false (.q9 87),g 89 88 true (.o4 5 1),g 90 88 true (.ld false 1 89),g 91 88 true (.o4 1 4),g 92 88 true (.o4 91 1),g 93 88 true (.ld false 1 92),g 94 88 true (.conv .u64 93),g 95 88 true (.bin .shl k1 94),g 96 88 true (.bin .neq 90 95),g 97 81 false (.pick 88 96 kf),pk 98 81 kt 97] (rl [5] 73 25) (i 98 (sd [mv 2 kf] [1,3,4,98] .ret) .skip)))) (d [m 62 4,ad 63 62 k1,m 4 63] [62,63,98])))
def LI.l1:=(s (sd [m 38 3,fa 39 1 9,uu 40 1 39,ln 41 40,ls 42 38 41] (ra 38 4) (i 42 .skip (x 0))) (s (b 1 (s (sd [fa 45 1 9,uu 46 1 45,m 47 3,ia 48 1 46 47,fa 49 48 0,uu 50 1 49,ln 51 50,bi 52 .gtr 51 (k 64)] (rl [42] 45 7) (i 52 (sd [mv 2 kf] [1,3,52] .ret) .skip)) (sd [mv 4 k0] [52] (b 2 (w LI.l2))))) (d [m 43 3,ad 44 43 k1,m 3 44] [4,43,44,61])))
def LI.l3:=(s (sd [m 105 7,fa 106 1 8,uu 107 1 106,ls 108 105 107] [105,106,107] (i 108 .skip (x 4))) (s (b 5 (sd [fa 111 1 10,uu 112 1 111,m 113 7,ia 114 1 112 113,uu 115 1 114,m 116 6,ca 117 10 [115,k0,116],nt 118 117] (rl [108] 111 7) (i 118 (sd [mv 2 kf] [1,6,7,118] .ret) .skip))) (d [m 109 7,ad 110 109 k1,m 7 110] [109,110,118])))
def LI:AFn:=⟨1,(sd [bx 1 0,mv 2 kf] [0,2] (s (sd [fa 8 1 0,tt 9 4 8,ca 10 11 [9],nt 11 10,m 12 11,g 13 12 false (.o4 1 4),g 14 12 false (.ld true 4 13),g 15 12 false (.call 11 [14]),g 16 12 false (.un .not 15),pk 17 12 kt 16,m 18 17,g 19 18 false (.o4 1 8),g 20 18 false (.ld false 1 19),g 21 18 false (.call 10 [20,k0,(k 64)]),g 22 18 false (.un .not 21),pk 23 18 kt 22,m 24 23,g 25 24 false (.o4 1 9),g 26 24 false (.ld false 1 25),g 27 24 false (.len 26),g 28 24 false (.bin .gtr 27 (k 64)),pk 29 24 kt 28,m 30 29,g 31 30 false (.o4 1 10),g 32 30 false (.ld false 1 31),g 33 30 false (.len 32),g 34 30 false (.o4 1 8),g 35 30 false (.ld false 1 34),g 36 30 false (.bin .neq 33 35),pk 37 30 kt 36] (ra 8 29) (i 37 (sd [mv 2 kf] [1,37] .ret) .skip)) (s (sd [mv 3 k0] [37] (b 0 (w LI.l1))) (sd [fa 99 1 8,uu 100 1 99,fa 101 1 9,uu 102 1 101,ln 103 102,ad 104 100 103,m 6 104] (rl [3,42] 99 6) (s (sp [mv 7 k0] (b 4 (w LI.l3))) (sd [fa 119 1 11,uu 120 1 119,m 121 6,ca 122 10 [120,k0,121],m 2 122] (rl [1,6,7,108] 119 4) .ret)))))),[.tmp 2],false⟩
def P0.l1:=(s (sd [m 7 6,fa 8 2 0,uu 9 1 8,ln 10 9,ls 11 7 10] (ra 7 4) (i 11 .skip (x 0))) (s (b 1 (e [m 14 5,fa 15 2 0,uu 16 1 15,m 17 6,ia 18 2 16 17,fa 19 18 1,uu 20 1 19,m 21 1,fa 22 2 0,uu 23 1 22,m 24 6,ia 25 2 23 24,fa 26 25 0,uu 27 1 26,ia 28 1 21 27,uu 29 1 28,bi 30 .mul 20 29,ad 31 14 30,m 5 31] (rl [11] 14 18))) (d [m 12 6,ad 13 12 k1,m 6 13] [12,13])))
def P0:AFn:=⟨2,(sd [bx 2 0,mv 4 k0] [0,4] (sp [mv 5 k0] (s (sp [mv 6 k0] (b 0 (w P0.l1))) (sd [m 32 5,m 4 32] [1,2,5,6,11,32] .ret)))),[.tmp 4],false⟩
def PY.l1:=(s (sd [m 40 11,fa 41 3 9,uu 42 1 41,ln 43 42,ls 44 40 43] (ra 40 4) (i 44 .skip (x 1))) (s (b 2 (se [fa 47 3 9,uu 48 1 47,m 49 11,ia 50 1 48 49,tt 51 1 50,m 52 9,ca 53 28 [51,52],fa 54 3 4,fa 55 54 1,uu 56 1 55,fa 57 3 0,fa 58 57 2,uu 59 1 58,ca 60 18 [53,56,59],m 12 60] (rl [44] 47 14) (sd [m 61 10,m 62 61,g 63 62 false (.o4 3 0),g 64 62 false (.ld true 4 63),g 65 62 false (.q9 12),g 66 62 false (.call 14 [64,65]),g 67 62 false (.un .not 66),pk 68 62 kt 67,m 10 68] (ra 61 8) (d [m 69 9,fa 70 3 0,tt 71 4 70,m 72 12,ca 73 17 [71,72],o 74 (.b8 74 1 [73]),o 75 (.app 75 1 8 69 74),m 9 75] (rl [12] 69 7))))) (d [m 45 11,ad 46 45 k1,m 11 46] [45,46])))
def PY:AFn:=⟨3,(sd [bx 3 0,mv 6 (.c .nil),mv 7 kf,mv 8 k0] [0,6,7,8] (s (b 0 (sd [tt 14 12 3,ca 15 27 [14],nt 16 15,m 13 16] [14,15,16] (i 13 (sd [mv 6 (.c .nil),mv 7 kf,mv 8 (k 2)] [1,2,3,13] .ret) (sd [m 18 1,ln 19 18,fa 20 3 8,uu 21 1 20,bi 22 .neq 19 21,m 17 22] (rl [13] 18 5) (i 17 (sd [mv 6 (.c .nil),mv 7 kf,mv 8 k1] [1,2,3,17] .ret) (sd [fa 24 3 0,tt 25 4 24,m 26 1,ca 27 19 [25,26],nt 28 27,m 29 28,g 30 29 false (.o4 3 0),g 31 29 false (.ld true 4 30),g 32 29 false (.q9 2),g 33 29 false (.call 14 [31,32]),g 34 29 false (.un .not 33),pk 35 29 kt 34,m 23 35] (rl [17] 24 12) (i 23 (sd [mv 6 (.c .nil),mv 7 kf,mv 8 (k 17)] [1,2,3,23] .ret) .skip))))))) (sd [m 36 2,o 37 (.b8 37 1 [36]),m 38 1,o 39 (.app 39 1 8 37 38),m 9 39] (rl [1,2,23] 36 4) (sp [mv 10 kf] (s (sp [mv 11 k0] (b 1 (w PY.l1))) (sd [m 76 9,m 77 10,m 6 76,m 7 77,mv 8 k0] [3,9,10,11,44,76,77] .ret)))))),[.tmp 6,.tmp 7,.tmp 8],false⟩
def PW.l1:=(s (sd [m 26 14,fa 27 3 8,uu 28 1 27,ls 29 26 28] [26,27,28] (i 29 .skip (x 0))) (s (b 1 (d [m 32 13,m 33 10,fa 34 3 10,uu 35 1 34,m 36 14,ia 37 1 35 36,uu 38 1 37,ia 39 1 33 38,uu 40 1 39,o 41 (.b8 41 1 [40]),o 42 (.app 42 1 8 32 41),m 13 42] (rl [29] 32 11))) (d [m 30 14,ad 31 30 k1,m 14 31] [30,31])))
def PW:AFn:=⟨3,(sd [bx 3 0,mv 6 (.c .nil),mv 7 k0,mv 8 kf,mv 9 k0] [0,6,7,8,9] (sd [tt 16 12 3,m 17 1,m 18 2,ca 19 29 [16,17,18],m 15 19,et 20 15 0,et 21 15 1,et 22 15 2,m 10 20,m 11 21,m 12 22] (rl [1,2] 15 8) (s (sd [m 23 12,bi 24 .neq 23 k0] [23] (i 24 (sd [m 25 12,mv 6 (.c .nil),mv 7 k0,mv 8 kf,m 9 25] [3,10,11,12,24,25] .ret) .skip)) (sd [o 13 (.ak 13 1)] [12,24] (s (sp [mv 14 k0] (b 0 (w PW.l1))) (se [m 43 13,m 44 10,fa 45 3 11,uu 46 1 45,ia 47 1 44 46,uu 48 1 47,m 49 11,m 6 43,m 7 48,m 8 49,mv 9 k0] (rl [3,10,11,13,14,29] 43 7) .ret)))))),[.tmp 6,.tmp 7,.tmp 8,.tmp 9],false⟩
structure k9(L:Lib):Prop extends a8 L where
 LC:L 21=some F.LC
 M9:L 22=some F.M9
 M8:L 23=some F.M8
 TB:L 24=some F.TB
 O5:L 25=some F.O5
 TA:L 26=some F.TA
 LI:L 27=some F.LI
 P0:L 28=some F.P0
 PY:L 29=some F.PY
 PW:L 30=some F.PW
def U7:AFn:=⟨2,(sd [mv 4 k0] [4] (s (sd [m 5 1,ls 6 5 k1] [5] (i 6 (sd [mv 4 k0] [0,1,6] .ret) .skip)) (sd [m 7 0,m 8 1,bi 9 .rem 7 8,m 0 9] (ra 6 4) (s (sd [m 10 0,ls 11 10 k0] [10] (i 11 (d [m 12 0,m 13 1,ad 14 12 13,m 0 14] (rl [1] 11 4)) .skip)) (sd [m 15 0,m 4 15] [0,1,11,15] .ret))))),[.tmp 4],false⟩
def U4:AFn:=⟨2,(sd [mv 4 k0] [4] (s (sd [m 5 1,bi 6 .geq 5 k0,m 7 6,g 8 7 true (.q9 1),g 9 7 true (.q9 0),g 10 7 true (.len 9),g 11 7 true (.bin .lss 8 10),pk 12 7 11 kf] (ra 5 7) (i 12 (sd [m 13 0,m 14 1,ia 15 1 13 14,uu 16 1 15,m 4 16] (rl [0,1] 12 5) .ret) .skip)) (sd [mv 4 k0] [0,1,12] .ret))),[.tmp 4],false⟩
def U8:AFn:=⟨4,(sp [al 8 [z,z,z,z]] (sd [m 10 0,ca 11 34 [10,(k 1099511627776)],m 0 11] [10,11] (sd [m 12 1,m 13 0,m 14 2,m 15 1,sb 16 14 15,ad 17 16 k1,bi 18 .rem 13 17,ad 19 12 18,o 20 (.build [z,z,z,z] [(0,1,19)]),al 9 [z,z,z,z],so 4 9 20] (ra 12 9) (sd [m 21 0,m 22 2,m 23 1,sb 24 22 23,ad 25 24 k1,bi 26 .quo 21 25,m 0 26] (rl [1,2] 21 6) (sd [fa 27 9 0,uu 28 1 27,sb 29 28 k1,m 30 3,sb 31 29 30,m 32 0,bi 33 .rem 32 (k 2),sb 34 31 33,fa 35 9 1,so 1 35 34] (rl [3] 27 9) (sd [m 36 0,bi 37 .quo 36 (k 2),m 0 37] [36,37] (sd [fa 38 9 1,uu 39 1 38,o 40 (.mm true [39,k0]),fa 41 9 1,so 1 41 40] (ra 38 4) (sd [m 42 0,bi 43 .rem 42 (k 3),ad 44 k1 43,m 45 0,bi 46 .quo 45 (k 3),bi 47 .rem 46 (k 2),ad 48 k1 47,fa 49 9 2,so 1 49 44,fa 50 9 3,so 1 50 48] (rl [0] 42 9) (sd [tt 51 4 9,so 4 8 51] [9,51] .ret))))))))),[.cell 8 true 4],false⟩
def U6:AFn:=⟨1,(sp [al 2 [z,z,z,z]] (sd [m 3 0,ca 4 36 [3,(k 6),(k 12),(k 2)],so 4 2 4] [0,3,4] .ret)),[.cell 2 true 4],false⟩
def U5:AFn:=⟨1,(sp [al 2 [z,z,z,z]] (sd [m 3 0,ca 4 36 [3,(k 6),(k 9),k1],so 4 2 4] [0,3,4] .ret)),[.cell 2 true 4],false⟩
def QJ.l1:=(s (sd [m 9 8,m 10 2,ls 11 9 10] [9,10] (i 11 .skip (x 0))) (s (b 1 (e [m 14 7,tt 15 4 3,ca 16 12 [15],m 17 1,m 18 8,ca 19 35 [17,18],tt 20 4 3,ca 21 12 [20],sb 22 19 21,tt 23 4 3,ca 24 13 [23],tt 25 4 3,ca 26 12 [25],sb 27 24 26,ad 28 27 k1,ca 29 34 [22,28],ad 30 16 29,o 31 (.b8 31 1 [30]),o 32 (.app 32 1 8 14 31),m 7 32] (rl [11] 14 19))) (d [m 12 8,ad 13 12 k1,m 8 13] [12,13])))
def QJ:AFn:=⟨3,(sd [bx 3 0,mv 6 (.c .nil)] [0,6] (sp [o 7 (.ak 7 1)] (s (sp [mv 8 k0] (b 0 (w QJ.l1))) (sd [m 33 7,m 6 33] [1,2,3,7,8,11,33] .ret)))),[.tmp 6],false⟩
structure x9(L:Lib):Prop extends a8 L where
 U7:L 34=some F.U7
 U4:L 35=some F.U4
 U8:L 36=some F.U8
 U6:L 37=some F.U6
 U5:L 38=some F.U5
 QJ:L 39=some F.QJ
def LR.l2:=(s (sd [m 37 7,fa 38 1 3,uu 39 1 38,m 40 5,ia 41 2 39 40,fa 42 41 0,uu 43 1 42,ln 44 43,ls 45 37 44,m 46 45,g 47 46 true (.q9 7),g 48 46 true (.bin .lss 47 (k 4)),pk 49 46 48 kf] (ra 37 12) (i 49 .skip (x 2))) (s (b 3 (se [fa 52 1 3,q 53 [8] (.ld false 1 52),m 54 5,ia 55 2 53 54,fa 56 55 0,q 57 [8] (.ld false 1 56),m 58 7,ia 59 1 57 58,q 60 [8] (.ld false 1 59),fa 61 3 8,q 62 [8] (.ld false 1 61),ad 63 k1 62,m 64 5,ad 65 63 64,q 66 [8] (.call 34 [60,65]),fa 67 3 4,q 68 [8] (.ld true 4 67),fa 69 1 3,q 70 [8] (.ld false 1 69),m 71 5,ia 72 2 70 71,fa 73 72 1,q 74 [8] (.ld false 1 73),m 75 7,ad 76 75 k1,q 77 [8] (.call 39 [68,74,76]),m 78 7,ia 79 1 77 78,q 80 [8] (.ld false 1 79),o 81 (.build [z,z] [(0,1,66),(1,1,80)]),al 8 [z,z],so 2 8 81] (rl [49] 52 30) (s (sd [fa 82 1 6,uu 83 1 82] [82] (i 83 (d [m 84 4,fa 85 1 3,uu 86 1 85,m 87 5,ia 88 2 86 87,fa 89 88 1,uu 90 1 89,m 91 7,ca 92 35 [90,91],ca 93 34 [92,(k 3)],sb 94 93 k1,bi 95 .mul 84 94,fa 96 8 1,so 1 96 95] (ra 83 14)) .skip)) (d [fa 97 6 0,uu 98 1 97,tt 99 2 8,o 100 (.b8 100 2 [99]),o 101 (.app 101 2 16 98 100),fa 102 6 0,so 1 102 101] (rl [8,83] 97 6))))) (d [m 50 7,ad 51 50 k1,m 7 51] [50,51])))
def LR.l1:=(s (sd [m 25 5,fa 26 1 3,uu 27 1 26,ln 28 27,ls 29 25 28,m 30 29,g 31 30 true (.q9 5),g 32 30 true (.bin .lss 31 (k 4)),pk 33 30 32 kf] (ra 25 8) (i 33 .skip (x 0))) (s (b 1 (sd [o 36 (.build [.nil] []),al 6 [.nil],so 1 6 36] [33,36] (s (sp [mv 7 k0] (b 2 (w LR.l2))) (d [fa 103 3 9,uu 104 1 103,tt 105 1 6,o 106 (.b8 106 1 [105]),o 107 (.app 107 1 24 104 106),fa 108 3 9,so 1 108 107] (rl [6,7,49] 103 6))))) (d [m 34 5,ad 35 34 k1,m 5 35] [34,35])))
def LR.l3:=(s (sd [m 109 9,fa 110 3 8,uu 111 1 110,ls 112 109 111] [109,110,111] (i 112 .skip (x 4))) (s (b 5 (e [fa 115 3 10,q 116 [129] (.ld false 1 115),fa 117 1 4,uu 118 1 117,m 119 9,ca 120 35 [118,119],fa 121 3 8,uu 122 1 121,ad 123 k1 122,fa 124 3 9,uu 125 1 124,ln 126 125,ad 127 123 126,ca 128 34 [120,127],o 129 (.b8 129 1 [128]),o 130 (.app 130 1 8 116 129),fa 131 3 10,so 1 131 130] (rl [112] 115 17))) (d [m 113 9,ad 114 113 k1,m 9 114] [113,114])))
def LR:AFn:=⟨1,(sd [bx 1 0,al 2 [z,z,z,z,z,z,z,z,z,.nil,.nil,z]] [0] (se [fa 10 1 0,q 11 [3] (.ld false 1 10),q 12 [3] (.call 37 [11]),fa 13 1 1,q 14 [3] (.ld false 1 13),q 15 [3] (.call 38 [14]),fa 16 1 2,q 17 [3] (.ld false 1 16),q 18 [3] (.call 34 [17,(k 4)]),o 19 (.build [z,z,z,z,z,z,z,z,z,.nil,.nil,z] [(0,4,12),(4,4,15),(8,1,18)]),al 3 [z,z,z,z,z,z,z,z,z,.nil,.nil,z],so 12 3 19] (ra 10 10) (sd [fa 20 3 4,fa 21 20 1,uu 22 1 21,cu 23 22,bi 24 .shl k1 23,m 4 24] (ra 20 5) (s (sp [mv 5 k0] (b 0 (w LR.l1))) (s (sd [mv 9 k0] [4,5,33] (b 4 (w LR.l3))) (sd [fa 132 1 5,uu 133 1 132,fa 134 3 8,uu 135 1 134,ad 136 k1 135,fa 137 3 9,uu 138 1 137,ln 139 138,ad 140 136 139,ca 141 34 [133,140],fa 142 3 11,so 1 142 141] (rl [1,9,112] 132 11) (sd [tt 143 12 3,so 12 2 143] [3,143] .ret))))))),[.cell 2 true 12],false⟩
structure gx(L:Lib):Prop extends k9 L,x9 L where
 LR:L 42=some F.LR
def xi:Nat:=45
def QH.l1:=(sp [ls 12 11 10] (s (i 12 .skip (x 0)) (s (b 1 (sd [m 13 11,ia 14 1 9 11,uu 15 1 14,m 5 13,m 6 15] (ra 12 4) (s (sd [m 16 5,m 17 1,ln 18 17,bi 19 .geq 16 18] [16,17,18] (i 19 (sd [mv 4 k1] [0,1,5,6,9,10,11,19] .ret) .skip)) (sd [m 20 1,m 21 5,ia 22 1 20 21,uu 23 1 22,m 7 23] (rl [5] 19 5) (sd [m 24 6,m 25 7,ca 26 60 [24,25],m 8 26] [6,7,24,25,26] (sd [m 27 8,bi 28 .neq 27 k0] [27] (i 28 (sd [m 29 8,m 4 29] [0,1,8,9,10,11,28,29] .ret) .skip))))))) (d [ad 30 11 k1,m 11 30] [8,28,30]))))
def QH:AFn:=⟨2,(sd [mv 4 k0] [4] (s (sp [m 9 0,ln 10 9,mv 11 k0] (b 0 (w QH.l1))) (s (sd [m 31 0,ln 32 31,m 33 1,ln 34 33,ls 35 32 34] (rl [0,1,9,10,11,12] 31 4) (i 35 (sd [mv 4 (k (-1))] [35] .ret) .skip)) (sd [mv 4 k0] [35] .ret)))),[.tmp 4],false⟩
def OV.l1:=(sp [ls 10 9 8] (s (i 10 .skip (x 0)) (s (b 1 (sd [m 11 9,ia 12 1 7 9,uu 13 1 12,m 5 11,m 6 13] (ra 10 4) (sd [m 14 6,m 15 1,m 16 5,ia 17 1 15 16,uu 18 1 17,bi 19 .gtr 14 18,m 20 19,g 21 20 false (.q9 6),g 22 20 false (.q9 1),g 23 20 false (.q9 5),g 24 20 false (.u4 none 1 22 23),g 25 20 false (.ld false 1 24),g 26 20 false (.un .neg 25),g 27 20 false (.bin .lss 21 26),pk 28 20 kt 27] (rl [5,6] 14 14) (i 28 (sd [mv 4 kf] [1,7,8,9,28] .ret) .skip)))) (d [ad 29 9 k1,m 9 29] [28,29]))))
def OV:AFn:=⟨2,(sd [mv 4 kf] [4] (s (sd [m 7 0,ln 8 7,mv 9 k0] [0] (b 0 (w OV.l1))) (sd [mv 4 kt] [1,7,8,9,10] .ret))),[.tmp 4],false⟩
def MY.l1:=(s (sd [m 9 5,bi 10 .geq 9 k0] [9] (i 10 .skip (x 0))) (s (b 1 (s (se [m 13 0,m 14 5,ia 15 1 13 14,uu 16 1 15,m 17 1,m 18 5,ia 19 1 17 18,uu 20 1 19,ls 21 16 20] (rl [10] 13 8) (i 21 (sd [m 22 0,m 23 5,ia 24 1 22 23,uu 25 1 24,ad 26 25 k1,ia 27 1 22 23,so 1 27 26] (rl [0,1,5] 21 7) (sp [mv 4 kt] .ret)) .skip)) (d [m 28 0,m 29 5,m 30 1,m 31 5,ia 32 1 30 31,uu 33 1 32,o 34 (.un .neg 33),ia 35 1 28 29,so 1 35 34] (rl [21] 28 8)))) (d [m 11 5,sb 12 11 k1,m 5 12] [11,12])))
def MY:AFn:=⟨2,(sd [mv 4 kf] [4] (s (sd [m 6 0,ln 7 6,sb 8 7 k1,m 5 8] [6,7,8] (b 0 (w MY.l1))) (sd [mv 4 kf] [0,1,5,10] .ret))),[.tmp 4],false⟩
def MW.l1:=(sp [ls 13 12 11] (s (i 13 .skip (x 0)) (s (b 1 (sd [m 14 12,m 6 14] [13,14] (se [m 15 0,m 16 6,ia 17 1 15 16,uu 18 1 17,m 19 0,m 20 5,ia 21 1 19 20,uu 22 1 21,ca 23 424 [18,22],ls 24 23 k0] (ra 15 9) (i 24 (d [m 25 6,m 5 25] [6,24,25]) .skip)))) (d [ad 26 12 k1,m 12 26] [6,24,26]))))
def MW.l2:=(sp [ls 30 29 28] (s (i 30 .skip (x 2)) (s (b 3 (sd [m 31 29,m 8 31] [30,31] (sd [m 32 5,m 33 8,ad 34 32 33,m 35 0,ln 36 35,bi 37 .rem 34 36,m 9 37] (rl [8] 32 6) (se [fa 38 7 0,q 39 [40,46] (.ld false 1 38),o 40 (.b8 40 1 []),m 41 0,m 42 9,ia 43 1 41 42,q 44 [40] (.ld false 1 43),o 45 (.dw 40 1 8 40 44),o 46 (.b8 46 1 [45]),o 47 (.app 47 1 24 39 46),fa 48 7 0,so 1 48 47] (ra 38 11) (e [fa 49 7 1,q 50 [55] (.ld false 1 49),m 51 1,m 52 9,ia 53 1 51 52,uu 54 1 53,o 55 (.b8 55 1 [54]),o 56 (.app 56 1 8 50 55),fa 57 7 1,so 1 57 56] (rl [9] 49 9)))))) (d [ad 58 29 k1,m 29 58] [58]))))
def MW:AFn:=⟨2,(sp [al 4 [.nil,.nil]] (sp [mv 5 k0] (s (sd [m 10 0,ln 11 10,mv 12 k0] [10] (b 0 (w MW.l1))) (sd [al 7 [.nil,.nil]] [11,12,13] (s (sd [m 27 0,ln 28 27,mv 29 k0] [27] (b 2 (w MW.l2))) (sd [tt 59 2 7,so 2 4 59] [0,1,5,7,28,29,30,59] .ret)))))),[.cell 4 true 2],false⟩
def K9.l1:=(sp [ls 25 24 23] (s (i 25 .skip (x 0)) (s (b 1 (sd [ia 26 1 22 24,uu 27 1 26,m 8 27] [25,26,27] (sd [m 28 8,ls 29 28 k0] [8,28] (i 29 (sd [mv 6 k1] [1,2,3,22,23,24,29] .ret) .skip)))) (d [ad 30 24 k1,m 24 30] [29,30]))))
def K9.l2:=(sp [ls 39 38 37] (s (i 39 .skip (x 2)) (s (b 3 (sd [ia 40 1 36 38,uu 41 1 40,m 10 41] [39,40,41] (sd [fa 42 3 0,tt 43 4 42,m 44 10,ca 45 5 [43,44],nt 46 45] (rl [10] 42 4) (i 46 (sd [mv 6 (k 17)] [2,3,36,37,38,46] .ret) .skip)))) (d [ad 47 38 k1,m 38 47] [46,47]))))
def K9.l3:=(sp [ls 51 50 49] (s (i 51 .skip (x 4)) (s (b 5 (sd [ia 52 1 48 50,uu 53 1 52,m 13 53] [51,52,53] (sd [m 54 11,m 55 13,bi 56 .mul (k 2) 55,ad 57 56 k1,bi 58 .mul 54 57,m 11 58] (rl [13] 54 5) (sd [m 59 11,bi 60 .gtr 59 (k 4096)] [59] (i 60 (sd [mv 6 (k 5)] [11,48,49,50,60] .ret) .skip))))) (d [ad 61 50 k1,m 50 61] [60,61]))))
def K9:AFn:=⟨3,(sd [bx 3 0,mv 6 k0] [0,6] (s (sd [tt 14 12 3,ca 15 21 [14],nt 16 15] [14,15] (i 16 (sd [mv 6 (k 2)] [1,2,3,16] .ret) .skip)) (s (sd [m 17 2,ln 18 17,fa 19 3 8,uu 20 1 19,bi 21 .neq 18 20] (ra 16 5) (i 21 (sd [mv 6 k1] [1,2,3,21] .ret) .skip)) (s (sd [m 22 2,ln 23 22,mv 24 k0] [21] (b 0 (w K9.l1))) (s (sd [fa 31 3 0,tt 32 4 31,m 33 1,ca 34 5 [32,33],nt 35 34] (rl [1,22,23,24,25] 31 4) (i 35 (sd [mv 6 (k 17)] [2,3,35] .ret) .skip)) (s (sd [m 36 2,ln 37 36,mv 38 k0] [35] (b 2 (w K9.l2))) (sd [mv 11 k1] (rl [3] 36 4) (s (sd [m 48 2,ln 49 48,mv 50 k0] [2] (b 4 (w K9.l3))) (sd [mv 6 k0] (rl [11] 48 4) .ret))))))))),[.tmp 6],false⟩
def MX.l2:=(s (sd [m 49 7,m 50 12,ia 51 1 49 50,uu 52 1 51,m 53 1,ca 54 424 [52,53],bi 55 .neq 54 k0] (ra 49 6) (i 55 .skip (x 2))) (b 3 (d [m 56 12,ad 57 56 k1,m 12 57] [55,56,57])))
def MX.l1:=(s (sd [m 24 1,m 25 0,o 26 (.mg 25),fa 27 26 13,uu 28 1 27,ca 29 425 [24,28]] (ra 24 5) (i 29 .skip (x 0))) (b 1 (sd [m 30 1,ca 31 432 [30],m 9 31] [29,30,31] (s (sd [m 33 0,o 34 (.mg 33),fa 35 34 14,uu 36 1 35,m 37 9,o 38 (.ru 36 37),m 32 38,et 39 32 0,et 40 32 1,m 10 39,m 11 40] (ra 32 9) (sd [m 41 11] [11] (i 41 (s (sd [m 42 10,m 43 0,o 44 (.mg 43),fa 45 44 15,uu 46 1 45,bi 47 .neq 42 46] (rl [0,9,10] 41 6) (i 47 (sd [o 48 (.build [.nil,.nil] []),so 2 4 48,mv 5 kf,mv 6 k0] [1,7,8,47,48] .ret) .skip)) (sd [mv 12 k0] [47] (s (b 2 (w MX.l2)) (se [m 58 7,m 59 12,o 60 (.iz 1 58 (some 59) none),m 61 8,m 62 12,o 63 (.iz 1 61 (some 62) none),ca 64 427 [60,63],so 2 4 64,mv 5 kt,mv 6 k0] (rl [1,7,8,12,55] 58 7) .ret)))) .skip))) (se [m 65 0,o 66 (.mg 65),fa 67 66 14,uu 68 1 67,m 69 9,m 70 0,o 71 (.mg 70),fa 72 71 15,uu 73 1 72,n (.qp 68 69 73)] (rl [9,10,41] 65 9) (se [m 75 0,o 76 (.mg 75),fa 77 76 0,tt 78 12 77,m 79 1,m 80 0,o 81 (.mg 80),fa 82 81 12,uu 83 1 82,ca 84 26 [78,79,83],m 74 84,et 85 74 0,et 86 74 1,et 87 74 2,et 88 74 3,m 13 85,m 14 86,m 15 87,m 16 88] (rl [15] 74 15) (s (sd [m 89 16,bi 90 .neq 89 k0] [89] (i 90 (sd [o 91 (.build [.nil,.nil] []),m 92 16,so 2 4 91,mv 5 kf,m 6 92] [0,1,7,8,13,14,16,90,91,92] .ret) .skip)) (sd [m 93 7,m 94 1,o 95 (.b8 431095 1 [94]),o 96 (.app 431096 1 24 93 95),m 7 96] (rl [1,16,90] 93 4) (sd [m 97 8,m 98 14,o 99 (.b8 431099 1 [98]),o 100 (.app 431100 1 8 97 99),m 8 100] (rl [14] 97 4) (d [m 101 13,m 1 101] [13,101]))))))))))
def MX:AFn:=⟨2,(sd [o 4 (.alloc 431004 [.nil,.nil]),mv 5 kf,mv 6 k0] [5,6] (sd [m 17 0,o 18 (.mg 17),fa 19 18 15,uu 20 1 19,ad 21 20 k1,o 22 (.mg 17),fa 23 22 15,so 1 23 21] (ra 17 7) (sp [o 7 (.ak 431007 1)] (sp [o 8 (.ak 431008 1)] (s (b 0 (w MX.l1)) (sd [o 102 (.build [.nil,.nil] []),so 2 4 102,mv 5 kf,mv 6 k0] [0,1,7,8,29,102] .ret)))))),[.cell 4 true 2,.tmp 5,.tmp 6],false⟩
def K8.l1:=(sp [ls 36 35 34] (s (i 36 .skip (x 0)) (s (b 1 (sd [m 37 35,ia 38 1 33 35,uu 39 1 38,m 11 37,m 12 39] (ra 36 4) (d [m 40 10,m 41 11,m 42 12,o 43 (.un .neg 42),ia 44 1 40 41,so 1 44 43] (rl [11,12] 40 5)))) (d [ad 45 35 k1,m 35 45] [45]))))
def K8.l2:=(s (sd [m 46 14] [14] (i 46 .skip (x 2))) (s (b 3 (sd [o 51 (.b8 51 1 []),m 52 10,o 53 (.oa 1 8 51 52),o 54 (.j6 431 [9,53]),m 50 54,et 55 50 0,et 56 50 1,et 57 50 2,al 15 [.nil,.nil],so 2 15 55,m 16 56,m 17 57] (rl [46] 50 8) (s (sd [m 58 17,bi 59 .neq 58 k0] [58] (i 59 (sd [m 60 17,mv 6 (.c .nil),m 7 60] [2,9,10,13,15,16,17,59,60] .ret) .skip)) (sd [m 61 16] [16,17,59] (i 61 (d [m 62 13,tt 63 2 15,o 64 (.b8 64 2 [63]),o 65 (.app 65 2 48 62 64),m 13 65] (rl [15] 61 5)) .skip))))) (d [m 47 10,m 48 2,o 49 (.j6 426 [47,48]),m 14 49] [15,47,48,49,61])))
def K8:AFn:=⟨3,(sd [bx 3 0,mv 6 (.c .nil),mv 7 k0] [0,6,7] (s (sd [tt 18 12 3,m 19 1,m 20 2,ca 21 428 [18,19,20],m 8 21] (ra 18 4) (sd [m 22 8,bi 23 .neq 22 k0] [22] (i 23 (sd [m 24 8,mv 6 (.c .nil),m 7 24] [1,2,3,8,23,24] .ret) .skip))) (sd [tt 25 12 3,m 26 1,m 27 2,o 28 (.qo 960028),o 29 (.build [z,z,z,z,z,z,z,z,z,.nil,.nil,z,z,.nil,(.y8 (.map none)),z] [(0,12,25),(12,1,26),(13,1,27),(14,1,28)]),al 9 [z,z,z,z,z,z,z,z,z,.nil,.nil,z,z,.nil,(.y8 (.map none)),z],so 16 9 29] (rl [1,3,8,23] 25 5) (sd [m 30 2,ln 31 30,o 32 (.mk 32 1 8 [z] 31 31),m 10 32] [30,31,32] (s (sp [m 33 2,ln 34 33,mv 35 k0] (b 0 (w K8.l1))) (sd [o 13 (.ak 13 2)] (ra 33 4) (s (sp [mv 14 kt] (b 2 (w K8.l2))) (sd [m 66 13,o 67 (.fm 434 435 2 66 (.c (.fn true 435 xi [])))] [2,9,10,46,66,67] (sd [m 68 13,m 6 68,mv 7 k0] [13,68] .ret))))))))),[.tmp 6,.tmp 7],false⟩
def S0:AFn:=⟨2,(sd [bx 2 0,bx 3 1,mv 4 k0] [0,1,4] (se [fa 5 2 0,uu 6 1 5,ia 7 1 6 k0,uu 8 1 7,fa 9 3 0,uu 10 1 9,ia 11 1 10 k0,uu 12 1 11,ca 13 424 [8,12],m 4 13] (rl [2,3] 5 9) .ret)),[.tmp 4],false⟩
def MU.l1:=(sp [ls 26 25 (k 4097)] (s (i 26 .skip (x 0)) (s (b 1 (sd [m 27 25,m 13 27] [26,27] (sd [tt 29 12 3,m 30 12,m 31 2,ca 32 26 [29,30,31],m 28 32,et 33 28 0,et 34 28 1,et 35 28 2,et 36 28 3,m 14 33,m 15 34,m 16 35,m 17 36] (rl [16] 28 9) (s (sd [m 37 17,bi 38 .neq 37 k0] [37] (i 38 (sd [o 39 (.build [.nil,.nil] []),m 40 17,so 2 6 39,mv 7 k0,m 8 40] [2,3,9,10,11,12,13,14,15,17,25,38,39,40] .ret) .skip)) (sd [m 41 12,ca 42 432 [41],m 18 42] [17,38,41,42] (s (sd [m 44 9,m 45 18,o 46 (.ru 44 45),m 43 46,et 47 43 0,et 48 43 1,m 19 47,m 20 48] (ra 43 6) (sd [m 49 20] [20] (i 49 (se [m 50 10,m 51 19,o 52 (.iz 1 50 (some 51) none),m 53 11,m 54 19,o 55 (.iz 1 53 (some 54) none),ca 56 427 [52,55],m 57 19,so 2 6 56,m 7 57,mv 8 k0] (rl [2,3,9,10,11,12,13,14,15,18,19,25] 49 9) .ret) .skip))) (sd [m 58 9,m 59 18,m 60 13,n (.qp 58 59 60)] [13,18,19,49,58,59,60] (sd [m 61 10,m 62 12,o 63 (.b8 63 1 [62]),o 64 (.app 64 1 24 61 63),m 10 64] (rl [12] 61 4) (sd [m 65 11,m 66 15,o 67 (.b8 67 1 [66]),o 68 (.app 68 1 8 65 67),m 11 68] (rl [15] 65 4) (d [m 69 14,m 12 69] [14,69])))))))))) (d [ad 70 25 k1,m 25 70] [70]))))
def MU:AFn:=⟨3,(sd [bx 3 0,al 6 [.nil,.nil],mv 7 k0,mv 8 k0] [0,7,8] (sd [o 21 (.qo 960021),m 9 21] [21] (sp [o 10 (.ak 10 1)] (sp [o 11 (.ak 11 1)] (sd [o 22 (.b8 22 1 []),m 23 1,o 24 (.oa 1 8 22 23),m 12 24] [1,22,23,24] (s (sp [mv 25 k0] (b 0 (w MU.l1))) (sd [o 71 (.build [.nil,.nil] []),so 2 6 71,mv 7 k0,mv 8 (k 16)] [2,3,9,10,11,12,25,26,71] .ret))))))),[.cell 6 true 2,.tmp 7,.tmp 8],false⟩
def P8.l1:=(s (sd [m 6 5,m 7 0,ln 8 7,ls 9 6 8] [6,7,8] (i 9 .skip (x 0))) (s (b 1 (se [m 12 0,m 13 5,ia 14 1 12 13,uu 15 1 14,m 16 1,m 17 5,ia 18 1 16 17,uu 19 1 18,bi 20 .neq 15 19] (rl [9] 12 8) (i 20 (se [m 21 0,m 22 5,ia 23 1 21 22,uu 24 1 23,m 25 1,m 26 5,ia 27 1 25 26,uu 28 1 27,ls 29 24 28,m 4 29] (rl [0,1,5] 20 10) .ret) .skip))) (d [m 10 5,ad 11 10 k1,m 5 11] [10,11,20])))
def P8:AFn:=⟨2,(sd [mv 4 kf] [4] (s (sp [mv 5 k0] (b 0 (w P8.l1))) (sd [mv 4 kf] [0,1,5,9] .ret))),[.tmp 4],false⟩
structure s9(L:Lib):Prop extends c6 L,k9 L,gx L,x9 L where
 QH:L 424=some F.QH
 OV:L 425=some F.OV
 MY:L 426=some F.MY
 MW:L 427=some F.MW
 K9:L 428=some F.K9
 MX:L 431=some F.MX
 K8:L 433=some F.K8
 S0:L 435=some F.S0
 MU:L 436=some F.MU
 P8:L 429=some F.P8
def SZ:AFn:=⟨0,(sd [mv 0 kf] [0] (sd [o 5 (.build [z,z,z,z] [(0,1,(k 6)),(1,1,k0),(2,1,k1),(3,1,k1)]),al 1 [z,z,z,z],so 4 1 5] [5] (sd [tt 6 4 1,tt 7 4 1,o 8 (.build [z,z] [(0,1,k1),(1,1,(k (-1)))]),o 9 (.b8 9 2 [8]),o 10 (.build [.nil] [(0,1,9)]),o 11 (.b8 11 1 [10]),o 12 (.b8 12 1 [(k 2)]),o 13 (.build [z,z,z,z,z,z,z,z,z,.nil,.nil,z] [(0,4,6),(4,4,7),(8,1,k1),(9,1,11),(10,1,12),(11,1,(k 2))]),al 2 [z,z,z,z,z,z,z,z,z,.nil,.nil,z],so 12 2 13] (rl [1] 6 8) (sd [tt 15 12 2,o 16 (.b8 16 1 [k1]),ca 17 433 [15,k0,16],m 14 17,et 18 14 0,et 19 14 1,m 3 18,m 4 19] (rl [2] 14 6) (sd [m 20 4,bi 21 .eql 20 k0,m 22 21,g 23 22 true (.q9 3),g 24 22 true (.len 23),g 25 22 true (.bin .eql 24 (k 2)),pk 26 22 25 kf,m 27 26,g 28 27 true (.q9 3),g 29 27 true (.u4 none 2 28 k0),g 30 27 true (.o4 29 0),g 31 27 true (.ld false 1 30),g 32 27 true (.len 31),g 33 27 true (.bin .eql 32 (k 2)),pk 34 27 33 kf,m 35 34,g 36 35 true (.q9 3),g 37 35 true (.u4 none 2 36 k1),g 38 35 true (.o4 37 0),g 39 35 true (.ld false 1 38),g 40 35 true (.len 39),g 41 35 true (.bin .eql 40 k1),pk 42 35 41 kf,m 43 42,g 44 43 true (.q9 3),g 45 43 true (.u4 none 2 44 k0),g 46 43 true (.o4 45 0),g 47 43 true (.ld false 1 46),g 48 43 true (.u4 none 1 47 k0),g 49 43 true (.ld false 1 48),g 50 43 true (.b8 50 1 [(k (-1))]),g 51 43 true (.call 20 [49,50]),pk 52 43 51 kf,m 53 52,g 54 53 true (.q9 3),g 55 53 true (.u4 none 2 54 k0),g 56 53 true (.o4 55 1),g 57 53 true (.ld false 1 56),g 58 53 true (.b8 58 1 [k1,(k (-1))]),g 59 53 true (.call 20 [57,58]),pk 60 53 59 kf,m 0 60] (rl [3,4] 20 41) .ret))))),[.tmp 0],false⟩
structure du(L:Lib):Prop extends s9 L where
 SZ:L 437=some F.SZ
def QC.l1:=(s (sd [m 6 5,m 7 0,ln 8 7,ls 9 6 8] [6,7,8] (i 9 .skip (x 0))) (s (b 1 (se [m 12 0,m 13 5,ia 14 1 12 13,uu 15 1 14,m 16 1,m 17 5,ia 18 1 16 17,uu 19 1 18,bi 20 .gtr 15 19,m 21 20,g 22 21 false (.q9 0),g 23 21 false (.q9 5),g 24 21 false (.u4 none 1 22 23),g 25 21 false (.ld false 1 24),g 26 21 false (.q9 1),g 27 21 false (.q9 5),g 28 21 false (.u4 none 1 26 27),g 29 21 false (.ld false 1 28),g 30 21 false (.un .neg 29),g 31 21 false (.bin .lss 25 30),pk 32 21 kt 31] (rl [9] 12 20) (i 32 (sd [mv 4 kf] [0,1,5,32] .ret) .skip))) (d [m 10 5,ad 11 10 k1,m 5 11] [10,11,32])))
def QC:AFn:=⟨2,(sd [mv 4 kf] [4] (s (sp [mv 5 k0] (b 0 (w QC.l1))) (sd [mv 4 kt] [0,1,5,9] .ret))),[.tmp 4],false⟩
def P9.l1:=(s (sd [m 5 4,m 6 0,ln 7 6,ls 8 5 7] [5,6,7] (i 8 .skip (x 0))) (s (b 1 (sd [m 11 3,m 12 0,m 13 4,ia 14 1 12 13,uu 15 1 14,bi 16 .mul (k 2) 15,ad 17 16 k1,bi 18 .mul 11 17,m 3 18] (rl [8] 11 8) (sd [m 19 3,bi 20 .gtr 19 (k 4096)] [19] (i 20 (sd [mv 2 (k 4097)] [0,3,4,20] .ret) .skip)))) (d [m 9 4,ad 10 9 k1,m 4 10] [9,10,20])))
def P9:AFn:=⟨1,(sd [mv 2 k0] [2] (sp [mv 3 k1] (s (sp [mv 4 k0] (b 0 (w P9.l1))) (sd [m 21 3,m 2 21] [0,3,4,8,21] .ret)))),[.tmp 2],false⟩
def QD.l1:=(s (sd [m 13 6,bi 14 .geq 13 k0] [13] (i 14 .skip (x 0))) (s (b 1 (se [m 17 5,m 18 6,m 19 0,m 20 1,m 21 6,ia 22 1 20 21,uu 23 1 22,bi 24 .mul (k 2) 23,ad 25 24 k1,bi 26 .rem 19 25,m 27 1,m 28 6,ia 29 1 27 28,uu 30 1 29,sb 31 26 30,ia 32 1 17 18,so 1 32 31] (rl [14] 17 16) (d [m 33 0,m 34 1,m 35 6,ia 36 1 34 35,uu 37 1 36,bi 38 .mul (k 2) 37,ad 39 38 k1,bi 40 .quo 33 39,m 0 40] (ra 33 8)))) (d [m 15 6,sb 16 15 k1,m 6 16] [15,16])))
def QD:AFn:=⟨2,(sd [mv 4 (.c .nil)] [4] (sd [m 7 1,ln 8 7,o 9 (.mk 9 1 8 [z] 8 8),m 5 9] [7,8,9] (s (sd [m 10 1,ln 11 10,sb 12 11 k1,m 6 12] [10,11,12] (b 0 (w QD.l1))) (sd [m 41 5,m 4 41] [0,1,5,6,14,41] .ret)))),[.tmp 4],false⟩
def QB.l1:=(s (sd [m 7 6,m 8 1,ln 9 8,ls 10 7 9] [7,8,9] (i 10 .skip (x 0))) (s (b 1 (e [m 13 5,m 14 1,m 15 6,ia 16 1 14 15,uu 17 1 16,bi 18 .mul (k 2) 17,ad 19 18 k1,bi 20 .mul 13 19,m 21 0,m 22 6,ia 23 1 21 22,uu 24 1 23,ad 25 20 24,m 26 1,m 27 6,ia 28 1 26 27,uu 29 1 28,ad 30 25 29,m 5 30] (rl [10] 13 18))) (d [m 11 6,ad 12 11 k1,m 6 12] [11,12])))
def QB:AFn:=⟨2,(sd [mv 4 k0] [4] (sp [mv 5 k0] (s (sp [mv 6 k0] (b 0 (w QB.l1))) (sd [m 31 5,m 4 31] [0,1,5,6,10,31] .ret)))),[.tmp 4],false⟩
def QA.l1:=(s (sd [fa 15 7 0,uu 16 1 15,ln 17 16,bi 18 .eql 17 k0,m 19 18,g 20 19 false (.q9 8),g 21 19 false (.q9 2),g 22 19 false (.call 20 [20,21]),g 23 19 false (.un .not 22),pk 24 19 kt 23] (ra 15 9) (i 24 .skip (x 0))) (b 1 (sd [tt 26 12 3,m 27 8,m 28 1,ca 29 30 [26,27,28],m 25 29,et 30 25 0,et 31 25 1,et 32 25 2,et 33 25 3,m 9 30,m 10 31,m 11 32,m 12 33] (rl [11,12] 24 10) (se [fa 34 7 0,uu 35 1 34,m 36 8,o 37 (.lit 1 [36]),o 38 (.dw 38 1 24 35 37),fa 39 7 1,q 40 [38] (.ld false 1 39),m 41 10,o 42 (.lit 1 [41]),o 43 (.app 43 1 8 40 42),fa 44 7 0,so 1 44 38,fa 45 7 1,so 1 45 43] (rl [8,10] 34 12) (d [m 46 9,m 8 46] [9,46])))))
def QA:AFn:=⟨3,(sd [bx 3 0,al 6 [.nil,.nil]] [0] (sd [o 13 (.build [.nil,.nil] []),al 7 [.nil,.nil],so 2 7 13] [13] (sd [m 14 2,m 8 14] [14] (s (b 0 (w QA.l1)) (sd [tt 47 2 7,so 2 6 47] [1,2,3,7,8,24,47] .ret))))),[.cell 6 true 2],false⟩
def GT.l1:=(s (sd [m 32 8,m 33 2,ln 34 33,ls 35 32 34] [32,33,34] (i 35 .skip (x 0))) (s (b 1 (sd [m 38 2,m 39 8,ia 40 1 38 39,uu 41 1 40,ls 42 41 k0] (rl [35] 38 4) (i 42 (sd [mv 6 (.c .nil),mv 7 k1] [1,2,3,8,42] .ret) .skip))) (d [m 36 8,ad 37 36 k1,m 8 37] [36,37,42])))
def GT.l2:=(s (sd [m 59 11,m 60 9,ls 61 59 60] [59,60] (i 61 .skip (x 2))) (s (b 3 (se [tt 65 12 3,m 66 11,m 67 2,ca 68 444 [66,67],m 69 1,ca 70 30 [65,68,69],m 64 70,et 71 64 0,et 72 64 1,et 73 64 2,et 74 64 3,m 12 71,m 13 72,m 14 73,m 15 74] (rl [13,14,15,61] 64 11) (sd [m 75 12,m 76 2,ca 77 442 [75,76]] [75,76] (i 77 (d [m 78 10,m 79 12,m 80 2,ca 81 445 [79,80],o 82 (.b8 82 1 [81]),o 83 (.app 83 1 8 78 82),m 10 83] (rl [12] 77 7)) (d [m 84 10,o 85 (.b8 85 1 [(k (-1))]),o 86 (.app 86 1 8 84 85),m 10 86] [12,77,84,85,86]))))) (d [m 62 11,ad 63 62 k1,m 11 63] [62,63])))
def GT.l4:=(s (sd [m 95 19,bi 96 .geq 95 k0,m 97 96,g 98 97 true (.q9 17),g 99 97 true (.q9 19),g 100 97 true (.u4 none 1 98 99),g 101 97 true (.ld false 1 100),g 102 97 true (.bin .eql 101 k0),pk 103 97 102 kf] (ra 95 8) (i 103 .skip (x 6))) (b 7 (sd [m 104 17,m 105 19,m 106 18,ad 107 106 k1,ia 108 1 104 105,so 1 108 107] (ra 103 6) (d [m 109 10,m 110 19,ia 111 1 109 110,uu 112 1 111,m 19 112] (ra 109 4)))))
def GT.l5:=(s (sd [m 129 21,m 130 19,bi 131 .neq 129 130] [129,130] (i 131 .skip (x 8))) (s (b 9 (d [m 136 20,m 137 21,o 138 (.mm false [136,137]),m 20 138] [131,136,137,138])) (d [m 132 10,m 133 21,ia 134 1 132 133,uu 135 1 134,m 21 135] (ra 132 4))))
def GT.l3:=(s (sd [m 89 18,m 90 9,ls 91 89 90] [89,90] (i 91 .skip (x 4))) (s (b 5 (sd [m 94 18,m 19 94] [91,94] (s (b 6 (w GT.l4)) (s (sd [m 113 19,ls 114 113 k0,m 115 114,g 116 115 false (.q9 17),g 117 115 false (.q9 19),g 118 115 false (.u4 none 1 116 117),g 119 115 false (.ld false 1 118),g 120 115 false (.q9 18),g 121 115 false (.bin .add 120 k1),g 122 115 false (.bin .neq 119 121),pk 123 115 kt 122] (rl [103] 113 10) (i 123 (x 5) .skip)) (sd [m 124 19,m 20 124] [123,124] (s (sd [m 125 10,m 126 19,ia 127 1 125 126,uu 128 1 127,m 21 128] (ra 125 4) (b 8 (w GT.l5))) (e [m 139 16,tt 140 12 3,m 141 1,m 142 20,m 143 2,ca 144 444 [142,143],ca 145 446 [140,141,144],o 146 (.b8 146 2 [145]),o 147 (.app 147 2 48 139 146),m 16 147] (rl [19,20,21,131] 139 9)))))))) (d [m 92 18,ad 93 92 k1,m 18 93] [19,92,93,123])))
def GT.l7:=(s (se [m 155 23,bi 156 .gtr 155 k0,m 157 156,g 158 157 true (.q9 16),g 159 157 true (.q9 23),g 160 157 true (.u4 none 2 158 159),g 161 157 true (.o4 160 0),g 162 157 true (.ld false 1 161),g 163 157 true (.u4 none 1 162 k0),g 164 157 true (.ld false 1 163),g 165 157 true (.q9 16),g 166 157 true (.q9 23),g 167 157 true (.bin .sub 166 k1),g 168 157 true (.u4 none 2 165 167),g 169 157 true (.o4 168 0),g 170 157 true (.ld false 1 169),g 171 157 true (.u4 none 1 170 k0),g 172 157 true (.ld false 1 171),g 173 157 true (.call 429 [164,172]),pk 174 157 173 kf] (ra 155 19) (i 174 .skip (x 12))) (s (b 13 (e [m 177 16,m 178 23,m 179 16,m 180 23,sb 181 180 k1,m 182 16,m 183 23,sb 184 183 k1,ia 185 2 182 184,tt 186 2 185,m 187 16,m 188 23,ia 189 2 187 188,tt 190 2 189,ia 191 2 177 178,so 2 191 186,ia 192 2 179 181,so 2 192 190] (rl [174] 177 16))) (d [m 175 23,sb 176 175 k1,m 23 176] [175,176])))
def GT.l6:=(s (sd [m 148 22,m 149 16,ln 150 149,ls 151 148 150] [148,149,150] (i 151 .skip (x 10))) (s (b 11 (sd [m 154 22,m 23 154] [151,154] (b 12 (w GT.l7)))) (d [m 152 22,ad 153 152 k1,m 22 153] [23,152,153,174])))
def GT:AFn:=⟨3,(sd [bx 3 0,mv 6 (.c .nil),mv 7 k0] [0,6,7] (s (sd [tt 24 12 3,ca 25 27 [24],nt 26 25] [24,25] (i 26 (sd [mv 6 (.c .nil),mv 7 (k 2)] [1,2,3,26] .ret) .skip)) (s (sd [m 27 2,ln 28 27,fa 29 3 8,uu 30 1 29,bi 31 .neq 28 30] (ra 26 5) (i 31 (sd [mv 6 (.c .nil),mv 7 k1] [1,2,3,31] .ret) .skip)) (s (sd [mv 8 k0] [31] (b 0 (w GT.l1))) (s (sd [fa 43 3 0,tt 44 4 43,m 45 1,ca 46 14 [44,45],nt 47 46,m 48 47,g 49 48 false (.o4 3 0),g 50 48 false (.ld true 4 49),g 51 48 false (.q9 2),g 52 48 false (.call 19 [50,51]),g 53 48 false (.un .not 52),pk 54 48 kt 53] (rl [8,35] 43 11) (i 54 (sd [mv 6 (.c .nil),mv 7 (k 17)] [1,2,3,54] .ret) .skip)) (sd [m 55 2,ca 56 443 [55],m 9 56] [54,55,56] (s (sd [m 57 9,bi 58 .gtr 57 (k 4096)] [57] (i 58 (sd [mv 6 (.c .nil),mv 7 (k 5)] [1,2,3,9,58] .ret) .skip)) (sd [o 10 (.ak 10 1)] [58] (s (sp [mv 11 k0] (b 2 (w GT.l2))) (sd [o 16 (.ak 16 2)] [11,61] (sd [m 87 9,o 88 (.mk 88 1 8 [z] 87 87),m 17 88] [87,88] (s (sp [mv 18 k0] (b 4 (w GT.l3))) (s (sd [mv 22 k0] [1,2,3,9,10,17,18,91] (b 10 (w GT.l6))) (sd [m 193 16,m 6 193,mv 7 k0] [16,22,151,193] .ret)))))))))))))),[.tmp 6,.tmp 7],false⟩
def J1.l3:=(s (sd [m 70 20,m 71 13,ln 72 71,ls 73 70 72] [70,71,72] (i 73 .skip (x 4))) (s (b 5 (sd [m 76 13,m 77 20,ia 78 1 76 77,uu 79 1 78,m 80 19,ca 81 429 [79,80]] (rl [73] 76 5) (i 81 (d [m 82 13,m 83 20,ia 84 1 82 83,uu 85 1 84,m 19 85] (ra 81 5)) .skip))) (d [m 74 20,ad 75 74 k1,m 20 75] [74,75,81])))
def J1.l2:=(s (sd [m 55 18,m 56 13,ln 57 56,ls 58 55 57] [55,56,57] (i 58 .skip (x 2))) (s (b 3 (s (sd [m 61 13,m 62 18,ia 63 1 61 62,uu 64 1 63,m 65 14,ca 66 20 [64,65],nt 67 66] (rl [58] 61 6) (i 67 (x 3) .skip)) (sd [m 68 14,m 19 68] [14,67,68] (s (sd [m 69 18,m 20 69] [69] (b 4 (w J1.l3))) (sd [tt 86 12 3,m 87 2,m 88 19,ca 89 446 [86,87,88],m 90 18,so 2 6 89,m 7 90,mv 8 k0] (rl [2,3,13,18,19,20,73] 86 5) .ret))))) (d [m 59 18,ad 60 59 k1,m 18 60] [59,60,67])))
def J1.l1:=(s (sd [m 38 13,ln 39 38,bi 40 .leq 39 (k 4096)] [38,39] (i 40 .skip (x 0))) (b 1 (se [tt 42 12 3,m 43 13,m 44 13,ln 45 44,sb 46 45 k1,ia 47 1 43 46,uu 48 1 47,m 49 2,ca 50 30 [42,48,49],m 41 50,et 51 41 0,et 52 41 1,et 53 41 2,et 54 41 3,m 14 51,m 15 52,m 16 53,m 17 54] (rl [15,16,17] 40 15) (s (sp [mv 18 k0] (b 2 (w J1.l2))) (d [m 91 13,m 92 14,o 93 (.b8 93 1 [92]),o 94 (.app 94 1 24 91 93),m 13 94] (rl [14,18,58] 91 4))))))
def J1:AFn:=⟨3,(sd [bx 3 0,al 6 [.nil,.nil],mv 7 k0,mv 8 k0] [0,7,8] (s (sd [tt 22 12 3,m 23 1,m 24 2,ca 25 30 [22,23,24],m 21 25,et 26 21 0,et 27 21 1,et 28 21 2,et 29 21 3,m 9 26,m 10 27,m 11 28,m 12 29] (rl [9,10,11] 21 9) (sd [m 30 12,bi 31 .neq 30 k0] [30] (i 31 (sd [o 32 (.build [.nil,.nil] []),m 33 12,so 2 6 32,mv 7 k0,m 8 33] [1,2,3,12,31,32,33] .ret) .skip))) (sd [o 34 (.b8 34 1 []),m 35 1,o 36 (.oa 1 8 34 35),o 37 (.b8 37 1 [36]),m 13 37] (rl [1,12,31] 34 4) (s (b 0 (w J1.l1)) (sd [o 95 (.build [.nil,.nil] []),so 2 6 95,mv 7 k0,mv 8 (k 16)] [2,3,13,40,95] .ret))))),[.cell 6 true 2,.tmp 7,.tmp 8],false⟩
structure w8(L:Lib):Prop extends s9 L where
 QC:L 442=some F.QC
 P9:L 443=some F.P9
 QD:L 444=some F.QD
 QB:L 445=some F.QB
 QA:L 446=some F.QA
 GT:L 447=some F.GT
 J1:L 448=some F.J1
def CS:AFn:=⟨2,(sp [o 4 (.alloc 83004 [(.bool false),.nil])] (sd [m 5 0,m 6 5,g 7 6 true (.q9 1),g 8 6 true (.len 7),g 9 6 true (.bin .gtr 8 k0),pk 10 6 9 kf,m 11 1,o 12 (.build [(.bool false),.nil] [(0,1,10),(1,1,11)]),so 2 4 12] (rl [0,1] 5 8) .ret)),[.cell 4 true 2],false⟩
def SX:AFn:=⟨1,(sd [bx 1 0,al 2 [(.bool false),.nil]] [0] (se [fa 3 1 0,uu 4 1 3,fa 5 1 1,uu 6 1 5,ca 7 66 [6],o 8 (.j6 83 [4,7]),so 2 2 8] (rl [1] 3 6) .ret)),[.cell 2 true 2],false⟩
def SV:AFn:=⟨1,(sp [al 2 [(.bool false),.nil]] (sd [m 4 0,cu 5 4,m 3 5] [4,5] (s (sd [m 6 0,ls 7 6 k0] [6] (i 7 (d [m 8 3,o 9 (.un .neg 8),m 3 9] [7,8,9]) .skip)) (sd [m 10 0,ls 11 10 k0,m 12 3,o 13 (.conv .u32 12),m 14 3,bi 15 .shr 14 (.c (.int .u64 (32))),o 16 (.conv .u32 15),o 17 (.b8 17 1 [13,16]),ca 18 66 [17],o 19 (.j6 83 [11,18]),so 2 2 19] (rl [0,3,7] 10 10) .ret)))),[.cell 2 true 2],false⟩
def SW:AFn:=⟨1,(sd [bx 1 0,mv 2 k0] [0,2] (s (b 0 (sd [fa 4 1 1,uu 5 1 4,ca 6 67 [5,(.c .nil)],bi 7 .eql 6 k0,m 3 7] (ra 4 4) (i 3 (sd [mv 2 k0] [1,3] .ret) (sd [fa 9 1 0,uu 10 1 9,m 8 10] [1,3,9,10] (i 8 (sd [mv 2 (k (-1))] [8] .ret) .skip))))) (sd [mv 2 k1] [8] .ret))),[.tmp 2],false⟩
def SR:AFn:=⟨2,(sd [bx 2 0,bx 3 1,al 4 [(.bool false),.nil]] [0,1] (s (sd [fa 5 2 0,uu 6 1 5,fa 7 3 0,uu 8 1 7,o 9 (.beq false 6 8)] (ra 5 4) (i 9 (se [fa 10 2 0,uu 11 1 10,fa 12 2 1,uu 13 1 12,fa 14 3 1,uu 15 1 14,ca 16 68 [13,15],o 17 (.j6 83 [11,16]),so 2 4 17] (rl [2,3] 9 9) .ret) .skip)) (s (sd [fa 18 2 1,uu 19 1 18,fa 20 3 1,uu 21 1 20,ca 22 67 [19,21],bi 23 .eql 22 (k (-1))] (rl [9] 18 5) (i 23 (se [fa 24 3 0,uu 25 1 24,fa 26 3 1,uu 27 1 26,fa 28 2 1,uu 29 1 28,ca 30 69 [27,29],o 31 (.j6 83 [25,30]),so 2 4 31] (rl [2,3] 23 9) .ret) .skip)) (se [fa 32 2 0,uu 33 1 32,fa 34 2 1,uu 35 1 34,fa 36 3 1,uu 37 1 36,ca 38 69 [35,37],o 39 (.j6 83 [33,38]),so 2 4 39] (rl [2,3,23] 32 8) .ret)))),[.cell 4 true 2],false⟩
def SU:AFn:=⟨2,(sd [bx 2 0,bx 3 1,al 4 [(.bool false),.nil]] [0,1] (se [fa 5 2 0,uu 6 1 5,fa 7 3 0,uu 8 1 7,o 9 (.beq true 6 8),fa 10 2 1,uu 11 1 10,fa 12 3 1,uu 13 1 12,ca 14 70 [11,13],o 15 (.j6 83 [9,14]),so 2 4 15] (rl [2,3] 5 11) .ret)),[.cell 4 true 2],false⟩
def NH:AFn:=⟨1,(sd [bx 1 0,al 2 [(.bool false),.nil,.nil,(.bool false)]] [0] (s (sd [fa 3 1 2,uu 4 1 3,ln 5 4,bi 6 .eql 5 k1,m 7 6,g 8 7 true (.o4 1 2),g 9 7 true (.ld false 1 8),g 10 7 true (.u4 none 1 9 k0),g 11 7 true (.ld false 1 10),g 12 7 true (.bin .eql 11 (.c (.int .u32 (1)))),pk 13 7 12 kf] (ra 3 10) (i 13 (sd [fa 14 1 0,tt 15 2 14,fa 16 1 2,uu 17 1 16,o 18 (.build z3 [(0,2,15),(2,1,17)]),o 19 (.build [(.bool false),.nil,.nil,(.bool false)] [(0,3,18),(3,1,kt)]),so 4 2 19] (rl [1] 13 7) .ret) .skip)) (s (sd [fa 20 1 2,uu 21 1 20,ca 22 67 [21,(.c .nil)],bi 23 .eql 22 k0] [13,20,21,22] (i 23 (sd [o 24 (.build [(.bool false),.nil] []),o 25 (.b8 25 1 [(.c (.int .u32 (1)))]),o 26 (.build z3 [(0,2,24),(2,1,25)]),o 27 (.build [(.bool false),.nil,.nil,(.bool false)] [(0,3,26),(3,1,kt)]),so 4 2 27] (rl [1] 23 5) .ret) .skip)) (sd [fa 28 1 0,tt 29 2 28,fa 30 1 2,uu 31 1 30,o 32 (.build z3 [(0,2,29),(2,1,31)]),o 33 (.build [(.bool false),.nil,.nil,(.bool false)] [(0,3,32),(3,1,kf)]),so 4 2 33] (rl [1,23] 28 6) .ret)))),[.cell 2 true 4],false⟩
def TT:AFn:=⟨1,(sd [mv 2 kf] [2] (sd [m 3 0,ln 4 3,bi 5 .eql 4 k1,m 6 5,g 7 6 true (.q9 0),g 8 6 true (.u4 none 1 7 k0),g 9 6 true (.ld false 1 8),g 10 6 true (.bin .eql 9 (.c (.int .u32 (1)))),pk 11 6 10 kf,m 2 11] (rl [0] 3 9) .ret)),[.tmp 2],false⟩
def TU:AFn:=⟨1,(sp [al 2 [(.bool false),.nil]] (sd [m 3 0,o 4 (.build [(.bool false),.nil] [(1,1,3)]),so 2 2 4] [0,3,4] .ret)),[.cell 2 true 2],false⟩
def LG:AFn:=⟨1,(sd [o 1 (.box 92001 0),o 2 (.alloc 92002 z3)] [0] (sd [tt 3 2 1,o 4 (.b8 92004 1 [(.c (.int .u32 (1)))]),o 5 (.build z3 [(0,2,3),(2,1,4)]),so 3 2 5] [1,3,4,5] .ret)),[.cell 2 true 3],false⟩
def PL:AFn:=⟨2,(sd [o 2 (.box 93002 0),o 3 (.box 93003 1),o 4 (.alloc 93004 z3)] [0,1] (sd [fa 5 2 0,uu 6 1 5,fa 7 3 0,uu 8 1 7,o 9 (.beq true 6 8),fa 10 2 1,uu 11 1 10,o 12 (.build [(.bool false),.nil] [(0,1,9),(1,1,11)]),fa 13 3 1,uu 14 1 13,o 15 (.build z3 [(0,2,12),(2,1,14)]),so 3 4 15] (rl [2,3] 5 11) .ret)),[.cell 4 true 3],false⟩
def TV:AFn:=⟨1,(sd [bx 1 0,al 2 z3] [0] (sd [fa 14 1 0,fa 15 14 1,uu 16 1 15,fa 17 1 2,uu 18 1 17,ca 19 75 [16,18],m 13 19,et 20 13 0,et 21 13 1,et 22 13 2,m 3 20,m 4 21,m 5 22] (rl [5] 13 10) (s (sd [m 23 4,ln 24 23,bi 25 .eql 24 k0] [23,24] (i 25 (sd [fa 26 1 0,fa 27 26 0,uu 28 1 27,m 29 3,o 30 (.build [(.bool false),.nil] [(0,1,28),(1,1,29)]),ca 31 84 [30],o 32 (.j6 92 [31]),so 3 2 32] (rl [1,3,4] 25 8) .ret) .skip)) (sd [fa 33 1 2,uu 34 1 33,m 35 4,ca 36 82 [34,35],m 6 36] (rl [3,4,25] 33 4) (s (sd [m 37 6,ca 38 90 [37]] [37] (i 38 (se [fa 39 1 0,tt 40 2 39,ca 41 84 [40],fa 42 1 2,uu 43 1 42,ca 44 66 [43],o 45 (.build z3 [(0,2,41),(2,1,44)]),so 3 2 45] (rl [1,6] 38 8) .ret) .skip)) (sd [fa 47 1 0,fa 48 47 1,uu 49 1 48,m 50 6,ca 51 75 [49,50],m 46 51,et 52 46 0,et 53 46 1,et 54 46 2,m 7 52,m 8 53,m 9 54] (rl [8,9,38] 46 9) (sd [fa 56 1 2,uu 57 1 56,m 58 6,ca 59 75 [57,58],m 55 59,et 60 55 0,et 61 55 1,et 62 55 2,m 10 60,m 11 61,m 12 62] (rl [6,11,12] 55 8) (sd [fa 63 1 0,fa 64 63 0,uu 65 1 64,m 66 7,o 67 (.build [(.bool false),.nil] [(0,1,65),(1,1,66)]),m 68 10,o 69 (.build z3 [(0,2,67),(2,1,68)]),so 3 2 69] (rl [1,7,10] 63 7) .ret)))))))),[.cell 2 true 3],false⟩
def TR:AFn:=⟨1,(sd [bx 1 0,al 2 z3] [0] (sd [tt 3 3 1,o 4 (.o8 89 [3]),o 5 (.og 4 0 3 true),ca 6 94 [5],so 3 2 6] [1,3,4,5,6] .ret)),[.cell 2 true 3],false⟩
def TN:AFn:=⟨1,(sp [al 2 z3] (sd [m 3 0,ca 4 85 [3],o 5 (.j6 92 [4]),so 3 2 5] [0,3,4,5] .ret)),[.cell 2 true 3],false⟩
def TP:AFn:=⟨1,(sd [bx 1 0,mv 2 k0] [0,2] (sd [tt 3 3 1,o 4 (.o8 89 [3]),o 5 (.og 4 0 3 true),o 6 (.og 5 0 2 true),ca 7 86 [6],m 2 7] (rl [1] 3 5) .ret)),[.tmp 2],false⟩
def NG:AFn:=⟨2,(sd [bx 2 0,bx 3 1,al 4 z3] [0,1] (se [q 8 [5,6] (.ld true 3 2),q 9 [5,6] (.o8 89 [8]),q 10 [5,6] (.ld true 3 3),q 11 [5,6] (.o8 89 [10]),al 5 [(.bool false),.nil,.nil,(.bool false)],al 6 [(.bool false),.nil,.nil,(.bool false)],so 4 5 9,so 4 6 11] (rl [2,3] 8 4) (s (sd [fa 12 5 3,uu 13 1 12,m 14 13,g 15 14 true (.o4 6 3),g 16 14 true (.ld false 1 15),pk 17 14 16 kf] (ra 12 5) (i 17 (sd [fa 18 5 0,fa 19 18 0,tt 20 2 19,fa 21 6 0,fa 22 21 0,tt 23 2 22,ca 24 87 [20,23],o 25 (.j6 92 [24]),so 3 4 25] (rl [5,6] 17 9) .ret) .skip)) (s (sd [fa 26 5 0,fa 27 26 2,uu 28 1 27,fa 29 6 0,fa 30 29 2,uu 31 1 30,ca 32 67 [28,31],bi 33 .eql 32 k0] (rl [17] 26 7) (i 33 (se [fa 34 5 0,fa 35 34 0,tt 36 2 35,fa 37 6 0,fa 38 37 0,tt 39 2 38,ca 40 87 [36,39],fa 41 5 0,fa 42 41 2,uu 43 1 42,o 44 (.build z3 [(0,2,40),(2,1,43)]),ca 45 94 [44],so 3 4 45] (rl [5,6] 33 13) .ret) .skip)) (se [fa 46 5 0,fa 47 46 0,q 48 [7] (.ld true 2 47),fa 49 6 0,fa 50 49 2,q 51 [7] (.ld false 1 50),q 52 [7] (.o8 91 [51]),q 53 [7] (.call 88 [48,52]),fa 54 6 0,fa 55 54 0,q 56 [7] (.ld true 2 55),fa 57 5 0,fa 58 57 2,q 59 [7] (.ld false 1 58),q 60 [7] (.o8 91 [59]),q 61 [7] (.call 88 [56,60]),q 62 [7] (.call 87 [53,61]),al 7 [(.bool false),.nil],so 2 7 62] (rl [33] 46 17) (se [tt 63 2 7,fa 64 5 0,fa 65 64 2,uu 66 1 65,fa 67 6 0,fa 68 67 2,uu 69 1 68,ca 70 70 [66,69],o 71 (.build z3 [(0,2,63),(2,1,70)]),ca 72 94 [71],so 3 4 72] (rl [5,6,7] 63 10) .ret)))))),[.cell 4 true 3],false⟩
def PK:AFn:=⟨2,(sd [bx 2 0,bx 3 1,al 4 z3] [0,1] (se [q 8 [5,6] (.ld true 3 2),q 9 [5,6] (.o8 89 [8]),q 10 [5,6] (.ld true 3 3),q 11 [5,6] (.o8 89 [10]),al 5 [(.bool false),.nil,.nil,(.bool false)],al 6 [(.bool false),.nil,.nil,(.bool false)],so 4 5 9,so 4 6 11] (rl [2,3] 8 4) (sd [fa 12 5 0,fa 13 12 0,tt 14 2 13,fa 15 6 0,fa 16 15 0,tt 17 2 16,ca 18 88 [14,17],al 7 [(.bool false),.nil],so 2 7 18] (ra 12 7) (s (sd [fa 19 5 3,uu 20 1 19,m 21 20,g 22 21 true (.o4 6 3),g 23 21 true (.ld false 1 22),pk 24 21 23 kf] (ra 19 5) (i 24 (sd [tt 25 2 7,o 26 (.j6 92 [25]),so 3 4 26] [5,6,7,24,25,26] .ret) .skip)) (se [tt 27 2 7,fa 28 5 0,fa 29 28 2,uu 30 1 29,fa 31 6 0,fa 32 31 2,uu 33 1 32,ca 34 70 [30,33],o 35 (.build z3 [(0,2,27),(2,1,34)]),ca 36 94 [35],so 3 4 36] (rl [5,6,7,24] 27 10) .ret))))),[.cell 4 true 3],false⟩
def TK:AFn:=⟨2,(sd [bx 2 0,bx 3 1,al 4 z3,mv 5 k0] [0,1,5] (se [q 10 [6,7] (.ld true 3 2),q 11 [6,7] (.o8 89 [10]),q 12 [6,7] (.ld true 3 3),q 13 [6,7] (.o8 89 [12]),al 6 [(.bool false),.nil,.nil,(.bool false)],al 7 [(.bool false),.nil,.nil,(.bool false)],so 4 6 11,so 4 7 13] (rl [2,3] 10 4) (s (sd [fa 14 7 0,fa 15 14 0,tt 16 2 15,ca 17 86 [16],bi 18 .eql 17 k0] (ra 14 4) (i 18 (sd [o 19 (.build z3 []),so 3 4 19,mv 5 (k 3)] [6,7,18,19] .ret) .skip)) (se [fa 20 6 0,fa 21 20 0,q 22 [8] (.ld true 2 21),fa 23 7 0,fa 24 23 2,q 25 [8] (.ld false 1 24),q 26 [8] (.o8 91 [25]),q 27 [8] (.call 88 [22,26]),al 8 [(.bool false),.nil],so 2 8 27] (rl [18] 20 8) (se [fa 28 6 0,fa 29 28 2,q 30 [9] (.ld false 1 29),q 31 [9] (.o8 91 [30]),fa 32 7 0,fa 33 32 0,q 34 [9] (.ld true 2 33),q 35 [9] (.call 88 [31,34]),al 9 [(.bool false),.nil],so 2 9 35] (rl [6,7] 28 8) (sd [tt 36 2 8,tt 37 2 9,o 38 (.j6 93 [36,37]),ca 39 94 [38],so 3 4 39,mv 5 k0] (rl [8,9] 36 4) .ret)))))),[.cell 4 true 3,.tmp 5],false⟩
structure a6(L:Lib):Prop extends c6 L where
 CS:L 83=some F.CS
 SX:L 84=some F.SX
 SV:L 85=some F.SV
 SW:L 86=some F.SW
 SR:L 87=some F.SR
 SU:L 88=some F.SU
 NH:L 89=some F.NH
 TT:L 90=some F.TT
 TU:L 91=some F.TU
 LG:L 92=some F.LG
 PL:L 93=some F.PL
 TV:L 94=some F.TV
 TR:L 95=some F.TR
 TN:L 96=some F.TN
 TP:L 97=some F.TP
 NG:L 98=some F.NG
 PK:L 99=some F.PK
 TK:L 100=some F.TK
end Go.e9.F

namespace Go.e9.F
open C
def JZ.l1:=(s (sd [m 6 3,bi 7 .gtr 6 k0,m 8 7,g 9 8 true (.q9 0),g 10 8 true (.q9 3),g 11 8 true (.bin .sub 10 k1),g 12 8 true (.u4 none 1 9 11),g 13 8 true (.ld false 1 12),g 14 8 true (.bin .eql 13 (.c (.int .u32 (0)))),pk 15 8 14 kf] (ra 6 9) (i 15 .skip (x 0))) (b 1 (d [m 16 3,sb 17 16 k1,m 3 17] [15,16,17])))
def JZ:AFn:=⟨1,(sd [mv 2 (.c .nil)] [2] (sd [m 4 0,ln 5 4,m 3 5] [4,5] (s (b 0 (w JZ.l1)) (sd [m 18 0,m 19 3,o 20 (.iz 1 18 none (some 19)),o 21 (.app 101021 1 4 (.c .nil) 20),m 2 21] (rl [0,3,15] 18 4) .ret)))),[.tmp 2],false⟩
def PO.l1:=(s (sd [m 23 5,bi 24 .geq 23 k0] [23] (i 24 .skip (x 0))) (s (b 1 (s (se [m 27 0,m 28 5,ia 29 1 27 28,uu 30 1 29,m 31 1,m 32 5,ia 33 1 31 32,uu 34 1 33,ls 35 30 34] (rl [24] 27 8) (i 35 (sd [mv 4 (k (-1))] [0,1,5,35] .ret) .skip)) (se [m 36 0,m 37 5,ia 38 1 36 37,uu 39 1 38,m 40 1,m 41 5,ia 42 1 40 41,uu 43 1 42,bi 44 .gtr 39 43] (ra 35 9) (i 44 (sd [mv 4 k1] [0,1,5,44] .ret) .skip)))) (d [m 25 5,sb 26 25 k1,m 5 26] [25,26,44])))
def PO:AFn:=⟨2,(sd [mv 4 k0] [4] (sd [m 6 0,ca 7 101 [6],m 8 1,ca 9 101 [8],m 0 7,m 1 9] (ra 6 4) (s (sd [m 10 0,ln 11 10,m 12 1,ln 13 12,bi 14 .neq 11 13] (ra 10 4) (i 14 (s (sd [m 15 0,ln 16 15,m 17 1,ln 18 17,ls 19 16 18] (rl [0,1] 14 5) (i 19 (sd [mv 4 (k (-1))] [19] .ret) .skip)) (sd [mv 4 k1] [19] .ret)) .skip)) (s (sd [m 20 0,ln 21 20,sb 22 21 k1,m 5 22] [14,20,21,22] (b 0 (w PO.l1))) (sd [mv 4 k0] [0,1,5,24] .ret))))),[.tmp 4],false⟩
def PM.l1:=(s (sd [m 8 7,m 9 0,ln 10 9,ls 11 8 10,m 12 11,g 13 12 false (.q9 7),g 14 12 false (.q9 1),g 15 12 false (.len 14),g 16 12 false (.bin .lss 13 15),pk 17 12 kt 16] (ra 8 9) (i 17 .skip (x 0))) (s (b 1 (s (sd [m 20 7,m 21 0,ln 22 21,ls 23 20 22] [17,20,21,22] (i 23 (d [m 24 6,m 25 0,m 26 7,ia 27 1 25 26,uu 28 1 27,cu 29 28,ad 30 24 29,m 6 30] (ra 23 8)) .skip)) (s (sd [m 31 7,m 32 1,ln 33 32,ls 34 31 33] [23,31,32,33] (i 34 (d [m 35 6,m 36 1,m 37 7,ia 38 1 36 37,uu 39 1 38,cu 40 39,ad 41 35 40,m 6 41] (ra 34 8)) .skip)) (sd [m 42 5,m 43 6,o 44 (.conv .u32 43),o 45 (.b8 45 1 [44]),o 46 (.app 46 1 4 42 45),m 5 46] (rl [34] 42 5) (d [m 47 6,bi 48 .shr 47 (.c (.int .u64 (32))),m 6 48] [47,48]))))) (d [m 18 7,ad 19 18 k1,m 7 19] [18,19])))
def PM:AFn:=⟨2,(sd [mv 4 (.c .nil)] [4] (sp [o 5 (.ak 5 1)] (sp [mv 6 (.c (.int .u64 (0)))] (s (sp [mv 7 k0] (b 0 (w PM.l1))) (sd [m 49 5,m 50 6,o 51 (.conv .u32 50),o 52 (.b8 52 1 [51]),o 53 (.app 53 1 4 49 52),ca 54 101 [53],m 4 54] (rl [0,1,5,6,7,17] 49 6) .ret))))),[.tmp 4],false⟩
namespace LH
def r0:=[mv 4 (.c .nil)]
def r1:=[m 10 0,m 11 1,ca 12 102 [10,11],ls 13 12 k0]
def r2:=[mv 4 (.c .nil)]
def r3:=[m 14 1,ca 15 101 [14],m 1 15]
def r4:=[m 16 0,o 17 (.j6 101 [16]),m 5 17]
def r5:=[mv 6 (.c (.int .u64 (0)))]
def r6:=[mv 7 k0]
def r7:=[m 18 7,m 19 5,ln 20 19,ls 21 18 20]
def r9:=[m 24 6,m 8 24]
def WN:=[m 25 7,m 26 1,ln 27 26,ls 28 25 27]
def WO:=[m 29 8,m 30 1,m 31 7,ia 32 1 30 31,uu 33 1 32,cu 34 33,ad 35 29 34,m 8 35]
def Bj:=[m 36 5,m 37 7,ia 38 1 36 37,uu 39 1 38,cu 40 39,m 9 40]
def bV:=[mv 6 (.c (.int .u64 (0)))]
def Fe:=[m 41 9,m 42 8,ls 43 41 42]
def Ff:=[m 44 9,ad 45 44 (.c (.int .u64 (4294967296))),m 9 45]
def Fg:=[mv 6 (.c (.int .u64 (1)))]
def bW:=[m 46 5,m 47 7,m 48 9,m 49 8,sb 50 48 49,o 51 (.conv .u32 50),ia 52 1 46 47,so 1 52 51]
def r8:=[m 22 7,ad 23 22 k1,m 7 23]
def Bk:=[m 53 5,ca 54 101 [53],m 4 54]
def l1:=(s (sd r7 [18,19,20] (i 21 .skip (x 0))) (s (b 1 (sd r9 [6,21,24] (s (sd WN [25,26,27] (i 28 (d WO (ra 28 8)) .skip)) (sd Bj (rl [28] 36 5) (sp bV (s (sd Fe [41,42] (i 43 (sd Ff [6,43,44,45] (p Fg)) .skip)) (d bW (rl [8,9,43] 46 7)))))))) (d r8 [22,23])))
def c:=(sd r0 [4] (s (sd r1 [10,11,12] (i 13 (sd r2 [0,1,13] .ret) .skip)) (sd r3 [13,14,15] (sd r4 [0,16,17] (sp r5 (s (sp r6 (b 0 (w l1))) (sd Bk [1,5,6,7,21,53,54] .ret)))))))
end LH
def LH:AFn:=⟨2,LH.c,[.tmp 4],false⟩
def NJ.l2:=(s (sd [m 22 8,m 23 1,ln 24 23,ls 25 22 24] [22,23,24] (i 25 .skip (x 2))) (s (b 3 (se [m 28 7,m 29 0,m 30 6,ia 31 1 29 30,uu 32 1 31,cu 33 32,m 34 1,m 35 8,ia 36 1 34 35,uu 37 1 36,cu 38 37,bi 39 .mul 33 38,m 40 5,m 41 6,m 42 8,ad 43 41 42,ia 44 1 40 43,uu 45 1 44,cu 46 45,ad 47 39 46,ad 48 28 47,m 7 48] (rl [25] 28 21) (sd [m 49 5,m 50 6,m 51 8,ad 52 50 51,m 53 7,o 54 (.conv .u32 53),ia 55 1 49 52,so 1 55 54] (ra 49 7) (d [m 56 7,bi 57 .shr 56 (.c (.int .u64 (32))),m 7 57] [56,57])))) (d [m 26 8,ad 27 26 k1,m 8 27] [26,27])))
def NJ.l1:=(s (sd [m 16 6,m 17 0,ln 18 17,ls 19 16 18] [16,17,18] (i 19 .skip (x 0))) (s (b 1 (sd [mv 7 (.c (.int .u64 (0)))] [19] (s (sp [mv 8 k0] (b 2 (w NJ.l2))) (d [m 58 5,m 59 6,m 60 1,ln 61 60,ad 62 59 61,m 63 7,o 64 (.conv .u32 63),ia 65 1 58 62,so 1 65 64] (rl [7,8,25] 58 8))))) (d [m 20 6,ad 21 20 k1,m 6 21] [20,21])))
def NJ:AFn:=⟨2,(sd [mv 4 (.c .nil)] [4] (sd [m 9 0,ln 10 9,m 11 1,ln 12 11,ad 13 10 12,ad 14 13 k1,o 15 (.mk 15 1 4 [(.int .u32 (0))] 14 14),m 5 15] (ra 9 7) (s (sp [mv 6 k0] (b 0 (w NJ.l1))) (sd [m 66 5,ca 67 101 [66],m 4 67] [0,1,5,6,19,66,67] .ret)))),[.tmp 4],false⟩
def PN.l1:=(s (sd [m 20 4,bi 21 .gtr 20 (.c (.int .u32 (0)))] [20] (i 21 .skip (x 0))) (s (b 1 (d [m 24 3,ad 25 24 k1,m 3 25] [21,24,25])) (d [m 22 4,bi 23 .shr 22 (.c (.int .u64 (1))),m 4 23] [22,23])))
def PN:AFn:=⟨1,(sd [mv 2 k0] [2] (sd [m 5 0,ca 6 101 [5],m 0 6] [5,6] (s (sd [m 7 0,ln 8 7,bi 9 .eql 8 k0] [7,8] (i 9 (sd [mv 2 k0] [0,9] .ret) .skip)) (sd [m 10 0,ln 11 10,sb 12 11 k1,bi 13 .mul (k 32) 12,m 3 13] (ra 9 5) (s (sd [m 14 0,m 15 0,ln 16 15,sb 17 16 k1,ia 18 1 14 17,uu 19 1 18,m 4 19] (rl [0] 14 6) (b 0 (w PN.l1))) (sd [m 26 3,m 2 26] [3,4,21,26] .ret)))))),[.tmp 2],false⟩
def JY.l1:=(s (sd [m 31 6,m 32 0,ln 33 32,ls 34 31 33] [31,32,33] (i 34 .skip (x 0))) (s (b 1 (sd [m 37 0,m 38 6,ia 39 1 37 38,uu 40 1 39,cu 41 40,m 7 41] (rl [34] 37 5) (s (sd [m 42 6,ad 43 42 k1,m 44 0,ln 45 44,ls 46 43 45] (ra 42 4) (i 46 (d [m 47 7,m 48 0,m 49 6,ad 50 49 k1,ia 51 1 48 50,uu 52 1 51,cu 53 52,bi 54 .shl 53 (.c (.int .u64 (32))),bi 55 .or 47 54,m 7 55] (ra 46 10)) .skip)) (d [m 56 5,m 57 7,m 58 1,bi 59 .rem 58 (k 32),cu 60 59,bi 61 .shr 57 60,o 62 (.conv .u32 61),o 63 (.b8 107063 1 [62]),o 64 (.app 107064 1 4 56 63),m 5 64] (rl [7,46] 56 9))))) (d [m 35 6,ad 36 35 k1,m 6 36] [35,36])))
def JY.l2:=(s (sd [m 70 10,m 71 0,ln 72 71,ls 73 70 72] [70,71,72] (i 73 .skip (x 2))) (s (b 3 (sd [m 76 9,m 77 0,m 78 10,ia 79 1 77 78,uu 80 1 79,cu 81 80,m 82 1,bi 83 .rem 82 (k 32),cu 84 83,bi 85 .shl 81 84,bi 86 .or 76 85,m 9 86] (rl [73] 76 11) (sd [m 87 8,m 88 9,o 89 (.conv .u32 88),o 90 (.b8 107090 1 [89]),o 91 (.app 107091 1 4 87 90),m 8 91] (ra 87 5) (d [m 92 9,bi 93 .shr 92 (.c (.int .u64 (32))),m 9 93] [92,93])))) (d [m 74 10,ad 75 74 k1,m 10 75] [74,75])))
def JY:AFn:=⟨2,(sd [mv 4 (.c .nil)] [4] (sd [m 11 0,ca 12 101 [11],m 0 12] [11,12] (s (sd [m 13 1,bi 14 .gtr 13 (k 65536),m 15 14,g 16 15 false (.q9 0),g 17 15 false (.len 16),g 18 15 false (.bin .eql 17 k0),pk 19 15 kt 18] (ra 13 6) (i 19 (sd [mv 4 (.c .nil)] [0,1,19] .ret) .skip)) (s (sd [m 20 1,ls 21 20 k0] [19,20] (i 21 (s (sd [m 22 1,m 23 0,ln 24 23,bi 25 .mul (k (-32)) 24,ls 26 22 25] (ra 21 5) (i 26 (sd [mv 4 (.c .nil)] [0,1,26] .ret) .skip)) (sd [m 27 1,o 28 (.un .neg 27),m 1 28] [26,27,28] (sp [o 5 (.ak 107005 1)] (s (sd [m 29 1,bi 30 .quo 29 (k 32),m 6 30] [29,30] (b 0 (w JY.l1))) (sd [m 65 5,ca 66 101 [65],m 4 66] [0,1,5,6,34,65,66] .ret))))) .skip)) (sd [m 67 1,bi 68 .quo 67 (k 32),o 69 (.mk 107069 1 4 [(.int .u32 (0))] 68 68),m 8 69] [21,67,68,69] (sp [mv 9 (.c (.int .u64 (0)))] (s (sp [mv 10 k0] (b 2 (w JY.l2))) (sd [m 94 8,m 95 9,o 96 (.conv .u32 95),o 97 (.b8 107097 1 [96]),o 98 (.app 107098 1 4 94 97),o 99 (.j6 101 [98]),m 4 99] (rl [0,1,8,9,10,73] 94 6) .ret)))))))),[.tmp 4],false⟩
def PQ.l1:=(s (sd [m 15 8,bi 16 .geq 15 k0] [15] (i 16 .skip (x 0))) (s (b 1 (sd [m 19 7,bi 20 .shl 19 (.c (.int .u64 (32))),m 21 0,m 22 8,ia 23 1 21 22,uu 24 1 23,cu 25 24,bi 26 .or 20 25,m 7 26] (rl [16] 19 8) (sd [m 27 6,m 28 8,m 29 7,m 30 1,cu 31 30,bi 32 .quo 29 31,o 33 (.conv .u32 32),ia 34 1 27 28,so 1 34 33] (ra 27 8) (d [m 35 7,m 36 1,cu 37 36,bi 38 .rem 35 37,m 7 38] (ra 35 4))))) (d [m 17 8,sb 18 17 k1,m 8 18] [17,18])))
def PQ:AFn:=⟨2,(sd [mv 4 (.c .nil),mv 5 (.c (.int .u32 (0)))] [4,5] (sd [m 9 0,ln 10 9,o 11 (.mk 11 1 4 [(.int .u32 (0))] 10 10),m 6 11] [9,10,11] (sp [mv 7 (.c (.int .u64 (0)))] (s (sd [m 12 0,ln 13 12,sb 14 13 k1,m 8 14] [12,13,14] (b 0 (w PQ.l1))) (sd [m 39 6,ca 40 101 [39],m 41 7,o 42 (.conv .u32 41),m 4 40,m 5 42] (rl [0,1,6,7,8,16] 39 4) .ret))))),[.tmp 4,.tmp 5],false⟩
namespace EM
def r0:=[mv 4 (.c .nil),mv 5 (.c .nil),mv 6 k0]
def r1:=[m 27 0,ca 28 101 [27],m 29 1,ca 30 101 [29],m 0 28,m 1 30]
def r2:=[m 31 1,ln 32 31,bi 33 .eql 32 k0]
def r3:=[mv 4 (.c .nil),mv 5 (.c .nil),mv 6 (k 3)]
def r4:=[m 34 1,ln 35 34,bi 36 .eql 35 k1]
def r5:=[m 38 0,m 39 1,ia 40 1 39 k0,uu 41 1 40,ca 42 108 [38,41],m 37 42,et 43 37 0,et 44 37 1,m 7 43,m 8 44]
def r6:=[m 45 7,m 46 8,o 47 (.b8 47 1 [46]),ca 48 101 [47],m 4 45,m 5 48,mv 6 k0]
def r7:=[m 49 0,m 50 1,ca 51 102 [49,50],ls 52 51 k0]
def r8:=[m 53 0,mv 4 (.c .nil),m 5 53,mv 6 k0]
def r9:=[m 54 1,m 55 1,ln 56 55,sb 57 56 k1,o 58 (.iz 1 54 (some 57) none),ca 59 106 [58],sb 60 (k 32) 59,m 9 60]
def WN:=[m 61 0,m 62 9,o 63 (.j6 107 [61,62]),m 64 1,m 65 9,ca 66 107 [64,65],m 10 63,m 11 66]
def WO:=[m 67 10,o 68 (.b8 68 1 [(.c (.int .u32 (0)))]),o 69 (.app 69 1 4 67 68),m 10 69]
def Bj:=[m 70 10,ln 71 70,m 72 0,ln 73 72,ad 74 73 k1,ls 75 71 74]
def bV:=[m 76 10,o 77 (.b8 77 1 [(.c (.int .u32 (0)))]),o 78 (.app 78 1 4 76 77),m 10 78]
def Fe:=[m 79 11,ln 80 79,m 12 80]
def Ff:=[m 81 10,ln 82 81,m 83 12,sb 84 82 83,o 85 (.mk 85 1 4 [(.int .u32 (0))] 84 84),m 13 85]
def Fg:=[m 86 10,ln 87 86,m 88 12,sb 89 87 88,sb 90 89 k1,m 14 90]
def bW:=[m 91 14,bi 92 .geq 91 k0]
def Li:=[m 95 10,m 96 14,m 97 12,ad 98 96 97,ia 99 1 95 98,uu 100 1 99,cu 101 100,
 bi 102 .shl 101 (.c (.int .u64 (32))),m 103 10,m 104 14,m 105 12,ad 106 104 105,sb 107 106 k1,
 ia 108 1 103 107,uu 109 1 108,cu 110 109,bi 111 .or 102 110,m 15 111]
def Lj:=[m 112 15,m 113 11,m 114 12,sb 115 114 k1,ia 116 1 113 115,uu 117 1 116,cu 118 117,
 bi 119 .quo 112 118,m 16 119]
def Lk:=[m 120 15,m 121 11,m 122 12,sb 123 122 k1,ia 124 1 121 123,uu 125 1 124,cu 126 125,
 bi 127 .rem 120 126,m 17 127]
def Ll:=[m 128 16,bi 129 .geq 128 (.c (.int .u64 (4294967296))),m 130 129,g 131 130 false (.q9 16),g 132 130 false (.q9 11),g 133 130 false (.q9 12),
 g 134 130 false (.bin .sub 133 (k 2)),g 135 130 false (.u4 none 1 132 134),g 136 130 false (.ld false 1 135),g 137 130 false (.conv .u64 136),
 g 138 130 false (.bin .mul 131 137),g 139 130 false (.q9 17),g 140 130 false (.bin .shl 139 (.c (.int .u64 (32)))),g 141 130 false (.q9 10),
 g 142 130 false (.q9 14),g 143 130 false (.q9 12),g 144 130 false (.bin .add 142 143),g 145 130 false (.bin .sub 144 (k 2)),
 g 146 130 false (.u4 none 1 141 145),g 147 130 false (.ld false 1 146),g 148 130 false (.conv .u64 147),g 149 130 false (.bin .or 140 148),
 g 150 130 false (.bin .gtr 138 149),pk 151 130 kt 150]
def Lm:=[m 152 16,sb 153 152 (.c (.int .u64 (1))),m 16 153]
def qP:=[m 154 17,m 155 11,m 156 12,sb 157 156 k1,ia 158 1 155 157,uu 159 1 158,cu 160 159,
 ad 161 154 160,m 17 161]
def qQ:=[m 162 17,bi 163 .geq 162 (.c (.int .u64 (4294967296)))]
def qR:=[mv 18 (.c (.int .u64 (0))),mv 19 (.c (.int .u64 (0)))]
def qS:=[mv 20 k0]
def qT:=[m 164 20,m 165 12,ls 166 164 165]
def Ln:=[m 169 19,m 170 16,m 171 11,m 172 20,ia 173 1 171 172,uu 174 1 173,cu 175 174,bi 176 .mul 170 175,
 ad 177 169 176,m 19 177]
def Lo:=[m 178 19,bi 179 .and 178 (.c (.int .u64 (4294967295))),m 180 18,ad 181 179 180,m 21 181]
def r32:=[m 182 19,bi 183 .shr 182 (.c (.int .u64 (32))),m 19 183]
def r33:=[m 184 10,m 185 20,m 186 14,ad 187 185 186,ia 188 1 184 187,uu 189 1 188,cu 190 189,m 22 190]
def r34:=[mv 18 (.c (.int .u64 (0)))]
def r35:=[m 191 22,m 192 21,ls 193 191 192]
def r36:=[m 194 22,ad 195 194 (.c (.int .u64 (4294967296))),m 22 195]
def r37:=[mv 18 (.c (.int .u64 (1)))]
def r38:=[m 196 10,m 197 20,m 198 14,ad 199 197 198,m 200 22,m 201 21,sb 202 200 201,o 203 (.conv .u32 202),ia 204 1 196 199,
 so 1 204 203]
def qU:=[m 167 20,ad 168 167 k1,m 20 168]
def r39:=[m 205 19,m 206 18,ad 207 205 206,m 23 207]
def r40:=[m 208 10,m 209 14,m 210 12,ad 211 209 210,ia 212 1 208 211,uu 213 1 212,cu 214 213,m 24 214]
def r41:=[mv 18 (.c (.int .u64 (0)))]
def r42:=[m 215 24,m 216 23,ls 217 215 216]
def r43:=[m 218 24,ad 219 218 (.c (.int .u64 (4294967296))),m 24 219]
def r44:=[mv 18 (.c (.int .u64 (1)))]
def r45:=[m 220 10,m 221 14,m 222 12,ad 223 221 222,m 224 24,m 225 23,sb 226 224 225,o 227 (.conv .u32 226),ia 228 1 220 223,
 so 1 228 227]
def r46:=[m 229 18,bi 230 .eql 229 (.c (.int .u64 (1)))]
def r47:=[m 231 16,sb 232 231 (.c (.int .u64 (1))),m 16 232]
def r48:=[mv 25 (.c (.int .u64 (0)))]
def r49:=[mv 26 k0]
def r50:=[m 233 26,m 234 12,ls 235 233 234]
def r52:=[m 238 25,m 239 10,m 240 26,m 241 14,ad 242 240 241,ia 243 1 239 242,uu 244 1 243,cu 245 244,m 246 11,
 m 247 26,ia 248 1 246 247,uu 249 1 248,cu 250 249,ad 251 245 250,ad 252 238 251,m 25 252]
def r53:=[m 253 10,m 254 26,m 255 14,ad 256 254 255,m 257 25,o 258 (.conv .u32 257),ia 259 1 253 256,so 1 259 258]
def r54:=[m 260 25,bi 261 .shr 260 (.c (.int .u64 (32))),m 25 261]
def r51:=[m 236 26,ad 237 236 k1,m 26 237]
def r55:=[m 262 10,m 263 14,m 264 12,ad 265 263 264,ia 266 1 262 265,uu 267 1 266,m 268 25,o 269 (.conv .u32 268),
 ad 270 267 269,ia 271 1 262 265,so 1 271 270]
def r56:=[m 272 13,m 273 14,m 274 16,o 275 (.conv .u32 274),ia 276 1 272 273,so 1 276 275]
def Bk:=[m 93 14,sb 94 93 k1,m 14 94]
def Rc:=[m 277 13,ca 278 101 [277],m 279 10,m 280 12,o 281 (.iz 1 279 none (some 280)),m 282 9,o 283 (.un .neg 282),ca 284 107 [281,283],m 4 278,
 m 5 284,mv 6 k0]
def l1:=(s (sd Bj (ra 70 5) (i 75 .skip (x 0))) (b 1 (d bV (ra 75 4))))
def l3:=(s (se Ll [128,129,130,131,132,133,134,135,136,137,138,139,140,141,142,143,144,145,146,147,148,149,150,163] (i 151 .skip (x 4))) (b 5 (sd Lm [151,152,153] (sd qP (ra 154 8) (sd qQ [162] (i 163 (x 4) .skip))))))
def l4:=(s (sd qT [164,165] (i 166 .skip (x 6))) (s (b 7 (sd Ln (rl [166] 169 9) (sd Lo (rl [18] 178 4) (sd r32 [182,183] (sd r33 (ra 184 7) (sp r34 (s (sd r35 [191,192] (i 193 (sd r36 [18,193,194,195] (p r37)) .skip)) (d r38 (rl [21,22,193] 196 9))))))))) (d qU [167,168])))
def l5:=(s (sd r50 [233,234] (i 235 .skip (x 8))) (s (b 9 (se r52 (rl [235] 238 15) (sd r53 (ra 253 7) (d r54 [260,261])))) (d r51 [236,237])))
def l2:=(s (sd bW [91] (i 92 .skip (x 2))) (s (b 3 (se Li (rl [92] 95 17) (sd Lj (ra 112 8) (sd Lk (rl [15] 120 8) (s (b 4 (w l3)) (sd qR [17,151,163] (s (sp qS (b 6 (w l4))) (sd r39 [18,19,20,166,205,206,207] (sd r40 (ra 208 7) (sp r41 (s (sd r42 [215,216] (i 217 (sd r43 [18,217,218,219] (p r44)) .skip)) (sd r45 (rl [23,24,217] 220 9) (s (sd r46 [18,229] (i 230 (sd r47 [230,231,232] (sp r48 (s (sp r49 (b 8 (w l5))) (d r55 (rl [25,26,235] 262 10))))) .skip)) (d r56 (rl [16,230] 272 5))))))))))))))) (d Bk [93,94])))
def c:=(sd r0 [4,5,6] (sd r1 (ra 27 4) (s (sd r2 [31,32] (i 33 (sd r3 [0,1,33] .ret) .skip)) (s (sd r4 [33,34,35] (i 36 (sd r5 (rl [0,1] 36 9) (sd r6 (rl [7,8] 45 4) .ret)) .skip)) (s (sd r7 [36,49,50,51] (i 52 (sd r8 [0,1,52,53] .ret) .skip)) (sd r9 (rl [52] 54 7) (sd WN (rl [1] 61 6) (sd WO [67,68,69] (s (b 0 (w l1)) (sd Fe [0,75,79,80] (sd Ff (ra 81 5) (s (sd Fg (ra 86 5) (b 2 (w l2))) (se Rc (rl [9,10,11,12,13,14,92] 277 8) .ret)))))))))))))
end EM
def EM:AFn:=⟨2,EM.c,[.tmp 4,.tmp 5,.tmp 6],false⟩
def PP.l1:=(s (sd [m 12 1,ln 13 12,bi 14 .gtr 13 k0] [12,13] (i 14 .skip (x 0))) (b 1 (sd [m 16 0,m 17 1,ca 18 109 [16,17],m 15 18,et 19 15 0,et 20 15 1,et 21 15 2,m 5 19,m 6 20,m 7 21] (rl [0,5,7] 14 8) (d [m 22 1,m 23 6,m 0 22,m 1 23] [6,22,23]))))
def PP:AFn:=⟨2,(sd [mv 4 (.c .nil)] [4] (sd [m 8 0,ca 9 101 [8],m 10 1,ca 11 101 [10],m 0 9,m 1 11] (ra 8 4) (s (b 0 (w PP.l1)) (sd [m 24 0,m 4 24] [0,1,14,24] .ret)))),[.tmp 4],false⟩
def UA:AFn:=⟨1,(sd [bx 1 0,al 2 [(.bool false),.nil]] [0] (sd [fa 4 1 1,uu 5 1 4,ca 6 101 [5],m 3 6] [4,5,6] (sd [fa 7 1 0,uu 8 1 7,m 9 8,g 10 9 true (.q9 3),g 11 9 true (.len 10),g 12 9 true (.bin .gtr 11 k0),pk 13 9 12 kf,m 14 3,o 15 (.build [(.bool false),.nil] [(0,1,13),(1,1,14)]),so 2 2 15] (rl [1,3] 7 9) .ret))),[.cell 2 true 2],false⟩
def T7:AFn:=⟨1,(sp [al 2 [(.bool false),.nil]] (s (sd [m 4 0,ls 5 4 k0] [4] (i 5 (sd [m 6 0,ad 7 6 k1,o 8 (.un .neg 7),cu 9 8,ad 10 9 (.c (.int .u64 (1))),m 3 10] (rl [0] 5 6) (sd [m 11 3,o 12 (.conv .u32 11),m 13 3,bi 14 .shr 13 (.c (.int .u64 (32))),o 15 (.conv .u32 14),o 16 (.b8 16 1 [12,15]),o 17 (.build [(.bool false),.nil] [(0,1,kt),(1,1,16)]),ca 18 111 [17],so 2 2 18] (rl [3] 11 8) .ret)) .skip)) (sd [m 19 0,o 20 (.conv .u32 19),m 21 0,cu 22 21,bi 23 .shr 22 (.c (.int .u64 (32))),o 24 (.conv .u32 23),o 25 (.b8 25 1 [20,24]),o 26 (.build [(.bool false),.nil] [(1,1,25)]),ca 27 111 [26],so 2 2 27] (rl [0,5] 19 9) .ret))),[.cell 2 true 2],false⟩
def T8:AFn:=⟨1,(sd [bx 1 0,mv 2 k0] [0,2] (sd [tt 3 2 1,ca 4 111 [3],so 2 1 4] [3,4] (s (b 0 (sd [fa 6 1 1,uu 7 1 6,ln 8 7,bi 9 .eql 8 k0,m 5 9] (ra 6 4) (i 5 (sd [mv 2 k0] [1,5] .ret) (sd [fa 11 1 0,uu 12 1 11,m 10 12] [1,5,11,12] (i 10 (sd [mv 2 (k (-1))] [10] .ret) .skip))))) (sd [mv 2 k1] [10] .ret)))),[.tmp 2],false⟩
def T6:AFn:=⟨1,(sd [bx 1 0,al 2 [(.bool false),.nil]] [0] (sd [tt 3 2 1,ca 4 111 [3],so 2 1 4] [3,4] (sd [fa 5 1 0,uu 6 1 5,nt 7 6,m 8 7,g 9 8 true (.o4 1 1),g 10 8 true (.ld false 1 9),g 11 8 true (.len 10),g 12 8 true (.bin .gtr 11 k0),pk 13 8 12 kf,fa 14 1 0,so 1 14 13] (ra 5 10) (sd [tt 15 2 1,so 2 2 15] [1,15] .ret)))),[.cell 2 true 2],false⟩
def TY:AFn:=⟨2,(sd [bx 2 0,bx 3 1,al 4 [(.bool false),.nil]] [0,1] (se [tt 5 2 2,ca 6 111 [5],tt 7 2 3,ca 8 111 [7],so 2 2 6,so 2 3 8] (ra 5 4) (s (sd [fa 9 2 0,uu 10 1 9,fa 11 3 0,uu 12 1 11,o 13 (.beq false 10 12)] (ra 9 4) (i 13 (se [fa 14 2 0,uu 15 1 14,fa 16 2 1,uu 17 1 16,fa 18 3 1,uu 19 1 18,ca 20 103 [17,19],o 21 (.build [(.bool false),.nil] [(0,1,15),(1,1,20)]),ca 22 111 [21],so 2 4 22] (rl [2,3] 13 10) .ret) .skip)) (s (sd [fa 23 2 1,uu 24 1 23,fa 25 3 1,uu 26 1 25,ca 27 102 [24,26],bi 28 .geq 27 k0] (rl [13] 23 5) (i 28 (se [fa 29 2 0,uu 30 1 29,fa 31 2 1,uu 32 1 31,fa 33 3 1,uu 34 1 33,ca 35 104 [32,34],o 36 (.build [(.bool false),.nil] [(0,1,30),(1,1,35)]),ca 37 111 [36],so 2 4 37] (rl [2,3] 28 10) .ret) .skip)) (se [fa 38 3 0,uu 39 1 38,fa 40 3 1,uu 41 1 40,fa 42 2 1,uu 43 1 42,ca 44 104 [41,43],o 45 (.build [(.bool false),.nil] [(0,1,39),(1,1,44)]),ca 46 111 [45],so 2 4 46] (rl [2,3,28] 38 9) .ret))))),[.cell 4 true 2],false⟩
def T9:AFn:=⟨2,(sd [bx 2 0,bx 3 1,al 4 [(.bool false),.nil]] [0,1] (se [tt 5 2 2,tt 6 2 3,ca 7 114 [6],ca 8 115 [5,7],so 2 4 8] [2,3,5,6,7,8] .ret)),[.cell 4 true 2],false⟩
def TZ:AFn:=⟨2,(sd [bx 2 0,bx 3 1,mv 4 k0] [0,1,4] (sd [tt 5 2 2,tt 6 2 3,ca 7 116 [5,6],ca 8 113 [7],m 4 8] [2,3,5,6,7,8] .ret)),[.tmp 4],false⟩
def T5:AFn:=⟨2,(sd [bx 2 0,bx 3 1,al 4 [(.bool false),.nil]] [0,1] (se [fa 5 2 0,uu 6 1 5,fa 7 3 0,uu 8 1 7,o 9 (.beq true 6 8),fa 10 2 1,uu 11 1 10,fa 12 3 1,uu 13 1 12,ca 14 105 [11,13],o 15 (.build [(.bool false),.nil] [(0,1,9),(1,1,14)]),ca 16 111 [15],so 2 4 16] (rl [2,3] 5 12) .ret)),[.cell 4 true 2],false⟩
def T3:AFn:=⟨2,(sd [bx 2 0,bx 3 1,al 4 [(.bool false),.nil],al 5 [(.bool false),.nil],mv 6 k0] [0,1,6] (se [tt 10 2 2,ca 11 111 [10],tt 12 2 3,ca 13 111 [12],so 2 2 11,so 2 3 13] (ra 10 4) (sd [fa 15 2 1,uu 16 1 15,fa 17 3 1,uu 18 1 17,ca 19 109 [16,18],m 14 19,et 20 14 0,et 21 14 1,et 22 14 2,m 7 20,m 8 21,m 9 22] (ra 14 9) (s (sd [m 23 9,bi 24 .neq 23 k0] [23] (i 24 (sd [o 25 (.build [(.bool false),.nil] []),o 26 (.build [(.bool false),.nil] []),m 27 9,so 2 4 25,so 2 5 26,m 6 27] (rl [2,3,7,8,9] 24 4) .ret) .skip)) (s (sd [fa 28 2 0,uu 29 1 28,m 30 29,g 31 30 true (.q9 8),g 32 30 true (.len 31),g 33 30 true (.bin .gtr 32 k0),pk 34 30 33 kf] (rl [9,24] 28 6) (i 34 (e [m 35 7,o 36 (.b8 36 1 [(.c (.int .u32 (1)))]),ca 37 103 [35,36],fa 38 3 1,q 39 [36] (.ld false 1 38),m 40 8,ca 41 104 [39,40],m 7 37,m 8 41] (ra 34 8)) .skip)) (sd [fa 42 2 0,uu 43 1 42,fa 44 3 0,uu 45 1 44,o 46 (.beq true 43 45),m 47 7,o 48 (.build [(.bool false),.nil] [(0,1,46),(1,1,47)]),ca 49 111 [48],m 50 8,o 51 (.build [(.bool false),.nil] [(1,1,50)]),so 2 4 49,so 2 5 51,mv 6 k0] (rl [2,3,7,8,34] 42 10) .ret)))))),[.cell 4 true 2,.cell 5 true 2,.tmp 6],false⟩
def T4:AFn:=⟨2,(sd [bx 2 0,bx 3 1,al 4 [(.bool false),.nil]] [0,1] (sd [fa 5 2 1,uu 6 1 5,fa 7 3 1,uu 8 1 7,ca 9 110 [6,8],o 10 (.build [(.bool false),.nil] [(1,1,9)]),so 2 4 10] (rl [2,3] 5 6) .ret)),[.cell 4 true 2],false⟩
def NK:AFn:=⟨2,(sd [bx 2 0,bx 3 1,al 4 z3] [0,1] (s (sd [tt 12 2 2,ca 13 113 [12],bi 14 .eql 13 k0,m 15 14,g 16 15 false (.ld true 2 3),g 17 15 false (.call 113 [16]),g 18 15 false (.bin .eql 17 k0),pk 19 15 kt 18] (ra 12 7) (i 19 (sd [o 20 (.b8 20 1 [(.c (.int .u32 (1)))]),o 21 (.build z3 [(2,1,20)]),so 3 4 21] [2,3,19,20,21] .ret) .skip)) (sd [tt 22 2 2,tt 23 2 3,ca 24 120 [22,23],al 5 [(.bool false),.nil],so 2 5 24] [19,22,23,24] (sd [tt 26 2 2,tt 27 2 5,ca 28 119 [26,27],m 25 28,et 29 25 0,et 30 25 1,et 31 25 2,al 6 [(.bool false),.nil],al 7 [(.bool false),.nil],so 2 6 29,so 2 7 30,m 8 31] (rl [2,7,8] 25 7) (sd [tt 33 2 3,tt 34 2 5,ca 35 119 [33,34],m 32 35,et 36 32 0,et 37 32 1,et 38 32 2,al 9 [(.bool false),.nil],al 10 [(.bool false),.nil],so 2 9 36,so 2 10 37,m 11 38] (rl [3,5,10,11] 32 7) (s (sd [fa 39 9 0,uu 40 1 39] [39] (i 40 (d [tt 41 2 6,ca 42 114 [41],so 2 6 42] [40,41,42]) .skip)) (sd [tt 43 2 6,fa 44 9 1,uu 45 1 44,o 46 (.build z3 [(0,2,43),(2,1,45)]),so 3 4 46] (rl [6,9,40] 43 4) .ret))))))),[.cell 4 true 3],false⟩
def PR:AFn:=⟨1,(sd [bx 1 0,al 2 [(.bool false),.nil],al 3 [(.bool false),.nil]] [0] (sd [fa 5 1 2,uu 6 1 5,ca 7 101 [6],o 8 (.build [(.bool false),.nil] [(1,1,7)]),al 4 [(.bool false),.nil],so 2 4 8] (ra 5 4) (s (sd [fa 9 4 1,uu 10 1 9,ln 11 10,bi 12 .eql 11 k0] [9,10,11] (i 12 (sd [o 13 (.build [(.bool false),.nil] []),o 14 (.b8 14 1 [(.c (.int .u32 (1)))]),o 15 (.build [(.bool false),.nil] [(1,1,14)]),so 2 2 13,so 2 3 15] (rl [1,4] 12 4) .ret) .skip)) (se [fa 16 1 0,tt 17 2 16,q 18 [2] (.ld true 2 4),n (.qt 2 2 2 17),so 2 3 18] [1,4,12,16,17,18] .ret)))),[.cell 2 true 2,.cell 3 true 2],false⟩
def UH:AFn:=⟨1,(sd [bx 1 0,al 2 z3] [0] (sd [tt 6 3 1,o 7 (.o8 122 [6]),m 5 7,et 8 5 0,et 9 5 1,al 3 [(.bool false),.nil],al 4 [(.bool false),.nil],so 2 3 8,so 2 4 9] (rl [1] 5 5) (sd [tt 10 2 3,tt 11 2 4,ca 12 121 [10,11],so 3 2 12] [3,4,10,11,12] .ret))),[.cell 2 true 3],false⟩
def UG:AFn:=⟨1,(sp [al 2 z3] (sd [m 3 0,ca 4 112 [3],o 5 (.b8 5 1 [(.c (.int .u32 (1)))]),o 6 (.build z3 [(0,2,4),(2,1,5)]),so 3 2 6] [0,3,4,5,6] .ret)),[.cell 2 true 3],false⟩
def UE:AFn:=⟨2,(sp [al 4 z3] (sd [m 5 0,ca 6 112 [5],m 7 1,ca 8 112 [7],ca 9 121 [6,8],so 3 4 9] (rl [0,1] 5 5) .ret)),[.cell 4 true 3],false⟩
def UC:AFn:=⟨2,(sd [bx 2 0,bx 3 1,al 4 z3] [0,1] (sd [tt 10 3 2,o 11 (.o8 122 [10]),m 9 11,et 12 9 0,et 13 9 1,al 5 [(.bool false),.nil],al 6 [(.bool false),.nil],so 2 5 12,so 2 6 13] (rl [2] 9 5) (sd [tt 15 3 3,o 16 (.o8 122 [15]),m 14 16,et 17 14 0,et 18 14 1,al 7 [(.bool false),.nil],al 8 [(.bool false),.nil],so 2 7 17,so 2 8 18] (rl [3] 14 5) (se [tt 19 2 5,tt 20 2 8,ca 21 118 [19,20],tt 22 2 7,tt 23 2 6,ca 24 118 [22,23],ca 25 115 [21,24],tt 26 2 6,tt 27 2 8,ca 28 118 [26,27],ca 29 121 [25,28],so 3 4 29] (rl [5,6,7,8] 19 11) .ret)))),[.cell 4 true 3],false⟩
def UD:AFn:=⟨2,(sd [bx 2 0,bx 3 1,mv 4 k0] [0,1,4] (sd [tt 10 3 2,o 11 (.o8 122 [10]),m 9 11,et 12 9 0,et 13 9 1,al 5 [(.bool false),.nil],al 6 [(.bool false),.nil],so 2 5 12,so 2 6 13] (rl [2] 9 5) (sd [tt 15 3 3,o 16 (.o8 122 [15]),m 14 16,et 17 14 0,et 18 14 1,al 7 [(.bool false),.nil],al 8 [(.bool false),.nil],so 2 7 17,so 2 8 18] (rl [3] 14 5) (se [tt 19 2 5,tt 20 2 8,ca 21 118 [19,20],tt 22 2 7,tt 23 2 6,ca 24 118 [22,23],ca 25 117 [21,24],m 4 25] (rl [5,6,7,8] 19 7) .ret)))),[.tmp 4],false⟩
def UF:AFn:=⟨2,(sd [bx 2 0,bx 3 1,al 4 z3] [0,1] (sd [tt 10 3 2,o 11 (.o8 122 [10]),m 9 11,et 12 9 0,et 13 9 1,al 5 [(.bool false),.nil],al 6 [(.bool false),.nil],so 2 5 12,so 2 6 13] (rl [2] 9 5) (sd [tt 15 3 3,o 16 (.o8 122 [15]),m 14 16,et 17 14 0,et 18 14 1,al 7 [(.bool false),.nil],al 8 [(.bool false),.nil],so 2 7 17,so 2 8 18] (rl [3] 14 5) (se [tt 19 2 5,tt 20 2 7,ca 21 118 [19,20],tt 22 2 6,tt 23 2 8,ca 24 118 [22,23],ca 25 121 [21,24],so 3 4 25] (rl [5,6,7,8] 19 7) .ret)))),[.cell 4 true 3],false⟩
structure b7(L:Lib):Prop where
 JZ:L 101=some F.JZ
 PO:L 102=some F.PO
 PM:L 103=some F.PM
 LH:L 104=some F.LH
 NJ:L 105=some F.NJ
 PN:L 106=some F.PN
 JY:L 107=some F.JY
 PQ:L 108=some F.PQ
 EM:L 109=some F.EM
 PP:L 110=some F.PP
 UA:L 111=some F.UA
 T7:L 112=some F.T7
 T8:L 113=some F.T8
 T6:L 114=some F.T6
 TY:L 115=some F.TY
 T9:L 116=some F.T9
 TZ:L 117=some F.TZ
 T5:L 118=some F.T5
 T3:L 119=some F.T3
 T4:L 120=some F.T4
 NK:L 121=some F.NK
 PR:L 122=some F.PR
 UH:L 123=some F.UH
 UG:L 124=some F.UG
 UE:L 125=some F.UE
 UC:L 126=some F.UC
 UD:L 127=some F.UD
 UF:L 128=some F.UF
end Go.e9.F

namespace Go.e9.F
open C
def P1.l1:=(s (sd [m 7 6,m 8 0,ls 9 7 8] [7,8] (i 9 .skip (x 0))) (s (b 1 (sd [m 12 6,m 13 1,bi 14 .eql 12 13] [9,12,13] (i 14 (d [m 15 5,ca 16 124 [k1],o 17 (.b8 17 3 [16]),o 18 (.app 18 3 56 15 17),m 5 18] (ra 14 5)) (d [m 19 5,ca 20 124 [k0],o 21 (.b8 21 3 [20]),o 22 (.app 22 3 56 19 21),m 5 22] (rl [14] 19 4))))) (d [m 10 6,ad 11 10 k1,m 6 11] [10,11])))
def P1:AFn:=⟨2,(sd [mv 4 (.c .nil)] [4] (sp [o 5 (.ak 5 3)] (s (sp [mv 6 k0] (b 0 (w P1.l1))) (sd [m 23 5,m 4 23] [0,1,5,6,9,23] .ret)))),[.tmp 4],false⟩
def PV.l1:=(s (sd [m 24 4,m 25 3,ls 26 24 25] [24,25] (i 26 .skip (x 0))) (s (b 1 (sd [fa 29 1 0,uu 30 1 29,m 31 4,ia 32 1 30 31,uu 33 1 32,ln 34 33,m 35 3,bi 36 .neq 34 35] (rl [26] 29 7) (i 36 (sd [mv 2 kf] [1,3,4,36] .ret) .skip))) (d [m 27 4,ad 28 27 k1,m 4 28] [27,28,36])))
def PV:AFn:=⟨1,(sd [bx 1 0,mv 2 kf] [0,2] (sd [fa 5 1 0,uu 6 1 5,ln 7 6,m 3 7] [5,6,7] (s (sd [m 8 3,bi 9 .gtr 8 (k 64),m 10 9,g 11 10 false (.o4 1 1),g 12 10 false (.ld false 1 11),g 13 10 false (.len 12),g 14 10 false (.q9 3),g 15 10 false (.bin .neq 13 14),pk 16 10 kt 15,m 17 16,g 18 17 false (.o4 1 2),g 19 17 false (.ld false 1 18),g 20 17 false (.len 19),g 21 17 false (.q9 3),g 22 17 false (.bin .neq 20 21),pk 23 17 kt 22] (ra 8 15) (i 23 (sd [mv 2 kf] [1,3,23] .ret) .skip)) (s (sd [mv 4 k0] [23] (b 0 (w PV.l1))) (sd [mv 2 kt] [1,3,4,26] .ret))))),[.tmp 2],false⟩
def PU.l1:=(s (sd [m 8 6,m 9 0,ln 10 9,ls 11 8 10] [8,9,10] (i 11 .skip (x 0))) (s (b 1 (e [tt 14 3 5,m 15 0,m 16 6,ia 17 3 15 16,tt 18 3 17,m 19 1,m 20 6,ia 21 3 19 20,tt 22 3 21,ca 23 128 [18,22],ca 24 126 [14,23],so 3 5 24] (rl [11] 14 11))) (d [m 12 6,ad 13 12 k1,m 6 13] [12,13])))
def PU:AFn:=⟨2,(sp [al 4 z3] (sd [ca 7 124 [k0],al 5 z3,so 3 5 7] [7] (s (sp [mv 6 k0] (b 0 (w PU.l1))) (sd [tt 25 3 5,so 3 4 25] [0,1,5,6,11,25] .ret)))),[.cell 4 true 3],false⟩
def PX.l1:=(s (sd [m 7 6,m 8 0,ln 9 8,ls 10 7 9] [7,8,9] (i 10 .skip (x 0))) (s (b 1 (d [m 13 5,m 14 0,m 15 6,ia 16 1 14 15,uu 17 1 16,m 18 1,ca 19 137 [17,18],o 20 (.b8 138020 3 [19]),o 21 (.app 138021 3 56 13 20),m 5 21] (rl [10] 13 9))) (d [m 11 6,ad 12 11 k1,m 6 12] [11,12])))
def PX:AFn:=⟨2,(sd [mv 4 (.c .nil)] [4] (sp [o 5 (.ak 138005 3)] (s (sp [mv 6 k0] (b 0 (w PX.l1))) (sd [m 22 5,m 4 22] [0,1,5,6,10,22] .ret)))),[.tmp 4],false⟩
structure aw(L:Lib):Prop extends a6 L,b7 L where
 P1:L 135=some F.P1
 PV:L 136=some F.PV
 PU:L 137=some F.PU
 PX:L 138=some F.PX
structure ju(L:Lib):Prop extends aw L,k9 L where
def TS:AFn:=⟨1,(sd [bx 1 0,al 2 z3] [0] (sd [fa 3 1 0,fa 4 3 0,uu 5 1 4,nt 6 5,fa 7 1 0,fa 8 7 1,uu 9 1 8,o 10 (.build [(.bool false),.nil] [(0,1,6),(1,1,9)]),fa 11 1 2,uu 12 1 11,o 13 (.build z3 [(0,2,10),(2,1,12)]),so 3 2 13] (rl [1] 3 11) .ret)),[.cell 2 true 3],false⟩
def TQ:AFn:=⟨2,(sd [bx 2 0,bx 3 1,al 4 z3] [0,1] (se [tt 5 3 2,tt 6 3 3,o 7 (.o8 149 [6]),ca 8 98 [5,7],so 3 4 8] [2,3,5,6,7,8] .ret)),[.cell 4 true 3],false⟩
def TM:AFn:=⟨2,(sp [al 4 z3] (s (sd [m 5 1,bi 6 .eql 5 k0] [5] (i 6 (sd [ca 7 96 [k0],so 3 4 7] [0,1,6,7] .ret) .skip)) (sd [m 8 0,ca 9 85 [8],m 10 1,ca 11 85 [10],o 12 (.j6 93 [9,11]),ca 13 94 [12],so 3 4 13] (rl [0,1,6] 8 6) .ret))),[.cell 4 true 3],false⟩
structure bg(L:Lib):Prop extends a6 L where
 TS:L 149=some F.TS
 TQ:L 150=some F.TQ
 TM:L 151=some F.TM
structure kg(L:Lib):Prop extends a6 L where
structure jv(L:Lib):Prop extends b7 L where
structure mu(L:Lib):Prop extends jv L where
structure qu(L:Lib):Prop extends ju L,bg L,kg L,mu L where
def ST:AFn:=⟨2,(sd [bx 2 0,bx 3 1,mv 4 k0] [0,1,4] (se [tt 7 2 2,ca 8 86 [7],tt 9 2 3,ca 10 86 [9],m 5 8,m 6 10] (ra 7 4) (s (b 0 (sd [m 12 5,m 13 6,ls 14 12 13,m 11 14] [12,13,14] (i 11 (sd [mv 4 (k (-1))] [2,3,5,6,11] .ret) (sd [m 16 5,m 17 6,bi 18 .gtr 16 17,m 15 18] [6,11,16,17,18] (i 15 (sd [mv 4 k1] [2,3,5,15] .ret) (sd [m 20 5,bi 21 .eql 20 (k (-1)),m 19 21] [5,15,20,21] (i 19 (sd [fa 22 3 1,uu 23 1 22,fa 24 2 1,uu 25 1 24,ca 26 67 [23,25],m 4 26] (rl [2,3,19] 22 5) .ret) .skip))))))) (sd [fa 27 2 1,uu 28 1 27,fa 29 3 1,uu 30 1 29,ca 31 67 [28,30],m 4 31] (rl [2,3,19] 27 5) .ret)))),[.tmp 4],false⟩
def PJ:AFn:=⟨2,(sd [bx 2 0,bx 3 1,mv 4 k0] [0,1,4] (se [q 7 [5,6] (.ld true 3 2),q 8 [5,6] (.o8 89 [7]),q 9 [5,6] (.ld true 3 3),q 10 [5,6] (.o8 89 [9]),al 5 [(.bool false),.nil,.nil,(.bool false)],al 6 [(.bool false),.nil,.nil,(.bool false)],so 4 5 8,so 4 6 10] [2,3,7,8,9,10] (s (sd [fa 11 5 3,uu 12 1 11,m 13 12,g 14 13 true (.o4 6 3),g 15 13 true (.ld false 1 14),pk 16 13 15 kf] (ra 11 5) (i 16 (sd [fa 17 5 0,fa 18 17 0,tt 19 2 18,fa 20 6 0,fa 21 20 0,tt 22 2 21,ca 23 197 [19,22],m 4 23] (rl [5,6] 16 8) .ret) .skip)) (se [fa 24 5 0,fa 25 24 0,tt 26 2 25,fa 27 6 0,fa 28 27 2,uu 29 1 28,o 30 (.o8 91 [29]),ca 31 88 [26,30],fa 32 6 0,fa 33 32 0,tt 34 2 33,fa 35 5 0,fa 36 35 2,uu 37 1 36,o 38 (.o8 91 [37]),ca 39 88 [34,38],ca 40 197 [31,39],m 4 40] (rl [5,6,16] 24 17) .ret)))),[.tmp 4],false⟩
structure cp(L:Lib):Prop extends qu L where
 ST:L 197=some F.ST
 PJ:L 198=some F.PJ
def TJ:AFn:=⟨1,(sd [bx 1 0,al 2 z3] [0] (sd [fa 3 1 0,fa 4 3 1,uu 5 1 4,o 6 (.build [(.bool false),.nil] [(1,1,5)]),fa 7 1 2,uu 8 1 7,o 9 (.build z3 [(0,2,6),(2,1,8)]),ca 10 95 [9],so 3 2 10] (rl [1] 3 8) .ret)),[.cell 2 true 3],false⟩
structure bp(L:Lib):Prop extends cp L where
 TJ:L 256=some F.TJ
def TH:AFn:=⟨1,(sd [bx 1 0,al 2 z3] [0] (sd [tt 3 3 1,ca 4 95 [3],o 5 (.og 4 2 1 false),o 6 (.build [(.bool false),.nil] [(1,1,5)]),o 7 (.b8 7 1 [(.c (.int .u32 (1)))]),o 8 (.build z3 [(0,2,6),(2,1,7)]),so 3 2 8] (rl [1] 3 6) .ret)),[.cell 2 true 3],false⟩
def NF.l2:=(sp [ls 20 19 18] (s (i 20 .skip (x 2)) (s (b 3 (sd [ia 21 3 17 19,tt 22 3 21,al 7 z3,so 3 7 22] [20,21,22] (se [q 24 [8] (.ld true 3 3),q 25 [8] (.ld true 3 7),q 26 [8] (.call 294 [25]),q 27 [8] (.call 100 [24,26]),m 23 27,et 28 23 0,et 29 23 1,al 8 z3,so 3 8 28,m 9 29] (rl [7,9] 23 7) (e [tt 30 3 3,tt 31 3 8,ca 32 294 [31],ca 33 99 [30,32],so 3 3 33] (rl [8] 30 4))))) (d [ad 34 19 k1,m 19 34] [34]))))
def NF.l1:=(sp [ls 14 13 12] (s (i 14 .skip (x 0)) (s (b 1 (sd [ia 15 1 11 13,uu 16 1 15,m 5 16] [14,15,16] (sd [m 17 5,ln 18 17,mv 19 k0] [5] (b 2 (w NF.l2))))) (d [ad 35 13 k1,m 13 35] [17,18,19,20,35]))))
def NF:AFn:=⟨1,(sp [al 2 z3] (sd [ca 10 96 [k1],al 3 z3,so 3 3 10] [10] (s (sd [m 11 0,ln 12 11,mv 13 k0] [0] (b 0 (w NF.l1))) (sd [tt 36 3 3,so 3 2 36] [3,11,12,13,14,36] .ret)))),[.cell 2 true 3],false⟩
def PH.l1:=(sp [ls 13 12 11] (s (i 13 .skip (x 0)) (s (b 1 (sd [m 14 12,m 6 14] [13,14] (e [m 15 5,m 16 6,m 17 0,m 18 6,ia 19 3 17 18,tt 20 3 19,tt 21 3 3,ca 22 99 [20,21],ia 23 3 15 16,so 3 23 22] (rl [6] 15 9)))) (d [ad 24 12 k1,m 12 24] [24]))))
def PH:AFn:=⟨2,(sd [bx 3 1,mv 4 (.c .nil)] [1,4] (sd [m 7 0,ln 8 7,o 9 (.mk 9 3 56 z3 8 8),m 5 9] [7,8,9] (s (sd [m 10 0,ln 11 10,mv 12 k0] [10] (b 0 (w PH.l1))) (sd [m 25 5,m 4 25] [0,3,5,11,12,13,25] .ret)))),[.tmp 4],false⟩
def PB.l1:=(sp [ls 11 10 9] (s (i 11 .skip (x 0)) (s (b 1 (sd [m 12 10,m 6 12] [11,12] (sd [m 13 0,m 14 6,ia 15 3 13 14,tt 16 3 15,ca 17 97 [16],bi 18 .neq 17 k0,m 19 18,g 20 19 true (.q9 1),g 21 19 true (.q9 6),g 22 19 true (.u4 none 3 20 21),g 23 19 true (.ld true 3 22),g 24 19 true (.call 97 [23]),g 25 19 true (.bin .neq 24 k0),pk 26 19 25 kf] (ra 13 13) (i 26 (e [tt 27 3 5,m 28 0,m 29 6,ia 30 3 28 29,tt 31 3 30,m 32 1,m 33 6,ia 34 3 32 33,tt 35 3 34,ca 36 99 [31,35],ca 37 98 [27,36],so 3 5 37] (rl [6] 26 12)) .skip)))) (d [ad 38 10 k1,m 10 38] [6,26,38]))))
def PB:AFn:=⟨2,(sp [al 4 z3] (sd [ca 7 96 [k0],al 5 z3,so 3 5 7] [7] (s (sd [m 8 0,ln 9 8,mv 10 k0] [8] (b 0 (w PB.l1))) (sd [tt 39 3 5,so 3 4 39] [0,1,5,9,10,11,39] .ret)))),[.cell 4 true 3],false⟩
def O9.l1:=(sp [ls 13 12 11] (s (i 13 .skip (x 0)) (s (b 1 (sd [m 14 12,m 6 14] [13,14] (d [m 15 5,m 16 6,m 17 0,m 18 6,ia 19 1 17 18,uu 20 1 19,m 21 1,ca 22 297 [20,21],ia 23 3 15 16,so 3 23 22] (rl [6] 15 9)))) (d [ad 24 12 k1,m 12 24] [24]))))
def O9:AFn:=⟨2,(sd [mv 4 (.c .nil)] [4] (sd [m 7 0,ln 8 7,o 9 (.mk 9 3 56 z3 8 8),m 5 9] [7,8,9] (s (sd [m 10 0,ln 11 10,mv 12 k0] [10] (b 0 (w O9.l1))) (sd [m 25 5,m 4 25] [0,1,5,11,12,13,25] .ret)))),[.tmp 4],false⟩
def JV.l1:=(sp [ls 16 15 14] (s (i 16 .skip (x 0)) (s (b 1 (sd [m 17 15,m 5 17] [16,17] (d [m 18 4,m 19 5,m 20 3,o 21 (.mk 21 3 56 z3 20 20),ia 22 1 18 19,so 1 22 21] (rl [5] 18 5)))) (d [ad 23 15 k1,m 15 23] [23]))))
def JV.l3:=(sp [ls 32 31 30] (s (i 32 .skip (x 4)) (s (b 5 (sd [m 33 31,m 8 33] [32,33] (d [m 34 6,m 35 8,m 36 0,m 37 8,ia 38 1 36 37,uu 39 1 38,m 40 7,ia 41 3 39 40,tt 42 3 41,ia 43 3 34 35,so 3 43 42] (rl [8] 34 10)))) (d [ad 44 31 k1,m 31 44] [44]))))
def JV.l4:=(sp [ls 47 46 45] (s (i 47 .skip (x 6)) (s (b 7 (sd [m 48 46,m 9 48] [47,48] (e [m 49 4,m 50 9,ia 51 1 49 50,uu 52 1 51,m 53 7,m 54 0,m 55 9,ia 56 1 54 55,uu 57 1 56,m 58 6,ca 59 297 [57,58],ia 60 3 52 53,so 3 60 59] (rl [9] 49 12)))) (d [ad 61 46 k1,m 46 61] [61]))))
def JV.l2:=(sp [ls 28 27 26] (s (i 28 .skip (x 2)) (s (b 3 (sd [m 29 27,m 7 29] [28,29] (s (sp [m 30 3,mv 31 k0] (b 4 (w JV.l3))) (sd [m 45 3,mv 46 k0] [30,31,32] (b 6 (w JV.l4)))))) (d [ad 62 27 k1,m 27 62] [7,45,46,47,62]))))
def JV:AFn:=⟨1,(sd [mv 2 (.c .nil)] [2] (sd [m 10 0,ln 11 10,m 3 11] [10,11] (sd [m 12 3,o 13 (.mk 13 1 24 [.nil] 12 12),m 4 13] [12,13] (s (sp [m 14 3,mv 15 k0] (b 0 (w JV.l1))) (sd [m 24 3,o 25 (.mk 25 3 56 z3 24 24),m 6 25] [14,15,16,24,25] (s (sp [m 26 3,mv 27 k0] (b 2 (w JV.l2))) (sd [m 63 4,m 2 63] [0,3,4,6,26,27,28,63] .ret))))))),[.tmp 2],false⟩
def PI.l1:=(sp [ls 10 9 8] (s (i 10 .skip (x 0)) (s (b 1 (sd [ia 11 3 7 9,tt 12 3 11,al 5 z3,so 3 5 12] [10,11,12] (e [tt 13 3 3,tt 14 3 5,ca 15 256 [14],ca 16 98 [13,15],so 3 3 16] (rl [5] 13 4)))) (d [ad 17 9 k1,m 9 17] [17]))))
def PI:AFn:=⟨1,(sp [al 2 z3] (sd [ca 6 96 [k0],al 3 z3,so 3 3 6] [6] (s (sd [m 7 0,ln 8 7,mv 9 k0] [0] (b 0 (w PI.l1))) (sd [tt 18 3 3,so 3 2 18] [3,7,8,9,10,18] .ret)))),[.cell 2 true 3],false⟩
def PE.l1:=(sp [ls 11 10 9] (s (i 11 .skip (x 0)) (s (b 1 (sd [ia 12 3 8 10,tt 13 3 12,al 5 z3,so 3 5 13] [11,12,13] (sd [tt 14 3 5,ca 15 256 [14],al 6 z3,so 3 6 15] [5,14,15] (sd [tt 16 3 6,tt 17 3 3,ca 18 198 [16,17],bi 19 .gtr 18 k0] [16,17,18] (i 19 (d [tt 20 3 6,so 3 3 20] [6,19,20]) .skip))))) (d [ad 21 10 k1,m 10 21] [6,19,21]))))
def PE:AFn:=⟨1,(sp [al 2 z3] (sd [ca 7 96 [k0],al 3 z3,so 3 3 7] [7] (s (sd [m 8 0,ln 9 8,mv 10 k0] [0] (b 0 (w PE.l1))) (sd [tt 22 3 3,so 3 2 22] [3,8,9,10,11,22] .ret)))),[.cell 2 true 3],false⟩
def PA.l1:=(sp [ls 11 10 9] (s (i 11 .skip (x 0)) (s (b 1 (sd [ia 12 1 8 10,uu 13 1 12,m 6 13] [11,12,13] (sd [m 14 6,ca 15 300 [14],al 7 z3,so 3 7 15] [6,14,15] (se [tt 16 3 7,tt 17 3 7,ca 18 98 [16,17],tt 19 3 3,ca 20 198 [18,19],bi 21 .gtr 20 k0] (rl [7] 16 5) (i 21 (sd [mv 4 kf] [3,8,9,10,21] .ret) .skip))))) (d [ad 22 10 k1,m 10 22] [21,22]))))
def PA:AFn:=⟨2,(sd [bx 3 1,mv 4 kf] [1,4] (s (sd [m 8 0,ln 9 8,mv 10 k0] [0] (b 0 (w PA.l1))) (sd [mv 4 kt] (rl [3] 8 4) .ret))),[.tmp 4],false⟩
def LF.l1:=(sp [ls 16 15 14] (s (i 16 .skip (x 0)) (s (b 1 (sd [ia 17 1 13 15,uu 18 1 17,m 6 18] [16,17,18] (e [fa 19 4 0,q 20 [25] (.ld false 1 19),m 21 6,fa 22 4 1,tt 23 3 22,ca 24 296 [21,23],o 25 (.b8 25 1 [24]),o 26 (.app 26 1 24 20 25),fa 27 4 0,so 1 27 26] (rl [6] 19 9)))) (d [ad 28 15 k1,m 15 28] [28]))))
def LF.l2:=(s (sd [m 33 7,tt 34 3 8,ca 35 302 [33,34],nt 36 35] [33,34,35] (i 36 .skip (x 2))) (b 3 (s (sd [fa 37 4 4,uu 38 1 37,bi 39 .eql 38 (k 64)] [36,37,38] (i 39 (sd [o 40 (.build [.nil,(.bool false),.nil,.nil,z,(.bool false),.nil,.nil] []),so 8 2 40,mv 3 (k 14)] [4,7,8,39,40] .ret) .skip)) (se [m 41 7,ca 42 299 [41],tt 43 3 8,tt 44 3 8,ca 45 99 [43,44],m 7 42,so 3 8 45] (rl [39] 41 5) (d [fa 46 4 4,uu 47 1 46,bi 48 .mul 47 (k 2),fa 49 4 4,so 1 49 48] (ra 46 4))))))
def LF.l3:=(sp [ls 55 54 53] (s (i 55 .skip (x 4)) (s (b 5 (d [fa 56 4 5,tt 57 3 56,fa 58 4 1,tt 59 3 58,ca 60 99 [57,59],fa 61 4 5,so 3 61 60] (ra 55 7))) (d [ad 62 54 k1,m 54 62] [62]))))
def LF:AFn:=⟨1,(sd [al 2 [.nil,(.bool false),.nil,.nil,z,(.bool false),.nil,.nil],mv 3 k0] [3] (sd [m 9 0,ca 10 295 [9],ca 11 96 [k1],o 12 (.build [.nil,(.bool false),.nil,.nil,z,(.bool false),.nil,.nil] [(1,3,10),(4,1,k1),(5,3,11)]),al 4 [.nil,(.bool false),.nil,.nil,z,(.bool false),.nil,.nil],so 8 4 12] (ra 9 4) (s (sd [m 13 0,ln 14 13,mv 15 k0] [0] (b 0 (w LF.l1))) (se [fa 29 4 0,q 30 [8] (.ld false 1 29),fa 31 4 1,q 32 [8] (.ld true 3 31),al 8 z3,m 7 30,so 3 8 32] (rl [13,14,15,16] 29 4) (s (b 2 (w LF.l2)) (s (sd [fa 50 4 4,uu 51 1 50,bi 52 .mul (k 2) 51,sb 53 52 k1,mv 54 k0] [7,8,36,50,51,52] (b 4 (w LF.l3))) (sd [tt 63 8 4,so 8 2 63,mv 3 k0] [4,53,54,55,63] .ret))))))),[.cell 2 true 8,.tmp 3],false⟩
def PD.l1:=(sp [ls 15 14 13] (s (i 15 .skip (x 0)) (s (b 1 (sd [m 16 14,m 7 16] [15,16] (s (sd [m 17 7,bi 18 .gtr 17 k0] [17] (i 18 (d [fa 19 2 0,uu 20 1 19,m 21 6,ca 22 298 [20,21],m 6 22] (ra 18 5)) .skip)) (sd [fa 23 5 0,uu 24 1 23,m 25 6,o 26 (.b8 26 1 [25]),o 27 (.app 27 1 24 24 26),fa 28 5 0,so 1 28 27] (rl [18] 23 6) (sd [m 29 7,fa 30 2 4,uu 31 1 30,bi 32 .geq 29 31] [7,29,30,31] (i 32 (d [fa 33 5 1,tt 34 3 33,fa 35 2 1,tt 36 3 35,ca 37 99 [34,36],m 38 6,ca 39 301 [38],ca 40 98 [37,39],fa 41 5 1,so 3 41 40] (ra 32 10)) .skip)))))) (d [ad 42 14 k1,m 14 42] [32,42]))))
def PD:AFn:=⟨2,(sd [bx 2 0,al 4 [.nil,(.bool false),.nil,.nil]] [0] (sd [ca 8 96 [k0],o 9 (.build [.nil,(.bool false),.nil,.nil] [(1,3,8)]),al 5 [.nil,(.bool false),.nil,.nil],so 4 5 9] [8,9] (sd [m 10 1,m 6 10] [1,10] (s (sd [fa 11 2 4,uu 12 1 11,bi 13 .mul (k 2) 12,mv 14 k0] [11,12] (b 0 (w PD.l1))) (sd [tt 43 4 5,so 4 4 43] [2,5,6,13,14,15,43] .ret))))),[.cell 4 true 4],false⟩
def PC.l1:=(sp [ls 15 14 13] (s (i 15 .skip (x 0)) (s (b 1 (sd [ia 16 1 12 14,uu 17 1 16,m 9 17] [15,16,17] (d [tt 18 3 7,fa 19 3 1,tt 20 3 19,ca 21 99 [18,20],m 22 1,m 23 9,ca 24 297 [22,23],ca 25 256 [24],ca 26 98 [21,25],so 3 7 26] (rl [9] 18 9)))) (d [ad 27 14 k1,m 14 27] [27]))))
def PC:AFn:=⟨3,(sd [bx 3 0,bx 5 2,al 6 z3] [0,2] (sd [ca 10 96 [k0],al 7 z3,so 3 7 10] [10] (s (sd [fa 11 5 0,uu 12 1 11,ln 13 12,mv 14 k0] [11] (b 0 (w PC.l1))) (se [tt 28 3 7,m 29 1,ca 30 300 [29],fa 31 5 1,tt 32 3 31,ca 33 99 [30,32],ca 34 98 [28,33],so 3 6 34] (rl [1,3,5,7,12,13,14,15] 28 7) .ret)))),[.cell 6 true 3],false⟩
structure v7(L:Lib):Prop extends bp L where
 TH:L 294=some F.TH
 NF:L 295=some F.NF
 PH:L 296=some F.PH
 PB:L 297=some F.PB
 O9:L 298=some F.O9
 JV:L 299=some F.JV
 PI:L 300=some F.PI
 PE:L 301=some F.PE
 PA:L 302=some F.PA
 LF:L 303=some F.LF
 PD:L 304=some F.PD
 PC:L 305=some F.PC
def TI:AFn:=⟨1,(sd [bx 1 0,mv 2 kf] [0,2] (sd [tt 3 12 1,ca 4 21 [3],m 5 4,g 6 5 true (.o4 1 8),g 7 5 true (.ld false 1 6),g 8 5 true (.bin .leq 7 (k 16)),pk 9 5 8 kf,m 2 9] (rl [1] 3 7) .ret)),[.tmp 2],false⟩
def PF.l1:=(sp [ls 21 20 19] (s (i 21 .skip (x 0)) (s (b 1 (sd [ia 22 2 18 20,tt 23 2 22,al 8 [z,z],so 2 8 23] [21,22,23] (sd [fa 24 8 1,uu 25 1 24,m 26 5,bi 27 .rem 25 26,bi 28 .neq 27 k0] (rl [8] 24 4) (i 28 (d [mv 6 kf] [28]) .skip)))) (d [ad 29 20 k1,m 20 29] [28,29]))))
def PF:AFn:=⟨2,(sd [bx 2 0,al 4 z3] [0] (sd [fa 9 2 4,fa 10 9 1,uu 11 1 10,bi 12 .shl k1 11,m 5 12] (ra 9 4) (sp [mv 6 kt] (s (sd [fa 13 2 9,uu 14 1 13,m 15 1,ia 16 1 14 15,fa 17 16 0,uu 18 1 17,ln 19 18,mv 20 k0] (rl [1] 13 5) (b 0 (w PF.l1))) (s (b 2 (sd [m 31 6,m 30 31] [5,6,18,19,20,21,31] (i 30 (sd [ca 32 96 [k0],so 3 4 32] [2,30,32] .ret) (sd [fa 34 2 0,fa 35 34 2,uu 36 1 35,bi 37 .eql 36 (k 2),m 33 37] (rl [2,30] 34 4) (i 33 (sd [ca 38 151 [k1,(k 2)],so 3 4 38] [33,38] .ret) .skip))))) (sd [ca 39 96 [k1],so 3 4 39] [33,39] .ret)))))),[.cell 4 true 3],false⟩
def HK.l1:=(sp [ls 25 24 23] (s (i 25 .skip (x 0)) (s (b 1 (sd [m 26 24,m 7 26] [25,26] (d [m 27 6,m 28 7,ca 29 96 [k0],ia 30 3 27 28,so 3 30 29] (rl [7] 27 4)))) (d [ad 31 24 k1,m 24 31] [31]))))
def HK.l3:=(sp [ls 57 56 55] (s (i 57 .skip (x 4)) (s (b 5 (sd [ia 58 2 54 56,tt 59 2 58,al 13 [z,z],so 2 13 59] [57,58,59] (sd [m 60 6,fa 61 13 0,uu 62 1 61,ia 63 3 60 62,tt 64 3 63,ca 65 97 [64],bi 66 .neq 65 k0] (ra 60 6) (i 66 (e [tt 67 3 11,m 68 6,fa 69 13 0,uu 70 1 69,ia 71 3 68 70,tt 72 3 71,fa 73 13 1,uu 74 1 73,ca 75 96 [74],ca 76 99 [72,75],ca 77 98 [67,76],so 3 11 77] (rl [13] 66 12)) .skip)))) (d [ad 78 56 k1,m 56 78] [13,66,78]))))
def HK.l2:=(sp [ls 48 47 46] (s (i 48 .skip (x 2)) (s (b 3 (sd [m 49 47,ia 50 1 45 47,tt 51 1 50,al 10 [.nil],m 9 49,so 1 10 51] (ra 48 4) (sd [ca 52 96 [k0],al 11 z3,so 3 11 52] [52] (s (sd [fa 53 10 0,uu 54 1 53,ln 55 54,mv 56 k0] [10,53] (b 4 (w HK.l3))) (sd [m 79 6,m 80 5,m 81 9,ad 82 80 81,tt 83 3 11,tt 84 3 8,ca 85 99 [83,84],ia 86 3 79 82,so 3 86 85] (rl [11,54,55,56,57] 79 8) (sd [m 87 5,m 88 9,ad 89 87 88,m 90 1,bi 91 .eql 89 90] (rl [9] 87 4) (i 91 (d [m 92 6,m 93 1,ca 94 96 [k1],ia 95 3 92 93,so 3 95 94] (ra 91 5)) .skip))))))) (d [ad 96 47 k1,m 47 96] [91,96]))))
def HK:AFn:=⟨2,(sd [bx 2 0,mv 4 (.c .nil)] [0,4] (sd [fa 14 2 8,uu 15 1 14,ad 16 15 k1,m 5 16] [14,15,16] (sd [m 17 5,fa 18 2 9,uu 19 1 18,ln 20 19,ad 21 17 20,o 22 (.mk 22 3 56 z3 21 21),m 6 22] (ra 17 6) (s (sp [m 23 5,mv 24 k0] (b 0 (w HK.l1))) (s (sd [m 32 1,m 33 5,ls 34 32 33] [23,24,25,32,33] (i 34 (d [m 35 6,m 36 1,ca 37 96 [k1],ia 38 3 35 36,so 3 38 37] (ra 34 5)) .skip)) (sd [fa 39 2 4,fa 40 39 1,uu 41 1 40,bi 42 .shl k1 41,ca 43 151 [k1,42],al 8 z3,so 3 8 43] (rl [34] 39 5) (s (sd [fa 44 2 9,uu 45 1 44,ln 46 45,mv 47 k0] [2,44] (b 2 (w HK.l2))) (sd [m 97 6,m 4 97] [1,5,6,8,45,46,47,48,97] .ret)))))))),[.tmp 4],false⟩
def PG.l1:=(sp [ls 13 12 11] (s (i 13 .skip (x 0)) (s (b 1 (sd [m 14 12,m 6 14] [13,14] (d [m 15 5,m 16 6,m 17 0,m 18 6,ia 19 1 17 18,uu 20 1 19,m 21 1,ia 22 3 20 21,tt 23 3 22,ia 24 3 15 16,so 3 24 23] (rl [6] 15 10)))) (d [ad 25 12 k1,m 12 25] [25]))))
def PG:AFn:=⟨2,(sd [mv 4 (.c .nil)] [4] (sd [m 7 0,ln 8 7,o 9 (.mk 9 3 56 z3 8 8),m 5 9] [7,8,9] (s (sd [m 10 0,ln 11 10,mv 12 k0] [10] (b 0 (w PG.l1))) (sd [m 26 5,m 4 26] [0,1,5,11,12,13,26] .ret)))),[.tmp 4],false⟩
def TG:AFn:=⟨2,(sd [bx 2 0,al 4 z3] [0] (se [fa 5 2 0,tt 6 3 5,m 7 1,ca 8 96 [7],ca 9 99 [6,8],fa 10 2 3,tt 11 3 10,ca 12 98 [9,11],so 3 4 12] (rl [1,2] 5 8) .ret)),[.cell 4 true 3],false⟩
def NE.l1:=(sp [ls 42 41 40] (s (i 42 .skip (x 0)) (s (b 1 (sd [m 43 41,ia 44 8 39 41,tt 45 8 44,o 13 (.alloc 354013 [.nil,(.bool false),.nil,.nil,.nil,(.bool false),.nil,.nil]),m 12 43,so 8 13 45] (ra 42 4) (sd [m 46 12,o 47 (.mm false [46,k1]),m 14 47] [12,46,47] (se [m 48 14,m 49 14,o 50 (.u4 (some 2) 3 10 49),tt 51 3 50,fa 52 13 1,tt 53 3 52,fa 54 13 0,uu 55 1 54,m 56 0,ia 57 3 55 56,tt 58 3 57,ca 59 256 [58],ca 60 99 [53,59],ca 61 98 [51,60],o 62 (.u4 (some 2) 3 10 48),so 3 62 61] (ra 48 15) (e [m 63 14,m 64 14,o 65 (.u4 (some 2) 3 11 64),tt 66 3 65,fa 67 13 1,tt 68 3 67,tt 69 8 2,m 70 7,fa 71 13 4,tt 72 4 71,ca 73 305 [69,70,72],ca 74 99 [68,73],ca 75 98 [66,74],o 76 (.u4 (some 2) 3 11 63),so 3 76 75] (rl [13,14] 63 14)))))) (d [ad 77 41 k1,m 41 77] [77]))))
def NE.l2:=(sp [ls 79 78 (k 2)] (s (i 79 .skip (x 2)) (s (b 3 (sd [m 80 78,m 15 80] [79,80] (se [m 82 15,o 83 (.u4 (some 2) 3 11 82),q 84 [354016] (.ld true 3 83),q 85 [354016] (.ld true 3 9),q 86 [354016] (.call 100 [84,85]),m 81 86,et 87 81 0,et 88 81 1,o 16 (.alloc 354016 z3),so 3 16 87,m 17 88] (rl [17] 81 8) (e [m 89 15,m 90 15,o 91 (.u4 (some 2) 3 10 90),tt 92 3 91,tt 93 3 16,ca 94 98 [92,93],o 95 (.u4 (some 2) 3 10 89),so 3 95 94] (rl [15,16] 89 7))))) (d [ad 96 78 k1,m 78 96] [96]))))
def NE:AFn:=⟨5,(sp [o 6 (.alloc 354006 [(.bool false),.nil,.nil,(.bool false),.nil,.nil])] (sd [uu 18 1 1,m 19 0,ca 20 352 [18,19],m 7 20] [1,18,19,20] (sd [m 21 7,o 22 (.b8 354022 1 [21]),ca 23 295 [22],o 8 (.alloc 354008 z3),so 3 8 23] [21,22,23] (sd [m 24 7,tt 25 3 8,ca 26 296 [24,25],m 7 26] [24,25,26] (se [fa 27 2 5,q 28 [354009] (.ld true 3 27),q 29 [354009] (.ld true 3 3),q 30 [354009] (.ld true 3 8),q 31 [354009] (.call 99 [29,30]),q 32 [354009] (.call 99 [28,31]),o 9 (.alloc 354009 z3),so 3 9 32] (rl [3,8] 27 6) (sd [ca 33 96 [k0],ca 34 96 [k0],o 35 (.build [(.bool false),.nil,.nil,(.bool false),.nil,.nil] [(0,3,33),(3,3,34)]),o 10 (.alloc 354010 [(.bool false),.nil,.nil,(.bool false),.nil,.nil]),so 6 10 35] [33,34,35] (sd [ca 36 96 [k0],ca 37 96 [k0],o 38 (.build [(.bool false),.nil,.nil,(.bool false),.nil,.nil] [(0,3,36),(3,3,37)]),o 11 (.alloc 354011 [(.bool false),.nil,.nil,(.bool false),.nil,.nil]),so 6 11 38] [36,37,38] (s (sd [uu 39 1 4,ln 40 39,mv 41 k0] [4] (b 0 (w NE.l1))) (s (sd [mv 78 k0] (rl [0,2,7] 39 4) (b 2 (w NE.l2))) (sd [o 97 (.u4 (some 2) 3 10 k0),tt 98 3 97,o 99 (.u4 (some 2) 3 10 k1),tt 100 3 99,o 101 (.build [(.bool false),.nil,.nil,(.bool false),.nil,.nil] [(0,3,98),(3,3,100)]),so 6 6 101] (rl [9,10,11,78,79] 97 5) .ret)))))))))),[.cell 6 true 6],false⟩
def LE.l2:=(sp [ls 28 27 26] (s (i 28 .skip (x 2)) (s (b 3 (sd [ia 29 1 25 27,uu 30 1 29,m 11 30] [28,29,30] (e [m 31 7,m 32 8,m 33 7,m 34 8,ia 35 1 33 34,q 36 [355042] (.ld false 1 35),fa 37 9 0,uu 38 1 37,m 39 11,ia 40 3 38 39,tt 41 3 40,o 42 (.b8 355042 3 [41]),o 43 (.app 355043 3 56 36 42),ia 44 1 31 32,so 1 44 43] (rl [11] 31 14)))) (d [ad 45 27 k1,m 27 45] [45]))))
def LE.l1:=(sp [ls 20 19 18] (s (i 20 .skip (x 0)) (s (b 1 (sd [m 21 19,ia 22 8 17 19,tt 23 8 22,o 9 (.alloc 355009 [.nil,(.bool false),.nil,.nil,.nil,(.bool false),.nil,.nil]),m 8 21,so 8 9 23] (ra 20 4) (sd [fa 24 4 10,uu 25 1 24,ln 26 25,mv 27 k0] [24] (b 2 (w LE.l2))))) (d [ad 46 19 k1,m 19 46] [8,9,25,26,27,28,46]))))
def LE.l3:=(sp [ls 52 51 50] (s (i 52 .skip (x 4)) (s (b 5 (sd [m 53 51,m 13 53] [52,53] (e [m 54 2,m 55 13,tt 56 8 3,m 57 7,m 58 13,ia 59 1 57 58,uu 60 1 59,tt 61 3 12,ca 62 296 [60,61],o 63 (.o8 304 [56,62]),ia 64 8 54 55,fa 65 64 4,so 4 65 63] (rl [13] 54 12)))) (d [ad 66 51 k1,m 51 66] [66]))))
def LE:AFn:=⟨3,(sd [o 3 (.box 355003 0),o 4 (.box 355004 1),o 6 (.alloc 355006 z3)] [0,1] (sd [m 14 2,ln 15 14,o 16 (.mk 355016 1 24 [.nil] 15 15),m 7 16] [14,15,16] (s (sp [m 17 2,ln 18 17,mv 19 k0] (b 0 (w LE.l1))) (sd [m 47 7,ca 48 295 [47],o 12 (.alloc 355012 z3),so 3 12 48] [4,17,18,19,20,47,48] (s (sd [m 49 2,ln 50 49,mv 51 k0] [49] (b 4 (w LE.l3))) (sd [tt 67 3 12,so 3 6 67] [2,3,7,12,50,51,52,67] .ret)))))),[.cell 6 true 3],false⟩
def LD.l1:=(sp [ls 21 20 19] (s (i 21 .skip (x 0)) (s (b 1 (sd [m 22 20,m 5 22] [21,22] (e [q 23 [356028] (.ld false 1 4),m 24 5,tt 25 12 1,m 26 5,ad 27 k1 26,o 28 (.y5 356028 351 [25,27]),ia 29 1 23 24,so 1 29 28] (rl [5] 23 7)))) (d [ad 30 20 k1,m 20 30] [30]))))
def LD.l2:=(sp [ls 35 34 33] (s (i 35 .skip (x 2)) (s (b 3 (sd [ia 36 1 32 34,uu 37 1 36,m 8 37] [35,36,37] (d [m 38 6,uu 39 1 4,m 40 8,ca 41 352 [39,40],o 42 (.b8 356042 1 [41]),o 43 (.app 356043 1 24 38 42),m 6 43] (rl [8] 38 6)))) (d [ad 44 34 k1,m 34 44] [44]))))
def LD.l3:=(sp [ls 62 61 60] (s (i 62 .skip (x 4)) (s (b 5 (sd [m 63 61,m 12 63] [62,63] (sd [tt 64 12 1,m 65 12,ca 66 350 [64,65],o 13 (.alloc 356013 z3),so 3 13 66] [64,65,66] (sd [tt 67 3 13,ca 68 97 [67],bi 69 .gtr 68 k0] [67,68] (i 69 (e [q 70 [356080] (.ld false 1 11),tt 71 12 1,fa 72 1 8,uu 73 1 72,ad 74 k1 73,m 75 12,ad 76 74 75,ca 77 351 [71,76],tt 78 3 13,o 79 (.build [.nil,(.bool false),.nil,.nil,.nil,(.bool false),.nil,.nil] [(0,1,77),(1,3,78)]),o 80 (.b8 356080 8 [79]),o 81 (.app 356081 8 160 70 80),so 1 11 81] (rl [12,13] 69 13)) .skip))))) (d [ad 82 61 k1,m 61 82] [12,13,69,82]))))
def LD:AFn:=⟨1,(sd [o 1 (.box 356001 0),mv 2 (.c (.y8 .nilFunc)),mv 3 k0] [0,2,3] (sd [fa 15 1 8,uu 16 1 15,o 17 (.mk 356017 1 24 [.nil] 16 16),o 4 (.alloc 356004 [.nil]),so 1 4 17] [15,16,17] (s (sd [uu 18 1 4,ln 19 18,mv 20 k0] [18] (b 0 (w LD.l1))) (sd [o 6 (.ak 356006 1)] [19,20,21] (s (sd [fa 31 1 10,uu 32 1 31,ln 33 32,mv 34 k0] [31] (b 2 (w LD.l2))) (sd [m 46 6,ca 47 303 [46],m 45 47,et 48 45 0,et 49 45 1,o 9 (.alloc 356009 [.nil,(.bool false),.nil,.nil,z,(.bool false),.nil,.nil]),so 8 9 48,m 10 49] (rl [6,32,33,34,35] 45 5) (s (sd [m 50 10,bi 51 .neq 50 k0] [50] (i 51 (sd [m 52 10,mv 2 (.c (.y8 .nilFunc)),m 3 52] [1,4,9,10,51,52] .ret) .skip)) (sd [tt 53 12 1,ca 54 351 [53,k0],ca 55 96 [k1],o 56 (.build [.nil,(.bool false),.nil,.nil,.nil,(.bool false),.nil,.nil] [(0,1,54),(1,3,55)]),o 57 (.b8 356057 8 [56]),o 11 (.alloc 356011 [.nil]),so 1 11 57] (rl [10,51] 53 5) (s (sd [fa 58 1 9,uu 59 1 58,ln 60 59,mv 61 k0] [58,59] (b 4 (w LD.l3))) (sd [tt 83 8 9,tt 84 12 1,uu 85 1 11,o 86 (.j6 355 [83,84,85]),o 14 (.alloc 356014 z3),so 3 14 86] (rl [1,60,61,62] 83 4) (sd [o 87 (.qm false 354 [4,9,14,11]),m 2 87,mv 3 k0] [4,9,11,14,87] .ret))))))))))),[.tmp 2,.tmp 3],false⟩
structure x7(L:Lib):Prop extends v7 L where
 TI:L 349=some F.TI
 PF:L 350=some F.PF
 HK:L 351=some F.HK
 PG:L 352=some F.PG
 TG:L 353=some F.TG
 NE:L 354=some F.NE
 LE:L 355=some F.LE
 LD:L 356=some F.LD
def TF:AFn:=⟨3,(sd [bx 3 0,al 6 z3,mv 7 k0] [0,7] (s (sd [tt 10 12 3,ca 11 349 [10],nt 12 11] [10,11] (i 12 (sd [o 13 (.build z3 []),so 3 6 13,mv 7 (k 2)] [1,2,3,12,13] .ret) .skip)) (s (sd [m 14 1,ls 15 14 k0,m 16 15,g 17 16 false (.q9 1),g 18 16 false (.o4 3 8),g 19 16 false (.ld false 1 18),g 20 16 false (.o4 3 9),g 21 16 false (.ld false 1 20),g 22 16 false (.len 21),g 23 16 false (.bin .add 19 22),g 24 16 false (.bin .gtr 17 23),pk 25 16 kt 24,m 26 25,g 27 26 false (.q9 2),g 28 26 false (.bin .lss 27 k0),pk 29 26 kt 28,m 30 29,g 31 30 false (.q9 2),g 32 30 false (.o4 3 0),g 33 30 false (.ld true 4 32),g 34 30 false (.call 4 [33]),g 35 30 false (.bin .gtr 31 34),pk 36 30 kt 35] (rl [12] 14 22) (i 36 (sd [o 37 (.build z3 []),so 3 6 37,mv 7 k1] [1,2,3,36,37] .ret) .skip)) (sd [tt 39 12 3,o 40 (.j6 356 [39]),m 38 40,et 41 38 0,et 42 38 1,m 8 41,m 9 42] (rl [3,36] 38 5) (s (sd [m 43 9,bi 44 .neq 43 k0] [43] (i 44 (sd [o 45 (.build z3 []),m 46 9,so 3 6 45,m 7 46] [1,2,8,9,44,45,46] .ret) .skip)) (sd [m 47 8,m 48 1,o 49 (.v8 47 [48]),m 50 2,ca 51 353 [49,50],so 3 6 51,mv 7 k0] (rl [1,2,8,9,44] 47 5) .ret)))))),[.cell 6 true 3,.tmp 7],false⟩
structure dt(L:Lib):Prop extends x7 L where
 TF:L 360=some F.TF
def TW:AFn:=⟨1,(sd [bx 1 0,al 2 [(.bool false),.nil]] [0] (sd [fa 3 1 1,uu 4 1 3,ca 5 101 [4],o 6 (.build [(.bool false),.nil] [(1,1,5)]),so 2 2 6] [1,3,4,5,6] .ret)),[.cell 2 true 2],false⟩
def UB:AFn:=⟨1,(sd [bx 1 0,al 2 z3] [0] (sd [tt 3 3 1,ca 4 123 [3],so 3 1 4] [3,4] (sd [fa 5 1 0,tt 6 2 5,ca 7 308 [6],fa 8 1 0,so 2 8 7] (ra 5 4) (sd [tt 9 3 1,so 3 2 9] [1,9] .ret)))),[.cell 2 true 3],false⟩
def P7.l1:=(s (sd [m 4 3,m 5 0,ln 6 5,ls 7 4 6] [4,5,6] (i 7 .skip (x 0))) (s (b 1 (sd [m 10 0,m 11 3,ia 12 1 10 11,uu 13 1 12,ln 14 13,m 15 0,ln 16 15,bi 17 .neq 14 16] (rl [7] 10 7) (i 17 (sd [mv 2 kf] [0,3,17] .ret) .skip))) (d [m 8 3,ad 9 8 k1,m 3 9] [8,9,17])))
def P7:AFn:=⟨1,(sd [mv 2 kf] [2] (s (sp [mv 3 k0] (b 0 (w P7.l1))) (sd [m 18 0,ln 19 18,bi 20 .leq 19 (k 16),m 2 20] [0,3,7,18,19,20] .ret))),[.tmp 2],false⟩
def P5.l1:=(s (sd [m 6 4,m 7 0,ln 8 7,ls 9 6 8] [6,7,8] (i 9 .skip (x 0))) (s (b 1 (e [tt 12 3 3,m 13 0,m 14 4,ia 15 3 13 14,tt 16 3 15,ca 17 309 [16],ca 18 126 [12,17],so 3 3 18] (rl [9] 12 7))) (d [m 10 4,ad 11 10 k1,m 4 11] [10,11])))
def P5:AFn:=⟨1,(sp [al 2 z3] (sd [ca 5 124 [k0],al 3 z3,so 3 3 5] [5] (s (sp [mv 4 k0] (b 0 (w P5.l1))) (sd [tt 19 3 3,so 3 2 19] [0,3,4,9,19] .ret)))),[.cell 2 true 3],false⟩
def P2.l1:=(s (sd [m 6 4,m 7 0,ln 8 7,ls 9 6 8] [6,7,8] (i 9 .skip (x 0))) (s (b 1 (se [m 12 0,m 13 4,ia 14 3 12 13,tt 15 3 14,ca 16 309 [15],tt 17 3 3,ca 18 127 [16,17],bi 19 .gtr 18 k0] (rl [9] 12 7) (i 19 (d [m 20 0,m 21 4,ia 22 3 20 21,tt 23 3 22,ca 24 309 [23],so 3 3 24] (ra 19 6)) .skip))) (d [m 10 4,ad 11 10 k1,m 4 11] [10,11,19])))
def P2:AFn:=⟨1,(sp [al 2 z3] (sd [ca 5 124 [k0],al 3 z3,so 3 3 5] [5] (s (sp [mv 4 k0] (b 0 (w P2.l1))) (sd [tt 25 3 3,so 3 2 25] [0,3,4,9,25] .ret)))),[.cell 2 true 3],false⟩
def LJ.l3:=(s (sd [m 24 7,m 25 0,ln 26 25,ls 27 24 26] [24,25,26] (i 27 .skip (x 4))) (s (b 5 (e [tt 30 3 6,m 31 0,m 32 4,ia 33 1 31 32,uu 34 1 33,m 35 7,ia 36 3 34 35,tt 37 3 36,m 38 0,m 39 7,ia 40 1 38 39,uu 41 1 40,m 42 5,ia 43 3 41 42,tt 44 3 43,ca 45 128 [37,44],ca 46 126 [30,45],so 3 6 46] (rl [27] 30 17))) (d [m 28 7,ad 29 28 k1,m 7 29] [28,29])))
def LJ.l2:=(s (sd [m 17 5,m 18 0,ln 19 18,ls 20 17 19] [17,18,19] (i 20 .skip (x 2))) (s (b 3 (sd [ca 23 124 [k0],al 6 z3,so 3 6 23] [20,23] (s (sp [mv 7 k0] (b 4 (w LJ.l3))) (e [m 47 3,m 48 4,m 49 3,m 50 4,ia 51 1 49 50,q 52 [54] (.ld false 1 51),tt 53 3 6,o 54 (.b8 54 3 [53]),o 55 (.app 55 3 56 52 54),ia 56 1 47 48,so 1 56 55] (rl [6,7,27] 47 10))))) (d [m 21 5,ad 22 21 k1,m 5 22] [21,22])))
def LJ.l1:=(s (sd [m 11 4,m 12 0,ln 13 12,ls 14 11 13] [11,12,13] (i 14 .skip (x 0))) (s (b 1 (sd [mv 5 k0] [14] (b 2 (w LJ.l2)))) (d [m 15 4,ad 16 15 k1,m 4 16] [5,15,16,20])))
def LJ:AFn:=⟨1,(sd [mv 2 (.c .nil)] [2] (sd [m 8 0,ln 9 8,o 10 (.mk 10 1 24 [.nil] 9 9),m 3 10] [8,9,10] (s (sp [mv 4 k0] (b 0 (w LJ.l1))) (sd [m 57 3,m 2 57] [0,3,4,14,57] .ret)))),[.tmp 2],false⟩
def NM.l2:=(s (sd [m 14 6,m 15 0,ln 16 15,ls 17 14 16] [14,15,16] (i 17 .skip (x 2))) (s (b 3 (d [m 20 5,m 21 20,g 22 21 true (.q9 0),g 23 21 true (.q9 6),g 24 21 true (.u4 none 1 22 23),g 25 21 true (.ld false 1 24),g 26 21 true (.call 311 [25]),g 27 21 true (.call 125 [k1,(k 2)]),g 28 21 true (.call 127 [26,27]),g 29 21 true (.bin .leq 28 k0),pk 30 21 29 kf,m 5 30] (rl [17] 20 11))) (d [m 18 6,ad 19 18 k1,m 6 19] [18,19])))
def NM.l1:=(s (sd [m 10 4,bi 11 .leq 10 (k 64)] [10] (i 11 .skip (x 0))) (s (b 1 (sd [mv 5 kt] [11] (s (sp [mv 6 k0] (b 2 (w NM.l2))) (s (sd [m 31 5] [5,6,17] (i 31 (sd [m 32 4,m 2 32,mv 3 k0] [0,4,31,32] .ret) .skip)) (d [m 33 0,ca 34 313 [33],m 0 34] [31,33,34]))))) (d [m 12 4,bi 13 .mul (k 2) 12,m 4 13] [12,13])))
def NM:AFn:=⟨1,(sd [mv 2 k0,mv 3 k0] [2,3] (s (sd [m 7 0,ca 8 310 [7],nt 9 8] [7,8] (i 9 (sd [mv 2 k0,mv 3 (k 2)] [0,9] .ret) .skip)) (s (sd [mv 4 k1] [9] (b 0 (w NM.l1))) (sd [mv 2 k0,mv 3 (k 14)] [0,4,11] .ret)))),[.tmp 2,.tmp 3],false⟩
def P6.l1:=(s (sd [m 34 8,m 35 4,bi 36 .mul (k 2) 35,ls 37 34 36] [34,35,36] (i 37 .skip (x 0))) (s (b 1 (se [tt 40 3 6,fa 41 1 2,uu 42 1 41,m 43 7,ca 44 137 [42,43],ca 45 309 [44],ca 46 126 [40,45],so 3 6 46] (rl [37] 40 7) (s (sd [m 47 8,m 48 4,bi 49 .geq 47 48] [47,48] (i 49 (e [tt 50 3 6,fa 51 1 2,uu 52 1 51,ca 53 311 [52],m 54 7,ca 55 312 [54],ca 56 128 [53,55],ca 57 126 [50,56],so 3 6 57] (ra 49 9)) .skip)) (d [fa 58 1 0,uu 59 1 58,m 60 7,ca 61 138 [59,60],m 7 61] (rl [49] 58 4))))) (d [m 38 8,ad 39 38 k1,m 8 39] [38,39])))
def P6:AFn:=⟨1,(sd [bx 1 0,al 2 z3,mv 3 k0] [0,3] (s (sd [tt 9 6 1,ca 10 136 [9],nt 11 10,m 12 11,g 13 12 false (.o4 1 0),g 14 12 false (.ld false 1 13),g 15 12 false (.len 14),g 16 12 false (.bin .gtr 15 (k 16)),pk 17 12 kt 16] (ra 9 8) (i 17 (sd [o 18 (.build z3 []),so 3 2 18,mv 3 (k 2)] [1,17,18] .ret) .skip)) (sd [fa 20 1 0,uu 21 1 20,ca 22 314 [21],m 19 22,et 23 19 0,et 24 19 1,m 4 23,m 5 24] (rl [17] 19 6) (s (sd [m 25 5,bi 26 .neq 25 k0] [25] (i 26 (sd [o 27 (.build z3 []),m 28 5,so 3 2 27,m 3 28] [1,4,5,26,27,28] .ret) .skip)) (sd [fa 29 1 3,tt 30 3 29,ca 31 309 [30],al 6 z3,so 3 6 31] [5,26,29,30,31] (sd [fa 32 1 1,uu 33 1 32,m 7 33] [32,33] (s (sp [mv 8 k0] (b 0 (w P6.l1))) (sd [tt 62 3 6,so 3 2 62,mv 3 k0] [1,4,6,7,8,37,62] .ret)))))))),[.cell 2 true 3,.tmp 3],false⟩
structure bk(L:Lib):Prop extends cp L where
 TW:L 308=some F.TW
 UB:L 309=some F.UB
 P7:L 310=some F.P7
 P5:L 311=some F.P5
 P2:L 312=some F.P2
 LJ:L 313=some F.LJ
 NM:L 314=some F.NM
 P6:L 315=some F.P6
def J0.l1:=(s (sd [m 30 6,fa 31 2 8,uu 32 1 31,ls 33 30 32] [30,31,32] (i 33 .skip (x 0))) (s (b 1 (d [m 36 5,fa 37 2 8,uu 38 1 37,ad 39 38 k1,m 40 6,o 41 (.y5 41 135 [39,40]),o 42 (.b8 42 1 [41]),o 43 (.app 43 1 24 36 42),m 5 43] (rl [33] 36 8))) (d [m 34 6,ad 35 34 k1,m 6 35] [34,35])))
def J0.l4:=(s (sd [m 75 11,m 76 8,ln 77 76,ls 78 75 77] [75,76,77] (i 78 .skip (x 6))) (s (b 7 (e [m 81 8,m 82 11,m 83 8,m 84 11,ia 85 3 83 84,tt 86 3 85,fa 87 10 1,uu 88 1 87,fa 89 2 4,fa 90 89 1,uu 91 1 90,cu 92 91,bi 93 .shl k1 92,ca 94 125 [88,93],m 95 5,fa 96 10 0,uu 97 1 96,ia 98 1 95 97,uu 99 1 98,m 100 11,ia 101 3 99 100,tt 102 3 101,ca 103 128 [94,102],ca 104 126 [86,103],ia 105 3 81 82,so 3 105 104] (rl [78] 81 25))) (d [m 79 11,ad 80 79 k1,m 11 80] [79,80])))
def J0.l3:=(s (sd [m 55 9,fa 56 2 9,uu 57 1 56,m 58 7,ia 59 1 57 58,fa 60 59 0,uu 61 1 60,ln 62 61,ls 63 55 62] (ra 55 8) (i 63 .skip (x 4))) (s (b 5 (sd [fa 66 2 9,uu 67 1 66,m 68 7,ia 69 1 67 68,fa 70 69 0,uu 71 1 70,m 72 9,ia 73 2 71 72,tt 74 2 73,al 10 [z,z],so 2 10 74] (rl [63] 66 9) (sp [mv 11 k0] (b 6 (w J0.l4))))) (d [m 64 9,ad 65 64 k1,m 9 65] [10,11,64,65,78])))
def J0.l2:=(s (sd [m 44 7,fa 45 2 9,uu 46 1 45,ln 47 46,ls 48 44 47] (ra 44 4) (i 48 .skip (x 2))) (s (b 3 (sd [fa 51 2 8,uu 52 1 51,ad 53 52 k1,o 54 (.y5 54 135 [53,(k (-1))]),m 8 54] (rl [48] 51 4) (s (sp [mv 9 k0] (b 4 (w J0.l3))) (s (sd [m 106 7,m 107 1,bi 108 .eql 106 107] [9,63,106,107] (i 108 (e [m 109 8,fa 110 2 8,uu 111 1 110,m 112 8,fa 113 2 8,uu 114 1 113,ia 115 3 112 114,tt 116 3 115,ca 117 124 [k1],ca 118 126 [116,117],ia 119 3 109 111,so 3 119 118] (ra 108 12)) .skip)) (d [m 120 5,m 121 8,o 122 (.b8 122 1 [121]),o 123 (.app 123 1 24 120 122),m 5 123] (rl [8,108] 120 4)))))) (d [m 49 7,ad 50 49 k1,m 7 50] [49,50])))
def J0:AFn:=⟨2,(sd [bx 2 0,mv 4 (.c .nil)] [0,4] (sp [o 5 (.ak 5 1)] (s (sd [m 12 1,bi 13 .geq 12 k0] [12] (i 13 (d [m 14 5,fa 15 2 8,uu 16 1 15,ad 17 16 k1,o 18 (.y5 18 135 [17,(k (-1))]),o 19 (.b8 19 1 [18]),o 20 (.app 20 1 24 14 19),m 5 20] (ra 13 8)) (d [m 21 5,fa 22 2 8,uu 23 1 22,ad 24 23 k1,fa 25 2 8,uu 26 1 25,o 27 (.y5 27 135 [24,26]),o 28 (.b8 28 1 [27]),o 29 (.app 29 1 24 21 28),m 5 29] (rl [13] 21 9)))) (s (sp [mv 6 k0] (b 0 (w J0.l1))) (s (sd [mv 7 k0] [6,33] (b 2 (w J0.l2))) (sd [m 124 5,m 4 124] [1,2,5,7,48,124] .ret)))))),[.tmp 4],false⟩
def PZ.l1:=(s (sd [m 25 6,fa 26 2 8,uu 27 1 26,ls 28 25 27] [25,26,27] (i 28 .skip (x 0))) (s (b 1 (se [fa 31 5 0,q 32 [44] (.ld false 1 31),m 33 1,fa 34 2 10,uu 35 1 34,m 36 6,ia 37 1 35 36,uu 38 1 37,ia 39 1 33 38,uu 40 1 39,fa 41 2 8,uu 42 1 41,o 43 (.iz 3 40 none (some 42)),o 44 (.b8 44 1 [43]),o 45 (.app 45 1 24 32 44),fa 46 5 0,so 1 46 45] (rl [28] 31 16) (e [fa 47 5 1,q 48 [61] (.ld false 1 47),m 49 1,fa 50 2 10,uu 51 1 50,m 52 6,ia 53 1 51 52,uu 54 1 53,ia 55 1 49 54,uu 56 1 55,fa 57 2 8,uu 58 1 57,ia 59 3 56 58,tt 60 3 59,o 61 (.b8 61 3 [60]),o 62 (.app 62 3 56 48 61),fa 63 5 1,so 1 63 62] (ra 47 17)))) (d [m 29 6,ad 30 29 k1,m 6 30] [29,30])))
def PZ:AFn:=⟨2,(sd [bx 2 0,al 4 z6] [0] (se [m 7 1,fa 8 2 11,q 9 [5] (.ld false 1 8),ia 10 1 7 9,q 11 [5] (.ld false 1 10),fa 12 2 8,q 13 [5] (.ld false 1 12),o 14 (.iz 3 11 none (some 13)),m 15 1,fa 16 2 11,q 17 [5] (.ld false 1 16),ia 18 1 15 17,q 19 [5] (.ld false 1 18),fa 20 2 8,q 21 [5] (.ld false 1 20),ia 22 3 19 21,q 23 [5] (.ld true 3 22),o 24 (.build z6 [(2,1,14),(3,3,23)]),al 5 z6,so 6 5 24] (ra 7 18) (s (sp [mv 6 k0] (b 0 (w PZ.l1))) (sd [tt 64 6 5,so 6 4 64] [1,2,5,6,28,64] .ret)))),[.cell 4 true 6],false⟩
def UT:AFn:=⟨1,(sd [bx 1 0,al 2 z6,mv 3 k0] [0,3] (s (sd [tt 4 12 1,ca 5 27 [4],nt 6 5] [4,5] (i 6 (sd [o 7 (.build z6 []),so 6 2 7,mv 3 (k 2)] [1,6,7] .ret) .skip)) (se [tt 8 12 1,tt 9 12 1,ca 10 163 [9,(k (-1))],ca 11 164 [8,10],so 6 2 11,mv 3 k0] (rl [1,6] 8 4) .ret))),[.cell 2 true 6,.tmp 3],false⟩
def US:AFn:=⟨2,(sd [bx 2 0,al 4 z6,mv 5 k0] [0,5] (s (sd [tt 6 12 2,ca 7 27 [6],nt 8 7] [6,7] (i 8 (sd [o 9 (.build z6 []),so 6 4 9,mv 5 (k 2)] [1,2,8,9] .ret) .skip)) (s (sd [m 10 1,fa 11 2 9,uu 12 1 11,ln 13 12,sb 14 13 k1,ca 15 10 [10,k0,14],nt 16 15] (rl [8] 10 6) (i 16 (sd [o 17 (.build z6 []),so 6 4 17,mv 5 k1] [1,2,16,17] .ret) .skip)) (se [tt 18 12 2,tt 19 12 2,m 20 1,ca 21 163 [19,20],ca 22 164 [18,21],so 6 4 22,mv 5 k0] (rl [1,2,16] 18 5) .ret)))),[.cell 4 true 6,.tmp 5],false⟩
structure au(L:Lib):Prop extends ju L,bg L,jv L where
 J0:L 163=some F.J0
 PZ:L 164=some F.PZ
 UT:L 165=some F.UT
 US:L 166=some F.US
def NL.l1:=(s (sd [m 17 4,m 18 5,ls 19 17 18] [17,18] (i 19 .skip (x 0))) (b 1 (sd [m 20 4,m 21 5,m 22 4,sb 23 21 22,ad 24 23 k1,bi 25 .quo 24 (k 2),ad 26 20 25,m 6 26] (ra 19 8) (se [m 27 6,ca 28 124 [27],tt 29 3 1,ca 30 127 [28,29],bi 31 .leq 30 k0] (ra 27 4) (i 31 (d [m 32 6,m 4 32] [6,31,32]) (d [m 33 6,sb 34 33 k1,m 5 34] [6,31,33,34]))))))
def NL:AFn:=⟨1,(sd [bx 1 0,mv 2 k0,mv 3 kf] [0,2,3] (s (se [tt 7 3 1,ca 8 124 [(k 1099511627776)],ca 9 127 [7,8],bi 10 .gtr 9 k0,m 11 10,g 12 11 false (.ld true 3 1),g 13 11 false (.call 124 [(k (-1099511627776))]),g 14 11 false (.call 127 [12,13]),g 15 11 false (.bin .lss 14 k0),pk 16 11 kt 15] (ra 7 9) (i 16 (sd [mv 2 k0,mv 3 kf] [1,16] .ret) .skip)) (sd [mv 4 (k (-1099511627776)),mv 5 (k 1099511627776)] [16] (s (b 0 (w NL.l1)) (sd [m 35 4,m 2 35,mv 3 kt] [1,4,5,19,35] .ret))))),[.tmp 2,.tmp 3],false⟩
structure ct(L:Lib):Prop extends b7 L where
 NL:L 361=some F.NL
def P3.l1:=(s (sd [m 20 7,fa 21 2 9,uu 22 1 21,m 23 1,ia 24 1 22 23,fa 25 24 0,uu 26 1 25,ln 27 26,ls 28 20 27] (ra 20 8) (i 28 .skip (x 0))) (s (b 1 (e [m 31 6,m 32 31,g 33 32 true (.o4 2 9),g 34 32 true (.ld false 1 33),g 35 32 true (.q9 1),g 36 32 true (.u4 none 1 34 35),g 37 32 true (.o4 36 0),g 38 32 true (.ld false 1 37),g 39 32 true (.q9 7),g 40 32 true (.u4 none 2 38 39),g 41 32 true (.o4 40 1),g 42 32 true (.ld false 1 41),g 43 32 true (.o4 2 4),g 44 32 true (.o4 43 1),g 45 32 true (.ld false 1 44),g 46 32 true (.conv .u64 45),g 47 32 true (.bin .shl k1 46),g 48 32 true (.bin .rem 42 47),g 49 32 true (.bin .eql 48 k0),pk 50 32 49 kf,m 6 50] (rl [28] 31 20))) (d [m 29 7,ad 30 29 k1,m 7 30] [29,30])))
def P3:AFn:=⟨2,(sd [bx 2 0,al 4 z3,mv 5 k0] [0,5] (s (sd [tt 8 12 2,ca 9 27 [8],nt 10 9] [8,9] (i 10 (sd [o 11 (.build z3 []),so 3 4 11,mv 5 (k 2)] [1,2,10,11] .ret) .skip)) (s (sd [m 12 1,fa 13 2 9,uu 14 1 13,ln 15 14,sb 16 15 k1,ca 17 10 [12,k0,16],nt 18 17] (rl [10] 12 6) (i 18 (sd [o 19 (.build z3 []),so 3 4 19,mv 5 k1] [1,2,18,19] .ret) .skip)) (sd [mv 6 kt] [18] (s (sp [mv 7 k0] (b 0 (w P3.l1))) (s (b 2 (sd [m 52 6,m 51 52] [1,6,7,28,52] (i 51 (sd [ca 53 124 [k0],so 3 4 53,mv 5 k0] [2,51,53] .ret) (sd [fa 55 2 0,fa 56 55 2,uu 57 1 56,bi 58 .eql 57 (k 2),m 54 58] (rl [2,51] 55 4) (i 54 (sd [ca 59 125 [k1,(k 2)],so 3 4 59,mv 5 k0] [54,59] .ret) .skip))))) (sd [ca 60 124 [k1],so 3 4 60,mv 5 k0] [54,60] .ret))))))),[.cell 4 true 3,.tmp 5],false⟩
def P4.l1:=(s (sd [m 40 13,fa 41 3 9,uu 42 1 41,ln 43 42,ls 44 40 43] (ra 40 4) (i 44 .skip (x 0))) (s (b 1 (sd [tt 48 12 3,m 49 13,ca 50 362 [48,49],m 47 50,et 51 47 0,et 52 47 1,al 14 z3,so 3 14 51,m 15 52] (rl [15,44] 47 6) (sd [tt 54 12 3,m 55 13,ca 56 166 [54,55],m 53 56,et 57 53 0,et 58 53 1,al 16 z6,so 6 16 57,m 17 58] (rl [17] 53 6) (sd [tt 60 6 16,ca 61 315 [60],m 59 61,et 62 59 0,et 63 59 1,al 18 z3,so 3 18 62,m 19 63] (rl [16] 59 5) (s (sd [m 64 19,bi 65 .neq 64 k0] [64] (i 65 (sd [o 66 (.build z3 []),m 67 19,so 3 6 66,m 7 67] [3,12,13,14,18,19,65,66,67] .ret) .skip)) (e [tt 68 3 12,tt 69 3 14,tt 70 3 18,ca 71 128 [69,70],ca 72 126 [68,71],so 3 12 72] (rl [14,18,19,65] 68 5))))))) (d [m 45 13,ad 46 45 k1,m 13 46] [45,46])))
def P4:AFn:=⟨3,(sd [bx 3 0,al 6 z3,mv 7 k0] [0,7] (sd [m 20 1,fa 21 3 11,so 1 21 20] [1,20,21] (sd [tt 23 12 3,ca 24 165 [23],m 22 24,et 25 22 0,et 26 22 1,al 8 z6,so 6 8 25,m 9 26] (rl [9] 22 5) (sd [tt 28 6 8,ca 29 315 [28],m 27 29,et 30 27 0,et 31 27 1,al 10 z3,so 3 10 30,m 11 31] (rl [8] 27 5) (s (sd [m 32 11,bi 33 .neq 32 k0] [32] (i 33 (sd [o 34 (.build z3 []),m 35 11,so 3 6 34,m 7 35] [2,3,10,11,33,34,35] .ret) .skip)) (se [m 36 2,q 37 [12] (.call 124 [36]),q 38 [12] (.ld true 3 10),q 39 [12] (.call 128 [37,38]),al 12 z3,so 3 12 39] (rl [2,10,11,33] 36 4) (s (sp [mv 13 k0] (b 0 (w P4.l1))) (sd [tt 73 3 12,so 3 6 73,mv 7 k0] [3,12,13,44,73] .ret)))))))),[.cell 6 true 3,.tmp 7],false⟩
structure da(L:Lib):Prop extends bk L,au L,ct L where
 P3:L 362=some F.P3
 P4:L 364=some F.P4
def K6:AFn:=⟨2,(sd [bx 2 0,bx 3 1,al 4 [(.bool false),.nil],al 5 [(.bool false),.nil],mv 6 k0] [0,1,6] (sd [fa 11 2 1,uu 12 1 11,fa 13 3 1,uu 14 1 13,ca 15 75 [12,14],m 10 15,et 16 10 0,et 17 10 1,et 18 10 2,m 7 16,m 8 17,m 9 18] (ra 10 9) (s (sd [m 19 9,bi 20 .neq 19 k0] [19] (i 20 (sd [o 21 (.build [(.bool false),.nil] []),o 22 (.build [(.bool false),.nil] []),m 23 9,so 2 4 21,so 2 5 22,m 6 23] (rl [2,3,7,8,9] 20 4) .ret) .skip)) (s (sd [fa 24 2 0,uu 25 1 24,m 26 25,g 27 26 true (.q9 8),g 28 26 true (.len 27),g 29 26 true (.bin .gtr 28 k0),pk 30 26 29 kf] (rl [9,20] 24 6) (i 30 (sd [m 31 7,o 32 (.b8 32 1 [(.c (.int .u32 (1)))]),ca 33 68 [31,32],m 7 33] (ra 30 4) (d [fa 34 3 1,uu 35 1 34,m 36 8,ca 37 69 [35,36],m 8 37] (ra 34 4))) .skip)) (sd [fa 38 2 0,uu 39 1 38,fa 40 3 0,uu 41 1 40,o 42 (.beq true 39 41),m 43 7,o 44 (.j6 83 [42,43]),m 45 8,o 46 (.j6 83 [kf,45]),so 2 4 44,so 2 5 46,mv 6 k0] (rl [2,3,7,8,30] 38 9) .ret))))),[.cell 4 true 2,.cell 5 true 2,.tmp 6],false⟩
def TL:AFn:=⟨1,(sd [bx 1 0,al 2 [(.bool false),.nil]] [0] (sd [tt 7 3 1,o 8 (.o8 89 [7]),al 3 [(.bool false),.nil,.nil,(.bool false)],so 4 3 8] [1,7,8] (se [fa 10 3 0,fa 11 10 0,q 12 [4,5] (.ld true 2 11),fa 13 3 0,fa 14 13 2,q 15 [4,5] (.ld false 1 14),q 16 [4,5] (.o8 91 [15]),q 17 [4,5] (.call 383 [12,16]),m 9 17,et 18 9 0,et 19 9 1,et 20 9 2,al 4 [(.bool false),.nil],al 5 [(.bool false),.nil],so 2 4 18,so 2 5 19,m 6 20] (rl [3,5,6] 9 12) (sd [tt 21 2 4,so 2 2 21] [4,21] .ret)))),[.cell 2 true 2],false⟩
structure eu(L:Lib):Prop extends bp L,au L,ct L where
 K6:L 383=some F.K6
 TL:L 384=some F.TL
def MV.l1:=(sp [ls 15 14 13] (s (i 15 .skip (x 0)) (s (b 1 (sd [m 16 14,ia 17 1 12 14,uu 18 1 17,m 4 16,m 5 18] (ra 15 4) (d [m 19 3,m 20 5,o 21 (.conv .i64 20),m 22 4,bi 23 .mul (k 32) 22,bi 24 .shl 21 23,ad 25 19 24,m 3 25] (rl [4,5] 19 7)))) (d [ad 26 14 k1,m 14 26] [26]))))
def MV:AFn:=⟨1,(sd [bx 1 0,mv 2 k0] [0,2] (s (se [tt 6 3 1,ca 7 96 [(k 1099511627776)],ca 8 198 [6,7],bi 9 .geq 8 k0] [6,7,8] (i 9 (sd [mv 2 (k 1099511627776)] [1,9] .ret) .skip)) (sd [mv 3 k0] [9] (s (sd [tt 10 3 1,ca 11 384 [10],o 12 (.og 11 1 1 false),ln 13 12,mv 14 k0] [1,10,11] (b 0 (w MV.l1))) (sd [m 27 3,m 2 27] [3,12,13,14,15,27] .ret))))),[.tmp 2],false⟩
def K7.l1:=(sp [ls 37 36 35] (s (i 37 .skip (x 0)) (s (b 1 (sd [m 38 36,m 8 38] [37,38] (sd [tt 40 12 2,m 41 8,ad 42 k1 41,ca 43 360 [40,42,k0],m 39 43,et 44 39 0,et 45 39 1,al 9 z3,so 3 9 44,m 10 45] (ra 39 7) (s (sd [m 46 10,bi 47 .neq 46 k0] [46] (i 47 (sd [m 48 10,mv 4 (.c .nil),m 5 48] [2,6,7,8,9,10,35,36,47,48] .ret) .skip)) (sd [tt 50 12 2,m 51 8,ad 52 k1 51,ca 53 360 [50,52,k1],m 49 53,et 54 49 0,et 55 49 1,al 11 z3,so 3 11 54,m 10 55] (rl [47] 49 7) (s (sd [m 56 10,bi 57 .neq 56 k0] [56] (i 57 (sd [m 58 10,mv 4 (.c .nil),m 5 58] [2,6,7,8,9,10,11,35,36,57,58] .ret) .skip)) (sd [tt 59 3 11,tt 60 3 9,ca 61 150 [59,60],al 12 z3,so 3 12 61] [10,11,57,59,60,61] (e [m 62 7,m 63 8,tt 64 3 9,tt 65 3 12,tt 66 3 6,ca 67 99 [65,66],ca 68 98 [64,67],ca 69 449 [68],ia 70 1 62 63,so 1 70 69] (rl [8,9,12] 62 9))))))))) (d [ad 71 36 k1,m 36 71] [71]))))
def K7:AFn:=⟨2,(sd [bx 2 0,mv 4 (.c .nil),mv 5 k0] [0,4,5] (s (sd [tt 13 12 2,ca 14 21 [13],nt 15 14,m 16 15,g 17 16 false (.o4 2 8),g 18 16 false (.ld false 1 17),g 19 16 false (.bin .gtr 18 (k 16)),pk 20 16 kt 19] (ra 13 7) (i 20 (sd [mv 4 (.c .nil),mv 5 (k 2)] [1,2,20] .ret) .skip)) (s (sd [fa 21 2 0,tt 22 4 21,m 23 1,ca 24 5 [22,23],nt 25 24] (ra 20 5) (i 25 (sd [mv 4 (.c .nil),mv 5 (k 17)] [1,2,25] .ret) .skip)) (sd [m 26 1,m 27 1,o 28 (.un .neg 27),o 29 (.mm true [26,28]),ca 30 96 [29],al 6 z3,so 3 6 30] (rl [1] 25 6) (sd [fa 31 2 8,uu 32 1 31,o 33 (.mk 33 1 8 [z] 32 32),m 7 33] [31,32,33] (s (sd [m 34 7,ln 35 34,mv 36 k0] [34] (b 0 (w K7.l1))) (sd [m 72 7,m 4 72,mv 5 k0] [2,6,7,35,36,37,72] .ret))))))),[.tmp 4,.tmp 5],false⟩
def LK.l1:=(s (sd [m 43 11,fa 44 2 8,uu 45 1 44,ls 46 43 45] [43,44,45] (i 46 .skip (x 0))) (s (b 1 (sd [tt 50 12 2,m 51 11,ad 52 k1 51,m 53 1,m 54 1,o 55 (.un .neg 54),o 56 (.mm true [53,55]),ca 57 364 [50,52,56],m 49 57,et 58 49 0,et 59 49 1,al 12 z3,so 3 12 58,m 13 59] (rl [13,46] 49 11) (sd [tt 61 3 12,ca 62 361 [61],m 60 62,et 63 60 0,et 64 60 1,m 14 63,m 15 64] (rl [12] 60 5) (s (sd [m 65 15,nt 66 65] [15,65] (i 66 (d [mv 14 (k 1099511627776)] [66]) .skip)) (d [m 67 10,m 68 14,o 69 (.b8 69 1 [68]),o 70 (.app 70 1 8 67 69),m 10 70] (rl [14] 66 5)))))) (d [m 47 11,ad 48 47 k1,m 11 48] [47,48])))
def LK:AFn:=⟨2,(sd [bx 2 0,mv 4 (.c .nil),mv 5 k0] [0,4,5] (s (sd [tt 16 12 2,ca 17 27 [16],nt 18 17,m 19 18,g 20 19 false (.o4 2 8),g 21 19 false (.ld false 1 20),g 22 19 false (.bin .gtr 21 (k 16)),pk 23 19 kt 22] (ra 16 7) (i 23 (sd [mv 4 (.c .nil),mv 5 (k 2)] [1,2,23] .ret) .skip)) (s (sd [fa 24 2 0,tt 25 4 24,m 26 1,ca 27 14 [25,26],nt 28 27] (ra 23 5) (i 28 (sd [mv 4 (.c .nil),mv 5 (k 17)] [1,2,28] .ret) .skip)) (sd [tt 30 12 2,ca 31 165 [30],m 29 31,et 32 29 0,et 33 29 1,al 6 z6,so 6 6 32,m 7 33] (rl [7] 28 6) (s (sd [fa 35 6 0,uu 36 1 35,ca 37 314 [36],m 34 37,et 38 34 0,et 39 34 1,m 8 38,m 9 39] (rl [6,8] 34 6) (sd [m 40 9,bi 41 .neq 40 k0] [40] (i 41 (sd [m 42 9,mv 4 (.c .nil),m 5 42] [1,2,9,41,42] .ret) .skip))) (sd [o 10 (.ak 10 1)] [9,41] (s (sp [mv 11 k0] (b 0 (w LK.l1))) (sd [m 71 10,m 4 71,mv 5 k0] [1,2,10,11,46,71] .ret)))))))),[.tmp 4,.tmp 5],false⟩
structure bf(L:Lib):Prop extends dt L,da L,eu L where
 MV:L 449=some F.MV
 K7:L 450=some F.K7
 LK:L 451=some F.LK
def SY:AFn:=⟨4,(sd [bx 4 0,mv 8 kf] [0,8] (s (sd [m 24 2,ln 25 24,bi 26 .gtr 25 (k 10),m 27 26,g 28 27 false (.q9 3),g 29 27 false (.len 28),g 30 27 false (.bin .gtr 29 (k 10)),pk 31 27 kt 30] (ra 24 7) (i 31 (sd [ca 32 437 [],m 8 32] [1,2,3,4,31,32] .ret) .skip)) (sd [tt 33 7 4,ca 34 42 [33],al 9 [z,z,z,z,z,z,z,z,z,.nil,.nil,z],so 12 9 34] [4,31,33,34] (sd [tt 36 12 9,m 37 1,ca 38 450 [36,37],m 35 38,et 39 35 0,et 40 35 1,m 10 39,m 11 40] (rl [10] 35 6) (sd [tt 42 12 9,m 43 1,ca 44 451 [42,43],m 41 44,et 45 41 0,et 46 41 1,m 12 45,m 13 46] (rl [12] 41 6) (sd [tt 48 12 9,m 49 1,m 50 2,ca 51 433 [48,49,50],m 47 51,et 52 47 0,et 53 47 1,m 14 52,m 15 53] (rl [14] 47 7) (sd [tt 55 12 9,m 56 1,m 57 2,ca 58 447 [55,56,57],m 54 58,et 59 54 0,et 60 54 1,m 16 59,m 17 60] (rl [2,16] 54 7) (sd [tt 62 12 9,m 63 3,m 64 1,ca 65 436 [62,63,64],m 61 65,et 66 61 0,et 67 61 1,et 68 61 2,al 18 [.nil,.nil],so 2 18 66,m 19 67,m 20 68] (rl [18,19] 61 8) (sd [tt 70 12 9,m 71 3,m 72 1,ca 73 448 [70,71,72],m 69 73,et 74 69 0,et 75 69 1,et 76 69 2,al 21 [.nil,.nil],so 2 21 74,m 22 75,m 23 76] (rl [1,3,9,21,22] 69 8) (sd [ca 77 437 [],m 78 77,g 79 78 true (.q9 11),g 80 78 true (.q9 13),g 81 78 true (.bin .eql 79 80),pk 82 78 81 kf,m 83 82,g 84 83 true (.q9 15),g 85 83 true (.q9 17),g 86 83 true (.bin .eql 84 85),pk 87 83 86 kf,m 88 87,g 89 88 true (.q9 20),g 90 88 true (.q9 23),g 91 88 true (.bin .eql 89 90),pk 92 88 91 kf,m 8 92] (rl [11,13,15,17,20,23] 77 16) .ret)))))))))),[.tmp 8],false⟩
structure ke(L:Lib):Prop extends du L,w8 L,bf L where
 SY:L 454=some F.SY
end Go.e9.F











































namespace Go.e9
open Go.RowKit
theorem JA(b o n:Nat):(⟨b,o,none⟩:Addr).add n=⟨b,o+n,none⟩:=by
 unfold Addr.add;split<;>simp_all
inductive Rd(w:World)(R:Bool->Nat->Prop):AV->Value->Prop
 |int (k:IntKind) (n:Int):Rd w R (.int k n) (.int k n)
 |bool (b:Bool):Rd w R (.bool b) (.bool b)
 |str (s:ByteArray):Rd w R (.y8 (.string s)) (.string s)
 |ni:Rd w R (.y8 .nilFunc) .nilFunc
 |nj:Rd w R (.y8 (.map none)) (.map none)
 |jl (l:Bool) (a:Option Addr) (cap:Nat):Rd w R (.sl l []) (.slice a 0 cap)
 |emp (b:Bool) (a:Option Addr) (cap:Nat) (h:a.isNone=b):Rd w R (.y8 (.bool b)) (.slice a 0 cap)
 |sl (l:Bool) (es:v_) (b o a7 cap:Nat) (u:Nat->Nat->Value) (q6:es≠[]) (hp:0<a7) (hR:R l b) (cj:es.length<=cap) (hz:∀e∈es,e.length=a7)
   (hc:∀i e,es[i]?=some e->∀j c,e[j]?=some c->w.cell? ⟨b,o+(i*a7+j),none⟩=some (u i j))
   (hr:∀i e,es[i]?=some e->∀j c,e[j]?=some c->Rd w R c (u i j)) :
   Rd w R (.sl l es) (.slice (some ⟨b,o,none⟩) es.length cap)
theorem Rd.one{w:World}{R:Bool->Nat->Prop}{a:AV}{v:Value}(h:Rd w R a v):v.oneCell'=true:=by
 cases h<;>rfl
theorem RZ{w:World}{a:Addr}{u:Value}(h:w.cell? a=some u):a.block<w.heap.size:=by
 unfold World.cell? at h;split at h
 ·rename_i hh
  exact(Array.getElem?_eq_some_iff.1 hh).1
 ·cases h
theorem aS{es:v_}{a7:Nat}(q6:es≠[])(hp:0<a7)(hz:∀e∈es,e.length=a7):∃e c,es[0]?=some e/\e[0]?=some c:=by
 cases es with
 |nil=>exact absurd rfl q6
 |cons e r=>
  have:=hz e Z'
  cases e with
  |nil=>simp at this;omega
  |cons c q=>exact⟨c::q,c,rfl,rfl⟩
theorem Rd.mono{w w':World}{R R':Bool->Nat->Prop}(hR:∀l b,b<w.heap.size->R l b->R' l b)
  (hw:∀l b,b<w.heap.size->R l b->w'.heap[b]?=w.heap[b]?) {a:AV} {v:Value} (h:Rd w R a v):Rd w' R' a v:=by
 induction h with
 |int k n=>exact .int k n
 |bool b=>exact .bool b
 |str s=>exact .str s
 |ni=>exact .ni
 |nj=>exact .nj
 |jl l a cap=>exact .jl l a cap
 |emp b a cap h=>exact .emp b a cap h
 |sl l es b o a7 cap u q6 hp h1 cj hz hc hr ih=>
  obtain⟨e,c,he,fb⟩:=aS q6 hp hz;have hb:b<w.heap.size:=RZ (hc 0 e he 0 c fb);refine .sl l es b o a7 cap u q6 hp (hR l b hb h1) cj hz (λi e he j c Eh=>?_) ih;rw[World.cell?_of_block (w:=w) (hw l b hb h1)];exact hc i e he j c Eh
structure GG where
 w:World
 D:Prop
structure D7(D:Prop)(B:Nat)(w w':World):Prop extends Below B w w' where
 drawn:D->w.drawn<=w'.drawn
section
variable {D:Prop} {B B':Nat} {a b c:World}
theorem D7.refl(D:Prop)(B:Nat)(w:World):D7 D B w w:=⟨Below.refl B w,λ_=>La _⟩
theorem D7.trans(h:D7 D B a b)(k:D7 D B b c):D7 D B a c:=⟨h.toBelow.trans k.toBelow,λd=>db (h.drawn d) (k.drawn d)⟩
theorem D7.mono(h:D7 D B a b)(hB:B'<=B):D7 D B' a b:=⟨h.toBelow.mono hB,h.drawn⟩
theorem D7.Jn{D':Prop}(h:D7 D B a b)(k:D'->D):D7 D' B a b:=⟨h.toBelow,λd=>h.drawn (k d)⟩
theorem D7.drew(h:D7 D B a b):D7 D B a b.drew:=⟨h.toBelow.drew,λd=>Nat.le_succ_of_le (h.drawn d)⟩
theorem D7.alloc(h:D7 D B a b)(hB:B<=b.heap.size)(o:Obj):D7 D B a (b.alloc o):=⟨h.toBelow.alloc hB o,h.drawn⟩
end
structure M where
 ν:Nat->Nat->Option Nat
 own:Own
 w:World
section
variable (B:Nat) (S:Nat->Prop)
def safe(m:M)(l:Bool)(b:Nat):Prop :=
 (S b/\b<B)\/(B<=b/\∀s t,(m.own.get s t).isSome=true->m.ν s t≠some b)\/(l=true/\b<B)
inductive CC(m:M):AV->Value->Prop
 |rd {a:AV} {v:Value} (h:Rd m.w (safe B S m) a v):CC m a v
 |nil:CC m .nil (.slice none 0 0)
 |row (s t z off len:Nat) (a:Option Addr) (cap:Nat) (ht:t<m.own.j7 s) (cz:0<z) (jz:len<=cap) (ha:0<len->a.isSome=true)
   (h:∀b,m.own.get s t=some b->b.a7=z/\((len=0/\cap=0)\/∃g arr e,m.ν s t=some g/\a=some ⟨g,off*z,none⟩/\m.w.heap[g]?=some (.cells arr e (0,0))/\(off+cap)*z<=arr.size)) (hs:s<EP) :
   CC m (.row s t z off len) (.slice a len cap)
 |ptr (s t i j:Nat) (a:Addr) (ht:t<m.own.j7 s) (h:∀b,m.own.get s t=some b->∃g,m.ν s t=some g/\a=⟨g,i*b.a7+j,none⟩) (hs:s<EP):CC m (.ptr s t i j) (.pointer (some a))
 |mp (s t g:Nat) (ht:t<m.own.j7 s) (h:∀b,m.own.get s t=some b->m.ν s t=some g) (hs:EP<=s):CC m (.mp s t) (.map (some g))
 |z7 (cs:w_) (b o:Nat) (u:Nat->Value) (l:Bool) (hR:cs≠[]->safe B S m l b) (hc:∀j c,cs[j]?=some c->m.w.cell? ⟨b,o+j,none⟩=some (u j)) (hr:∀j c,cs[j]?=some c->Rd m.w (safe B S m) c (u j)) :
   CC m (.z7 cs) (.pointer (some ⟨b,o,none⟩))
def CL(m:M)(cs:w_)(vs:List Value):Prop:=cs.length=vs.length/\∀(j:Nat)(c:AV)(v:Value),cs[j]?=some c->vs[j]?=some v->CC B S m c v
inductive CA(m:M):AV->Value->Prop
 |one {a:AV} {v:Value} (h:CC B S m a v):CA m a v
 |agg (cs:w_) (vs:List Value) (h:CL B S m cs vs):CA m (.agg cs) (.agg vs.toArray)
 |fn (p:Bool) (f g:Nat) (cs:w_) (vs:List Value) (hp:p=true->cs=[]) (h:CL B S m cs vs):CA m (.fn p f g cs) (.func (.func g) #[] vs.toArray)
 |um (f g:Nat) (cs:w_) (vs:List Value) (hp:cs≠[]) (h:CL B S m cs vs):CA m (.fn true f g cs) (.func (.func g) #[.agg vs.toArray] #[])
inductive CV(m:M):AV->Value->Prop
 |any (v:Value):CV m .any v
 |ca {a:AV} {v:Value} (h:CA B S m a v):CV m a v
 |j5 (as:w_) (vs:List Value) (hl:as.length=vs.length) (h:∀(j:Nat)(c:AV)(v:Value),as[j]?=some c->vs[j]?=some v->CA B S m c v):CV m (.j5 as) (.tuple vs.toArray)
def NX(c:w_):Value×Value:=match c with
 |[.y8 (.string s),.int .i64 n]=>(.string s,.int .i64 n)
 |_=>(.bool false,.bool false)
def LX(es:Array MapEntry)(clock:Nat)(l:v_):Prop :=
 MapKept.Stamped es clock/\es.size<=l.length/\(es.toList.map λx=>(x.key,x.val)).Perm (l.map NX) /\
  ∀c∈l,∃(s:ByteArray) (n:Int),c=[.y8 (.string s),.int .i64 n]/\s.size<=maxLen/\(Lit.int .i64 n).wf=true
def tK(m:M)(s t:Nat)(b:DI):Prop :=
 (∀e∈b.es,e.length=b.a7)/\match m.ν s t with
  |none=>b.es=[]
  |some g=>B<=g/\∃arr e,m.w.heap[g]?=some (.cells arr e (0,0)) /\
    ∀i cs,b.es[i]?=some cs->∀j c,cs[j]?=some c->∃u,arr[i*b.a7+j]?=some u/\CC B S m c u
def AeS(m:M)(s t:Nat)(b:DI):Prop := ∃g es clock,m.ν s t=some g/\B<=g/\m.w.heap[g]?=some (.map es clock)/\LX es clock b.es
def cU(m:M)(s t:Nat)(b:DI):Prop:=(s<EP->tK B S m s t b)/\(EP<=s->AeS B m s t b)
structure BJ(w0:GG)(m:M):Prop where
 below:D7 w0.D B w0.w m.w
 size:B<=m.w.heap.size
 fresh:∀s t,m.own.j7 s<=t->m.own.get s t=none
 c9:∀s t b,m.own.get s t=some b->cU B S m s t b
 inj:∀s t s' t' b b' g,m.own.get s t=some b->m.own.get s' t'=some b'->m.ν s t=some g->m.ν s' t'=some g->s=s'/\t=t'
structure DB(m m':M):Prop where
 size:m.w.heap.size<=m'.w.heap.size
 pq:∀b,b<m.w.heap.size->safe B S m true b->m'.w.heap[b]?=m.w.heap[b]?
 Bl:∀l b,b<m.w.heap.size->safe B S m l b->safe B S m' l b
 j7:∀s,m.own.j7 s<=m'.own.j7 s
 name:∀s t b',t<m.own.j7 s->m'.own.get s t=some b'->∃b,m.own.get s t=some b/\b'.a7=b.a7/\m'.ν s t=m.ν s t /\
   ∀g arr e,m.ν s t=some g->m.w.heap[g]?=some (.cells arr e (0,0))->∃af,m'.w.heap[g]?=some (.cells af e (0,0))/\af.size=arr.size
end
section
variable {B:Nat} {S:Nat->Prop}
theorem rK{m:M}{l:Bool}{b:Nat}(h:safe B S m l b):safe B S m true b:=by
 rcases h with h|h|⟨_,h⟩
 ·exact .inl h
 ·exact .inr (.inl h)
 ·exact .inr (.inr ⟨rfl,h⟩)
theorem DB.rd{m m':M}(h:DB B S m m'){a:AV}{v:Value}(hr:Rd m.w (safe B S m) a v):Rd m'.w (safe B S m') a v :=
 hr.mono h.Bl (λ_ b hb hs=>h.pq b hb (rK hs))
theorem DB.cc{m m':M}(h:DB B S m m'){a:AV}{v:Value}(hc:CC B S m a v):CC B S m' a v:=by
 cases hc with
 |rd hr=>exact .rd (h.rd hr)
 |nil=>exact .nil
 |row s t z off len a cap ht cz jz ha hb=>
  rename_i hs;refine .row s t z off len a cap (ka ht (h.j7 s)) cz jz ha (λb' j9=>?_) hs;obtain⟨b,h1,h2,h3,h4⟩:=h.name s t b' ht j9;obtain⟨hz,eo⟩:=hb b h1;refine⟨h2.trans hz,?_⟩;rcases eo with h0|⟨g,arr,e,hg,ki,hh,hle⟩
  ·exact .inl h0
  ·obtain⟨af,Nk,va⟩:=h4 g arr e hg hh
   exact .inr ⟨g,af,e,h3.trans hg,ki,Nk,va▸hle⟩
 |ptr s t i j a ht hb=>
  rename_i hs;refine .ptr s t i j a (ka ht (h.j7 s)) (λb' j9=>?_) hs;obtain⟨b,h1,h2,h3,_⟩:=h.name s t b' ht j9;obtain⟨g,hg,ki⟩:=hb b h1;exact⟨g,h3.trans hg,h2▸ki⟩
 |mp s t g ht hb hs=>
  refine .mp s t g (ka ht (h.j7 s)) (λb' j9=>?_) hs;obtain⟨b,h1,h2,h3,_⟩:=h.name s t b' ht j9;exact h3.trans (hb b h1)
 |z7 cs b o u l hR hc hr=>
  have k7:cs≠[]->b<m.w.heap.size:=λq6=>by
   cases cs with
   |nil=>exact absurd rfl q6
   |cons c r=>exact RZ (hc 0 c rfl)
  refine .z7 cs b o u l (λq6=>h.Bl l b (k7 q6) (hR q6)) (λj c hj=>?_) (λj c hj=>h.rd (hr j c hj));have q6:cs≠[]:=λe=>by subst e;simp at hj
  rw[World.cell?_of_block (w:=m.w) (h.pq b (k7 q6) (rK (hR q6)))];exact hc j c hj
theorem DB.cl{m m':M}(h:DB B S m m'){cs:w_}{vs:List Value}(hc:CL B S m cs vs):CL B S m' cs vs :=
 ⟨hc.1,λj c v h1 h2=>h.cc (hc.2 j c v h1 h2)⟩
theorem DB.ca{m m':M}(h:DB B S m m'){a:AV}{v:Value}(hc:CA B S m a v):CA B S m' a v:=by
 cases hc with
 |one hc=>exact .one (h.cc hc)
 |agg cs vs hc=>exact .agg cs vs (h.cl hc)
 |fn p f g cs vs hp hc=>exact .fn p f g cs vs hp (h.cl hc)
 |um f g cs vs hp hc=>exact .um f g cs vs hp (h.cl hc)
theorem DB.cv{m m':M}(h:DB B S m m'){a:AV}{v:Value}(hc:CV B S m a v):CV B S m' a v:=by
 cases hc with
 |any v=>exact .any v
 |ca hc=>exact .ca (h.ca hc)
 |j5 as vs hl hc=>exact .j5 as vs hl λj c v h1 h2=>h.ca (hc j c v h1 h2)
theorem DB.refl(m:M):DB B S m m :=
 ⟨La _,λ_ _ _=>rfl,λ_ _ _ h=>h,λ_=>La _,λ_ _ b' _ h=>⟨b',h,rfl,rfl,λ_ arr _ _ h=>⟨arr,h,rfl⟩⟩⟩
theorem DB.trans{m m' m'':M}(h:DB B S m m')(k:DB B S m' m''):DB B S m m'' where
 size:=db h.size k.size
 pq b hb hs:=(k.pq b (ka hb h.size) (h.Bl true b hb hs)).trans (h.pq b hb hs)
 Bl l b hb hs:=k.Bl l b (ka hb h.size) (h.Bl l b hb hs)
 j7 s:=db (h.j7 s) (k.j7 s)
 name s t b'' ht Nr:=by
  obtain⟨b',h1,h2,h3,h4⟩:=k.name s t b'' (ka ht (h.j7 s)) Nr;obtain⟨b,g1,g2,g3,g4⟩:=h.name s t b' ht h1;refine⟨b,g1,h2.trans g2,h3.trans g3,λg arr e hg ha=>?_⟩;obtain⟨af,Nk,va⟩:=g4 g arr e hg ha;obtain⟨Fm,Nl,Px⟩:=h4 g af e (g3.trans hg) Nk;exact⟨Fm,Nl,Px.trans va⟩
theorem CC.one{m:M}{a:AV}{v:Value}(h:CC B S m a v):v.oneCell'=true:=by
 cases h with
 |rd h=>exact h.one
 |_=>rfl
end
end Go.e9
