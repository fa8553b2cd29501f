/-
  The abstract machine: data without memory. AV: a value; slices that are only read are lists ('sl'), rows and boxes of the call's own are named by a site and a stamp.
  Nothing here speaks of a program; EngSound ties it to the model.
-/
import Derived.Calls
import Derived.Below
import Derived.Laws.CopyRow
import Derived.Laws.Cells
import Derived.Laws.MakeOwn
import Derived.Laws.AppendOwn
import Derived.Deep.AppendSrc
import Derived.Deep.Draws
import Derived.ArgAppend
import Derived.Laws.StructEq
import Derived.ChangeKeysEq
set_option linter.unusedSimpArgs false
set_option linter.unusedVariables false
set_option linter.unnecessarySimpa false
open Array renaming getElem?_eq_some_iff->Wa,length_toList->Vc,toList_map->Nc,foldl_toList->Le
open BitVec renaming ofInt->Eb
open Bool renaming noConfusion->na,and_eq_true->ka
open Int renaming mul_nonneg->uc,mul_nonpos_of_nonpos_of_nonneg->td,mul_nonpos_of_nonneg_of_nonpos->cd,mul_le_mul_of_nonpos_left->Sd,mul_le_mul_of_nonneg_left->Qd,gcd->Ad,emod_add_mul_ediv->Se,emod_lt_of_pos->De,emod_nonneg->ff,mul_pos->Qf
open List renaming replicate->Wb,length_cons->Ub,length_take->Gb,eq_nil_of_length_eq_zero->pc,getElem?_take->Qc,drop_eq_getElem_cons->Pc,take_set_of_le->yd,getElem?_drop->xd,mapM_cons->Dd,getElem?_append_left->ze,map_cons->ue,getElem?_cons_succ->te,getElem?_set_self->pe,drop_of_length_le->oe,getElem?_append->Te,drop_set_of_lt->Oe,take_add_one->He,ext_getElem?->Ge,append_assoc->Ee,drop_zero->uf,mem_cons->Uf,range'->Tf
open Nat renaming le_refl->Sa,mul_le_mul_left->Sb,div_lt_iff_lt_mul->Fb,two_pow_pos->Cb,lt_of_lt_of_le->xc,pow_add->oc,mul_add->fc,add_mul->ec,min_eq_left->Sc,mul_assoc->Oc,le_div_iff_mul_le->Hc,pow_le_pow_right->Cc,pos_of_ne_zero->ud,mul_comm->Vd,le_trans->Ud,strongRecOn->Od,mod_add_div->Hd,pow_succ->je,mul_succ->We,lt_or_ge->Ve,mul_mod_mul_right->Ue,div_mul_le_self->Ke,lt_log2_self->Be,log2_self_le->Ae,div_add_mod->vf,mul_le_mul->ef,one_mul->Sf,mod_lt->Nf
open Option renaming some.inj->Ab,some.injEq->yc,bind_eq_bind->Gc,pure_def->Td,isSome_iff_exists->Ed,map_some->Je
open Prod renaming mk.injEq->ye
namespace Go.j4
theorem D' {p:Prop} (h:p:=by omega):p:=h
theorem G' {p:Prop} (h:p:=by assumption):p:=h
theorem o_ {p:Prop} (h:p:=by decide):p:=h
theorem p_ {p:Prop} (h:p:=by simp):p:=h
theorem v_ {p:Prop} (h:p:=by grind):p:=h
theorem w_ {p:Prop} (h:p:=by (conv=>whnf);exact ⟨rfl,rfl,rfl⟩):p:=h
theorem O_ {p:Prop} (h:p:=by intro e;cases e):p:=h
theorem U_ {p:Prop} (h:p:=by rw[List.length_map];omega):p:=h
theorem V_ {p:Prop} (h:p:=by rw[List.length_take];omega):p:=h
theorem W_ {p:Prop} (h:p:=by simp;omega):p:=h
theorem X_ {α:Type} (l:List α) (i:Nat) (h:i<l.length:=by omega) : ∃ x,l[i]? = some x:=⟨_,List.getElem?_eq_getElem h⟩
abbrev Y_:=List (List Rat)
abbrev Z_:=List Rat
abbrev a_:=List Nat
theorem zE {α : Type} {l : List α} {i : Nat} (h : i < l.length) : l[i]? = some l[i] :=
 List.getElem?_eq_getElem h
theorem zS {α : Type} {l : List α} {i : Nat} {a : α} (h : l[i]? = some a) : ∃ h : i < l.length, l[i] = a :=
 List.getElem?_eq_some_iff.1 h
theorem zM {α : Type} {l : List α} {i : Nat} {a : α} (h : l[i]? = some a) : a ∈ l :=
 List.mem_of_getElem? h
theorem zR {m n : Nat} (k : Nat) (h : m <= n) : m * k <= n * k :=
 Nat.mul_le_mul_right k h
theorem zT {α : Type} {l : List α} {i : Nat} (h : l.length <= i) : l.take i = l :=
 List.take_of_length_le h
end Go.j4
namespace Go.j4
inductive AV where
 | int (k:IntKind) (n:Int)
 | bool (b:Bool)
 | sl (l:Bool) (es:List (List AV))
 | row (s t z off len:Nat)
 | nil
 | ptr (s t i j:Nat)
 | af (cs:List AV)
 | agg (cs:List AV)
 | e9 (vs:List AV)
 | iz (v:Value)
 | fn (p:Bool) (f g:Nat) (cs:List AV)
 | any
 deriving Inhabited
abbrev b_:=Option (Nat × List (List AV))
abbrev c_:=List (List AV)
abbrev d_:=List AV
inductive BM where
 | t (n:Nat)
 | c (v:AV)
 deriving Inhabited
structure HU where
 a9:Nat
 es:c_
structure EV where
 j8:Nat
 g8:Nat->Option HU
def BF:=Nat->EV
def BF.emp:BF:=λ_=>⟨0,λ_=>none⟩
def BF.put (o:BF) (s:Nat) (x:EV):BF:=λ s'=>if s'=s then x else o s'
def BF.get (o:BF) (s t:Nat):Option HU:=(o s).g8 t
def BF.j8 (o:BF) (s:Nat):Nat:=(o s).j8
def EV.v9 (x:EV) (t:Nat) (b:Option HU):EV:=⟨x.j8,λ t'=>if t'=t then b else x.g8 t'⟩
def EV.new (x:EV) (b:HU):EV:=⟨x.j8+1,λ t'=>if t'=x.j8 then some b else x.g8 t'⟩
theorem BF.l9 (o:BF) (s:Nat) (x:EV):o.put s x s=x:=by simp [BF.put]
theorem BF.ou (o:BF) (s s':Nat) (x:EV) (h:s'≠s):o.put s x s'=o s':=by simp [BF.put,h]
theorem BF.Bq (o:BF) (s:Nat) (x y:EV):(o.put s x).put s y=o.put s y:=by
 funext s';by_cases h:s'=s<;>simp [BF.put,h]
inductive HO where
 | w9 (x:BM)
 | bu (s a9:Nat)
 | pick (c a b:BM)
 | bin (op:BinOp) (x y:BM)
 | beq (ne:Bool) (x y:BM)
 | un (op:UnOp) (x:BM)
 | conv (k:IntKind) (x:BM)
 | box (s:Nat) (x:BM)
 | alloc (s:Nat) (zero:d_)
 | build (zero:d_) (parts:List (Nat × Nat × BM))
 | c8 (s a9:Nat) (parts:List BM)
 | dj (x:BM) (off:Nat)
 | zf (x:BM) (off n:Nat) (agg:Bool)
 | cp (arr:Option Nat) (a9:Nat) (x i:BM)
 | ld (agg:Bool) (n:Nat) (x:BM)
 | st (n:Nat) (x v:BM)
 | mk (s a9 bytes:Nat) (zero:d_) (l c:BM)
 | pn (a9:Nat) (x:BM) (lo hi:Option BM)
 | ext (x:BM) (i:Nat)
 | len (x:BM)
 | mm (max:Bool) (xs:List BM)
 | app (s a9 bytes:Nat) (x y:BM)
 | call (f:Nat) (xs:List BM)
 | j5 (f:Nat) (xs:List BM)
 | Cg (ne:Bool) (x:BM)
 | oz (tb:a_) (x:BM)
 | Au (p:Bool) (f:Nat) (xs:List BM)
 | q6 (x:BM) (xs:List BM)
 | Cz (agg:Bool) (n:Nat) (x:BM)
 | Bo (f:Nat) (x:BM)
 | l7 (f:Nat) (xs:List BM)
 | ym (s n:Nat) (x v:BM)
 | bf (s f:Nat) (xs:List BM)
 | Bu (ne:Bool) (n:Nat) (x y:BM)
 | mj (x:BM)
 | yx (s a9 bytes:Nat) (x y:BM)
 | iy (s f:Nat) (xs:List BM)
 | bad
 deriving Inhabited
structure AI where
 dst:Option Nat
 op:HO
 guard:Option (Nat × Bool):=none
 b8:a_:=[]
 deriving Inhabited
inductive DE where
 | skip
 | ops (l:List AI) (draw:Bool)
 | dr (c:DE) (ts ss:a_)
 | scope (c:DE)
 | seq (a b:DE)
 | cond (c:BM) (a b:DE)
 | block (id:Nat) (c:DE)
 | loop (c:DE)
 | exit (id:Nat)
 | ret
 deriving Inhabited
inductive Q7 where
 | tmp (t:Nat)
 | cell (t:Nat) (agg:Bool) (n:Nat)
 deriving Inhabited
structure AFn where
 gq:Nat
 body:DE
 res:List Q7
 Ay:Bool
abbrev Tm:=List (Nat × AV)
def j6:Tm->Nat->AV
 | [],_ => .any
 | (i,v)::r,j=>if j=i then v else j6 r j
def sv:Tm->Nat->AV->Tm
 | [],j,u=>[(j,u)]
 | (i,v)::r,j,u=>if j=i then (i,u)::r else if j<i then (j,u)::(i,v)::r else (i,v)::sv r j u
def fp:Tm->a_->Tm
 | [],_=>[]
 | (i,v)::r,l=>if l.contains i then fp r l else (i,v)::fp r l
theorem pE (m:Tm) (i:Nat) (v:AV) (j:Nat):j6 (sv m i v) j=if j=i then v else j6 m j:=by
 induction m with
 | nil=>by_cases h:j=i<;>simp [sv,j6,h]
 | cons x r ih =>
  obtain ⟨a,u⟩:=x;by_cases h:i=a
  ·subst h
   by_cases h2:j=i<;>simp [sv,j6,h2]
  ·by_cases n7:i<a
   ·by_cases h2:j=i<;>simp [sv,j6,h,n7,h2]
   ·by_cases h2:j=a
    ·subst h2
     have : ¬ j=i:=λ e=>h e.symm
     simp [sv,j6,h,n7,this]
    ·simp [sv,j6,h,n7,h2,ih]
structure St where
 tm:Tm
 own:BF
def St.ev (st:St):BM->AV
 | .t n=>j6 st.tm n
 | .c v=>v
inductive ET where
 | val (v:AV)
 | new (s:Nat) (b:HU) (v:Nat->AV)
 | Iz (s:Nat) (b:HU) (v:Nat->AV)
 | kb (v:AV) (own:BF)
 | v9 (s:Nat) (x:EV)
 | Gw (s:Nat) (x:EV) (v:AV)
 | Kx (s:Nat) (v:AV) (own:BF)
def cellsOf:AV->Option (d_)
 | .agg cs=>some cs
 | .fn _ _ _ _=>none
 | .e9 _=>none
 | .any=>none
 | v=>some [v]
def RH (agg:Bool) (cs:d_):Option AV :=
 if agg then some (.agg cs) else match cs with|[c]=>some c|_=>none
def part (cs:d_) (off n:Nat):Option (d_) :=
 if off+n<=cs.length then some ((cs.drop off).take n) else none
def splice (cs:d_) (off:Nat) (vs:d_):d_:=cs.take off++vs++cs.drop (off+vs.length)
def fill (cells:d_):List (Nat × Nat × AV)->Option (d_)
 | []=>some cells
 | (off,n,v)::r=>match cellsOf v with
  | some vs=>if vs.length=n/\off+n<=cells.length then fill (splice cells off vs) r else none
  | none=>none
def G5 (op:BinOp) (k:IntKind) (a:Int) (k':IntKind) (b:Int):Option AV :=
 match op with
 | .shl=>if b<0 then none else some (.int k (k.wrap (a*2^(min b.toNat k.bits))))
 | .shr=>if b<0 then none else some (.int k (a.fdiv (2^(min b.toNat k.bits))))
 | .add=>if k=k' then some (.int k (k.wrap (a+b))) else none
 | .sub=>if k=k' then some (.int k (k.wrap (a-b))) else none
 | .mul=>if k=k' then some (.int k (k.wrap (a*b))) else none
 | .quo=>if k=k'/\b≠0 then some (.int k (k.wrap (a.tdiv b))) else none
 | .rem=>if k=k'/\b≠0 then some (.int k (a.tmod b)) else none
 | .and=>if k=k' then some (.int k (k.wrap (Eb k.bits a &&& Eb k.bits b).toNat)) else none
 | .or=>if k=k' then some (.int k (k.wrap (Eb k.bits a ||| Eb k.bits b).toNat)) else none
 | .xor=>if k=k' then some (.int k (k.wrap (Eb k.bits a ^^^ Eb k.bits b).toNat)) else none
 | .andNot=>if k=k' then some (.int k (k.wrap (Eb k.bits a &&& ~~~ Eb k.bits b).toNat)) else none
 | .eql=>if k=k' then some (.bool (a == b)) else none
 | .neq=>if k=k' then some (.bool (a != b)) else none
 | .lss=>if k=k' then some (.bool (decide (a<b))) else none
 | .leq=>if k=k' then some (.bool (decide (a<=b))) else none
 | .gtr=>if k=k' then some (.bool (decide (a>b))) else none
 | .geq=>if k=k' then some (.bool (decide (a≥b))) else none
def dR (op:UnOp):AV->Option AV
 | .int k n=>match op with
  | .neg=>some (.int k (k.wrap (0-n)))
  | .xor=>some (.int k (k.wrap (Eb k.bits (if k.signed then -1 else k.max) ^^^ Eb k.bits n).toNat))
  | _=>none
 | .bool b=>match op with
  | .not=>some (.bool (!b))
  | _=>none
 | _=>none
def ZM (max:Bool):AV->AV->Option AV
 | .int k a,.int _ b=>some (.int k (if max then (if b>a then b else a) else (if b<a then b else a)))
 | _,_=>none
def SI (max:Bool):AV->d_->Option AV
 | v,[]=>some v
 | v,u::r=>match ZM max v u with|some x=>SI max x r|none=>none
def BF.o5 (o:BF):a_->BF
 | []=>o
 | s::r=>λ s'=>if s'=s then ⟨0,λ_=>none⟩ else o.o5 r s'
def BF.As (own:BF) (s t i j n:Nat):Option (d_) :=
 match own.get s t with
 | some b=>match b.es[i]? with
  | some cs=>part cs j n
  | none=>none
 | none=>none
def BF.wg (own:BF) (s t i j:Nat) (vs:d_):Option BF :=
 match own.get s t with
 | some b=>match b.es[i]? with
  | some cs=>if j+vs.length<=cs.length then some (own.put s ((own s).v9 t (some ⟨b.a9,b.es.set i (splice cs j vs)⟩))) else none
  | none=>none
 | none=>none
def IU (own:BF):AV->Option (c_)
 | .sl _ es=>some es
 | .nil=>some []
 | .iz (.bool _)=>some []
 | .row s t z off len=>match own.get s t with
  | some b=>if off+len<=b.es.length/\b.a9=z then some ((b.es.drop off).take len) else none
  | none=>none
 | _=>none
def ZI:AV->Option Nat
 | .sl _ es=>some es.length
 | .nil=>some 0
 | .row _ _ _ _ len=>some len
 | _=>none
def snap (own:BF) (l:Bool):Nat->AV->Option AV
 | _,.int k n=>some (.int k n)
 | _,.bool b=>some (.bool b)
 | _,.sl l' es=>some (.sl l' es)
 | _,.nil=>some (.sl false [])
 | _,.iz v=>some (.iz v)
 | d+1,.row s t z off len=>match IU own (.row s t z off len) with
  | some es=>(es.mapM (λ cs:d_=>cs.mapM (snap own l d))).map (AV.sl l)
  | none=>none
 | _,_=>none
def F4 (own:BF) (l:Bool):AV->Option AV
 | .agg cs=>(cs.mapM (snap own l 6)).map AV.agg
 | v=>snap own l 6 v
def YK (own:BF) (l:Bool):AV->Option AV
 | .nil=>some .nil
 | v=>F4 own l v
def dN (own:BF) (l:Bool):AV->Option AV
 | .e9 cs=>(cs.mapM (F4 own l)).map AV.e9
 | v=>F4 own l v
mutual
def CI:AV->Prop
 | .int _ _=>True
 | .bool _=>True
 | .iz _=>True
 | .sl l es=>l=false/\J6 es
 | .agg cs=>ES cs
 | .e9 cs=>ES cs
 | _=>False
def ES:d_->Prop
 | []=>True
 | c::r=>CI c/\ES r
def J6:c_->Prop
 | []=>True
 | c::r=>ES c/\J6 r
end
def H8:Nat:=140737488355328
structure Cl where
 pure:Nat->d_->Option AV
 kv:Nat->d_->BF->Option (AV × BF)
 num:Nat->Nat
noncomputable def qR (C:Cl) (f:Nat) (vs:d_) (s:Nat) (q:EV):Option (AV × EV) :=
 open Classical in if h : ∃ p : AV × EV, ∀ o : BF, o s = q -> C.kv f vs o = some (p.1, o.put s p.2) then some h.choose else none
theorem qS {C:Cl} {f:Nat} {vs:d_} {s:Nat} {q:EV} {p:AV × EV}:qR C f vs s q=some p ↔ ∀ o:BF,o s=q->C.kv f vs o=some (p.1,o.put s p.2):=by
 unfold qR;constructor
 ·intro h
  split at h
  ·rename_i hx
   obtain rfl:=Ab h;exact hx.choose_spec
  ·cases h
 ·intro h
  rw[dif_pos ⟨p,h⟩];have h1:=(⟨p,h⟩ : ∃ p:AV × EV,∀ o:BF,o s=q->C.kv f vs o=some (p.1,o.put s p.2)).choose_spec (λ_=>q) rfl;have h2:=h (λ_=>q) rfl;have h3:=Ab (h2.symm.trans h1);refine congrArg some ?_;generalize (Exists.choose _:AV × EV)=p' at h3;obtain ⟨a,b⟩:=p;obtain ⟨a',b'⟩:=p';simp only[ye]at h3;obtain ⟨h4,h5⟩:=h3;have h6:b=b':=by
   have:=congrFun h5 s
   simpa [BF.put] using this
  rw[h4,h6]
noncomputable def WS (C:Cl) (f:Nat) (vs:d_) (s:Nat) (own:BF):Option (AV × BF) :=
 open Classical in if h : ∃ p : AV × BF, ∀ o : BF, (∀ q, q ≠ s -> o q = own q) -> C.kv f vs o = some (p.1, p.2.put s (o s)) then some (h.choose.1, h.choose.2.put s ⟨0, λ_ => none⟩) else none
theorem qQ {C:Cl} {f:Nat} {vs:d_} {s:Nat} {own:BF} {p:AV × BF} (h:WS C f vs s own=some p):p.2 s=⟨0,λ_=>none⟩ /\ ∀ o:BF,(∀ q,q≠s->o q=own q)->C.kv f vs o=some (p.1,p.2.put s (o s)):=by
 unfold WS at h;split at h
 ·rename_i hx
  obtain rfl:=Ab h;refine ⟨by simp [BF.put],λ o h2 => ?_⟩;rw[hx.choose_spec o h2];congr 2;funext q
  simp only[BF.put];split<;>rfl
 ·cases h
theorem qP {C:Cl} {f:Nat} {vs:d_} {s:Nat} {own:BF} {p:AV × BF} (hp:p.2 s=⟨0,λ_=>none⟩) (h : ∀ o:BF,(∀ q,q≠s->o q=own q)->C.kv f vs o=some (p.1,p.2.put s (o s))):WS C f vs s own=some p:=by
 have hex : ∃ p:AV × BF,∀ o:BF,(∀ q,q≠s->o q=own q)->C.kv f vs o=some (p.1,p.2.put s (o s)):=⟨p,h⟩;unfold WS;rw[dif_pos hex];have h1:=hex.choose_spec own λ_ _=>rfl
 have h2:=h own λ_ _=>rfl
 have h3:=Ab (h2.symm.trans h1);simp only[ye]at h3;refine congrArg some (Prod.ext h3.1.symm ?_);funext q
 have h4:=congrFun h3.2 q;simp only[BF.put]at h4 ⊢;by_cases e:q=s
 ·subst e;simp [hp]
 ·simpa [e] using h4.symm
def kZ:AV->AV
 | .sl _ es => .sl false es
 | .nil => .sl false []
 | v=>v
def Gv:AV->AV
 | .agg cs => .agg (cs.map kZ)
 | v=>kZ v
def nG:AV->AV
 | .sl _ es => .sl true es
 | v=>v
def Iv:AV->AV
 | .agg cs => .agg (cs.map nG)
 | v=>nG v
mutual
def ML:AV->AV
 | .sl _ es => .sl true (W8 es)
 | v=>v
def V6:d_->d_
 | []=>[]
 | c::r=>ML c::V6 r
def W8:c_->c_
 | []=>[]
 | c::r=>V6 c::W8 r
end
def OT:AV->AV
 | .agg cs => .agg (V6 cs)
 | v=>ML v
def SE:AV->AV
 | .e9 vs => .e9 (vs.map OT)
 | v=>OT v
def pR:AV->Prop
 | .e9 _=>False
 | .fn _ _ _ _=>False
 | _=>True
def dT:AV->Prop
 | .e9 vs => ∀ v∈vs,pR v
 | v=>pR v
def LE:AV->Bool
 | .int _ _=>true | .bool _=>true | .sl _ _=>true | .nil=>true
 | _=>false
def dq:AV->Bool
 | .agg cs=>cs.all LE
 | v=>LE v
def AfD:AV->Bool
 | .int _ _=>true | .bool _=>true
 | _=>false
def lH:AV->Prop
 | .int _ _=>True
 | .bool _=>True
 | .sl _ es => ∀ e∈es,∀ c∈e,AfD c=true
 | _=>False
def Q9:AV->Prop
 | .agg cs => ∀ c∈cs,lH c
 | v=>lH v
open Classical in
noncomputable def V7 (r:AV):AV:=if Q9 r then Iv r else SE r
theorem Zb {r:AV} (h:Q9 r):V7 r=Iv r:=if_pos h
theorem Za {r:AV} (h : ¬ Q9 r):V7 r=SE r:=if_neg h
def NN:d_->Option (List Int)
 | []=>some []
 | .int .i64 n::r=>(NN r).map (n :: ·)
 | _=>none
def LT:AV->Option AV
 | .agg _=>none
 | .fn _ _ _ _=>none
 | .e9 _=>none
 | .any=>none
 | v=>some v
open Classical in
noncomputable def WR (x:Option (AV × BF)):b_:=match x with
 | some (.row s t z 0 n,o)=>match o.get s t with
  | some b=>if b.es.length=n/\J6 b.es then some (z,b.es) else none
  | none=>none
 | _=>none
theorem Akw {x:Option (AV × BF)} {z:Nat} {es:c_} (h:WR x=some (z,es)) : ∃ s t o b,x=some (.row s t z 0 es.length,o)/\o.get s t=some b/\b.es=es/\J6 es:=by
 unfold WR at h;split at h
 ·split at h
  ·rename_i s t z' n o b hb
   split at h
   ·rename_i hc
    obtain ⟨rfl,hc⟩:=hc;simp only[yc,ye]at h;obtain ⟨rfl,rfl⟩:=h;exact ⟨_,_,_,_,rfl,hb,rfl,hc⟩
   ·cases h
  ·cases h
 ·cases h
open Classical in
noncomputable def g7 (C:Cl) (b8:a_) (ρ:BM->AV) (own:BF):HO->Option ET
 | .w9 x=>some (.val (ρ x))
 | .bu s a9=>some (.Iz s ⟨a9,[]⟩ (λ t => .row s t a9 0 0))
 | .pick c a b=>match ρ c with
  | .bool true=>some (.val (ρ a))
  | .bool false=>some (.val (ρ b))
  | _=>none
 | .bin op x y=>match ρ x,ρ y with
  | .int k a,.int k' b=>(G5 op k a k' b).map .val
  | _,_=>none
 | .beq ne x y=>match ρ x,ρ y with
  | .bool a,.bool b=>some (.val (.bool (if ne then !(a == b) else a == b)))
  | _,_=>none
 | .un op x=>(dR op (ρ x)).map .val
 | .conv k x=>match ρ x with
  | .int _ n=>some (.val (.int k (k.wrap n)))
  | _=>none
 | .box s x=>match cellsOf (ρ x) with
  | some cs=>some (.new s ⟨cs.length,[cs]⟩ (λ t => .ptr s t 0 0))
  | none=>none
 | .alloc s zero=>some (.new s ⟨zero.length,[zero]⟩ (λ t => .ptr s t 0 0))
 | .build zero parts=>(fill zero (parts.map λ p=>(p.1,p.2.1,ρ p.2.2))).map (λ cs => .val (.agg cs))
 | .c8 s a9 parts=>match parts.mapM (λ x=>cellsOf (ρ x)) with
  | some es=>if ∀ e∈es,e.length=a9 then some (.new s ⟨a9,es⟩ (λ t => .row s t a9 0 es.length)) else none
  | none=>none
 | .dj x off=>match ρ x with
  | .ptr s t i j=>some (.val (.ptr s t i (j+off)))
  | .af cs=>some (.val (.af (cs.drop off)))
  | _=>none
 | .zf x off n agg=>match ρ x with
  | .agg cs=>match part cs off n with
   | some ds=>(RH agg ds).map .val
   | none=>none
  | _=>none
 | .cp arr a9 x i=>match ρ i with
  | .int _ n=>match arr,ρ x with
   | some len,.ptr s t i' j=>if 0<=n/\n<len then some (.val (.ptr s t i' (j+n.toNat*a9))) else none
   | some len,.af cs=>if 0<=n/\n<len then some (.val (.af (cs.drop (n.toNat*a9)))) else none
   | none,.row s t z off len=>if 0<=n/\n<len/\z=a9 then some (.val (.ptr s t (off+n.toNat) 0)) else none
   | none,.sl _ es=>if 0<=n then match es[n.toNat]? with
     | some cs=>if cs.length=a9 then some (.val (.af cs)) else none
     | none=>none
    else none
   | _,_=>none
  | _=>none
 | .ld agg n x=>match ρ x with
  | .ptr s t i j=>match (own.o5 b8).As s t i j n with
   | some cs=>(RH agg cs).map .val
   | none=>none
  | .af cs=>match part cs 0 n with
   | some ds=>(RH agg ds).map .val
   | none=>none
  | _=>none
 | .Cz agg n x=>match ρ x with
  | .af cs=>match part cs 0 n with
   | some ds=>(RH agg ds).map .val
   | none=>none
  | _=>none
 | .st n x v=>match ρ x,cellsOf (ρ v) with
  | .ptr s t i j,some vs=>if vs.length=n then (own.wg s t i j vs).map (ET.kb (.e9 [])) else none
  | _,_=>none
 | .mk s a9 bytes zero l c=>match ρ l,ρ c with
  | .int _ a,.int _ b=>if 0<=a/\a<=b/\b*bytes<=H8/\b<=9223372036854775807/\zero.length=a9 then some (.new s ⟨a9,Wb a.toNat zero⟩ (λ t => .row s t a9 0 a.toNat)) else none
  | _,_=>none
 | .pn a9 x lo hi=>match ρ x with
  | .sl l es =>
   let h:Option Nat:=match hi with|none=>some es.length|some o=>match ρ o with | .int _ n=>if 0<=n/\n<=es.length then some n.toNat else none|_=>none
   let a:Option Nat:=match lo with|none=>some 0|some o=>match ρ o with | .int _ n=>if 0<=n then some n.toNat else none|_=>none
   match a,h with
   | some a,some h=>if a<=h /\ ∀ e∈es,e.length=a9 then some (.val (.sl l ((es.take h).drop a))) else none
   | _,_=>none
  | .nil =>
   let h:Option Nat:=match hi with|none=>some 0|some o=>match ρ o with | .int _ n=>if n=0 then some 0 else none|_=>none
   let a:Option Nat:=match lo with|none=>some 0|some o=>match ρ o with | .int _ n=>if n=0 then some 0 else none|_=>none
   match a,h with
   | some _,some _=>some (.val .nil)
   | _,_=>none
  | .row s t z off len =>
   let h:Option Nat:=match hi with|none=>some len|some o=>match ρ o with | .int _ n=>if 0<=n/\n<=len then some n.toNat else none|_=>none
   let a:Option Nat:=match lo with|none=>some 0|some o=>match ρ o with | .int _ n=>if 0<=n then some n.toNat else none|_=>none
   match a,h with
   | some a,some h=>if a<=h/\z=a9 then some (.val (.row s t z (off+a) (h-a))) else none
   | _,_=>none
  | _=>none
 | .ext x i=>match ρ x with
  | .e9 vs=>(vs[i]?).map .val
  | _=>none
 | .len x=>match ZI (ρ x) with
  | some n=>some (.val (.int .i64 (n:Int)))
  | none=>none
 | .mm max xs=>match xs.map ρ with
  | []=>none
  | v::r=>(SI max v r).map .val
 | .app s a9 bytes x y=>match IU own (ρ y) with
  | some ys=>if ∀ e∈ys,e.length=a9 then match ρ x with
    | .row s' t z 0 len=>match own.get s' t with
     | some b=>if b.a9=a9/\z=a9/\len<=b.es.length/\(len+ys.length)*bytes<=H8/\len+ys.length<=9223372036854775807 then
       some (.kb (.row s' (own.j8 s') a9 0 (len+ys.length)) (own.put s' (((own s').v9 t none).new ⟨a9,b.es.take len++ys⟩)))
      else none
     | none=>none
    | .nil=>if ys.length*bytes<=H8/\ys.length<=9223372036854775807 then
       some (.kb (.row s (own.j8 s) a9 0 ys.length) (own.put s ((own s).new ⟨a9,ys⟩))) else none
    | _=>none
   else none
  | none=>none
 | .call f xs=>match (xs.map ρ).mapM (F4 (own.o5 b8) true) with
  | some vs=>(C.pure f vs).map .val
  | none=>none
 | .j5 f xs=>match b8 with
  | [s]=>(WS C f (xs.map ρ) s own).map (λ r => .Kx s r.1 r.2)
  | _=>(C.kv f (xs.map ρ) own).map (λ r => .kb r.1 r.2)
 | .Cg ne x=>match ρ x with
  | .nil=>some (.val (.bool (xor true ne)))
  | .iz (.bool b)=>some (.val (.bool (xor b ne)))
  | .sl _ (_::_)=>some (.val (.bool (xor false ne)))
  | .row _ _ _ _ (_+1)=>some (.val (.bool (xor false ne)))
  | _=>none
 | .bad=>none
 | .mj x=>match ρ x with
  | .nil=>some (.val (.int .i64 0))
  | _=>none
 | .yx s a9 bytes x y=>match ρ x,ρ y with
  | .nil,.int _ n=>if 0<n/\n*bytes<=H8/\n<=9223372036854775807 then some (.new s ⟨a9,[]⟩ (λ t => .row s t a9 0 n.toNat)) else none
  | _,_=>none
 | .iy s f xs=>(qR C f (xs.map ρ) s (own s)).map λ p => .Gw s p.2 p.1
 | .oz tb x=>match ρ x with
  | .int _ n=>if 0<=n then (match tb[n.toNat]? with
   | some v=>some (.val (.int .u8 v))
   | none=>none) else none
  | _=>none
 | .Au p f xs=>(xs.mapM (λ x=>LT (ρ x))).map (λ cs => .val (.fn (p&&cs.isEmpty) f (C.num f) cs))
 | .Bo f x=>match ρ x with
  | .agg (c::cs)=>some (.val (.fn true f (C.num f) (c::cs)))
  | _=>none
 | .l7 f xs=>if (xs.map ρ).all dq=true then (match C.pure f ((xs.map ρ).map Gv) with
   | some r=>if Q9 r\/dT r then some (.val (V7 r)) else none
   | none=>none) else none
 | .ym s n x v=>match ρ x,cellsOf (ρ v) with
  | .ptr s' t i j,some vs=>if s'=s/\vs.length=n then (own.wg s t i j vs).map (λ o'=>ET.v9 s (o' s)) else none
  | _,_=>none
 | .Bu ne n x y=>match ρ x,ρ y with
  | .agg cs,.agg ds=>match NN cs,NN ds with
   | some a,some b=>if a.length=n/\b.length=n then some (.val (.bool (if ne then !(decide (a=b)) else decide (a=b)))) else none
   | _,_=>none
  | _,_=>none
 | .bf s f xs=>match (xs.map ρ).mapM (YK (own.o5 b8) true) with
  | some vs=>(WR (C.kv f vs BF.emp)).map (λ r => .new s ⟨r.1,r.2⟩ (λ t => .row s t r.1 0 r.2.length))
  | none=>none
 | .q6 x xs=>match ρ x with
  | .fn p f g cs=>if g=C.num f then (match p,cs with
   | true,[]=>(match (xs.map ρ).mapM (F4 own true) with
    | some vs=>(C.pure f vs).map .val
    | none=>none)
   | false,cs=>(C.kv f (xs.map ρ++cs) own).map (λ r => .kb r.1 r.2)
   | true,c::cs=>(match (AV.agg (c::cs)::xs.map ρ).mapM (F4 own true) with
    | some vs=>(C.pure f vs).map .val
    | none=>none)) else none
  | _=>none
def St.dst (st:St) (d:Option Nat) (v:AV):St :=
 match d with
 | some d=>{ st with tm:=sv st.tm d v }
 | none=>st
def St.app (st:St) (d:Option Nat):ET->St
 | .val v=>st.dst d v
 | .new s b v=>{ (st.dst d (v (st.own.j8 s))) with own:=st.own.put s ((st.own s).new b) }
 | .Iz s b v=>{ (st.dst d (v (st.own.j8 s))) with own:=st.own.put s ((st.own s).new b) }
 | .kb v o=>{ (st.dst d v) with own:=o }
 | .Kx s v o=>{ (st.dst d v) with own:=o.put s (st.own s) }
 | .v9 s x=>{ (st.dst d (.e9 [])) with own:=st.own.put s x }
 | .Gw s x v=>{ (st.dst d v) with own:=st.own.put s x }
def JP (st:St):Option (Nat × Bool)->Option Bool
 | none=>some true
 | some (g,want)=>match j6 st.tm g with
  | .bool b=>some (b == want)
  | .e9 []=>some false
  | _=>none
noncomputable def FY (C:Cl) (o:AI) (st:St):Option St :=
 match JP st o.guard with
 | some true=>(g7 C o.b8 st.ev st.own o.op).map (st.app o.dst)
 | some false=>some (st.dst o.dst (.e9 []))
 | none=>none
noncomputable def F9 (C:Cl):List AI->St->Option St
 | [],st=>some st
 | o::r,st=>match FY C o st with
  | some k8=>F9 C r k8
  | none=>none
def ID:HO->Option Nat
 | .bu s _=>some s
 | .box s _=>some s
 | .alloc s _=>some s
 | .c8 s _ _=>some s
 | .mk s _ _ _ _ _=>some s
 | .ym s _ _ _=>some s
 | .bf s _ _=>some s
 | .yx s _ _ _ _=>some s
 | .iy s _ _=>some s
 | _=>none
inductive It where
 | code (c:DE)
 | tu (ts ss:a_)
 | g8 (id:Nat)
 | lp (c:DE)
def HN (id:Nat):List It->Option (List It)
 | .g8 Wt::k=>if Wt=id then some k else HN id k
 | _::k=>HN id k
 | []=>none
def BF.drop (o:BF):a_->BF
 | []=>o
 | s::r=>(o.drop r).put s ⟨(o s).j8,λ_=>none⟩
noncomputable def run (C:Cl):Nat->List It->St->Option St
 | 0,_,_=>none
 | _+1,[],st=>some st
 | n+1,.g8 _::k,st=>run C n k st
 | n+1,.tu ts ss::k,st=>run C n k ⟨fp st.tm ts,st.own.drop ss⟩
 | n+1,.lp c::k,st=>run C n (.code c :: .lp c::k) st
 | n+1,.code c::k,st=>match c with
  | .skip=>run C n k st
  | .ops l _=>match F9 C l st with
   | some k8=>run C n k k8
   | none=>none
  | .dr c ts ss=>run C n (.code c :: .tu ts ss::k) st
  | .scope c=>run C n (.code c::k) st
  | .seq a b=>run C n (.code a :: .code b::k) st
  | .cond c a b=>match st.ev c with
   | .bool true=>run C n (.code a::k) st
   | .bool false=>run C n (.code b::k) st
   | _=>none
  | .block id c=>run C n (.code c :: .g8 id::k) st
  | .loop c=>run C n (.code c :: .lp c::k) st
  | .exit id=>match HN id k with
   | some k'=>run C n k' st
   | none=>none
  | .ret=>some st
def FK (i:Nat):d_->Tm
 | []=>[]
 | v::r=>(i,v)::FK (i+1) r
def P9:AV->Option AV
 | .any=>none
 | .e9 _=>none
 | v=>some v
def JL (st:St):Q7->Option AV
 | .tmp t=>P9 (j6 st.tm t)
 | .cell t agg n=>match j6 st.tm t with
  | .ptr s u i j=>match st.own.As s u i j n with
   | some cs=>RH agg cs
   | none=>none
  | _=>none
def N1:d_->AV
 | [v]=>v
 | vs => .e9 vs
structure Lib where
 fn:Nat->Option AFn
 num:Nat->Nat
instance : CoeFun Lib (λ_ => Nat -> Option AFn) := ⟨Lib.fn⟩
open Classical in
noncomputable def P2 (I:d_->Option (AV × BF)) (vs:d_):Option AV :=
 match I vs with
 | some (r,o)=>match dN o false r with
  | some r'=>if CI r' then some r' else none
  | none=>none
 | none=>none
def Lib.Ay (L:Lib) (f:Nat):Bool:=match L f with
 | some fn=>fn.Ay
 | none=>false
open Classical in
noncomputable def TH (b:Bool) (I:d_->Option (AV × BF)) (vs:d_):Option AV:=match b,vs with
 | true,.sl _ []::vs=>match P2 I (.iz (.bool true)::vs),P2 I (.iz (.bool false)::vs) with
  | some r,some r'=>if r=r' then some r else none
  | _,_=>none
 | _,vs=>P2 I vs
noncomputable def GR (L:Lib):Nat->Nat->d_->BF->Option (AV × BF)
 | 0,_,_,_=>none
 | n+1,f,args,own=>match L f with
  | none=>none
  | some fn=>if args.length=fn.gq then
    match run ⟨λ f vs=>TH (L.Ay f) (λ vs=>GR L n f vs BF.emp) vs,GR L n,L.num⟩ n [.code fn.body] ⟨FK 0 args,own⟩ with
    | some st=>match fn.res.mapM (JL st) with
     | some vs=>some (N1 vs,st.own)
     | none=>none
    | none=>none
   else none
noncomputable def L7 (L:Lib) (n f:Nat) (vs:d_):Option AV:=TH (L.Ay f) (λ vs=>GR L n f vs BF.emp) vs
noncomputable def FA (L:Lib) (n:Nat):Cl:=⟨L7 L n,GR L n,L.num⟩
theorem mJ (L:Lib) (n f:Nat) (args:d_) (own:BF):GR L (n+1) f args own =
  match L f with
  | none=>none
  | some fn=>if args.length=fn.gq then
    match run (FA L n) n [.code fn.body] ⟨FK 0 args,own⟩ with
    | some st=>match fn.res.mapM (JL st) with
     | some vs=>some (N1 vs,st.own)
     | none=>none
    | none=>none
   else none:=rfl
namespace C
abbrev o (d:Nat) (op:HO):AI:=⟨some d,op,none,[]⟩
abbrev n (op:HO):AI:=⟨none,op,none,[]⟩
abbrev g (d i:Nat) (b:Bool) (op:HO):AI:=⟨some d,op,some (i,b),[]⟩
abbrev m (d s:Nat):AI:=⟨some d,.w9 (.t s),none,[]⟩
abbrev k (v:Int):BM := .c (.int .i64 v)
abbrev z:AV := .int .i64 0
abbrev q (d:Nat) (b8:a_) (op:HO):AI:=⟨some d,op,none,b8⟩
abbrev u (b8:a_) (op:HO):AI:=⟨none,op,none,b8⟩
abbrev v (d i:Nat) (b:Bool) (b8:a_) (op:HO):AI:=⟨some d,op,some (i,b),b8⟩
abbrev p (l:List AI):DE := .ops l false
abbrev P (l:List AI):DE := .ops l true
abbrev d (l:List AI) (ts:a_):DE := .dr (.ops l false) ts []
abbrev e (l:List AI) (ts:a_):DE := .dr (.ops l true) ts []
abbrev s (a b:DE):DE := .seq a b
abbrev i (c:BM) (a b:DE):DE := .cond c a b
abbrev b (id:Nat) (c:DE):DE := .block id c
abbrev w (c:DE):DE := .loop c
abbrev x (id:Nat):DE := .exit id
instance (i : Nat) : OfNat BM i := ⟨.t i⟩
abbrev mv (d:Nat) (x:BM):AI:=⟨some d,.w9 x,none,[]⟩
abbrev tt (d n:Nat) (x:BM):AI:=⟨some d,.ld true n x,none,[]⟩
abbrev uu (d n:Nat) (x:BM):AI:=⟨some d,.ld false n x,none,[]⟩
abbrev ca (d f:Nat) (l:List BM):AI:=⟨some d,.call f l,none,[]⟩
abbrev fa (d:Nat) (x:BM) (a:Nat):AI:=⟨some d,.dj x a,none,[]⟩
abbrev ia (d z:Nat) (x y:BM):AI:=⟨some d,.cp none z x y,none,[]⟩
abbrev bi (d:Nat) (f:BinOp) (x y:BM):AI:=⟨some d,.bin f x y,none,[]⟩
abbrev ad (d:Nat) (x y:BM):AI:=⟨some d,.bin .add x y,none,[]⟩
abbrev sb (d:Nat) (x y:BM):AI:=⟨some d,.bin .sub x y,none,[]⟩
abbrev ls (d:Nat) (x y:BM):AI:=⟨some d,.bin .lss x y,none,[]⟩
abbrev al (d:Nat) (l:d_):AI:=⟨some d,.alloc d l,none,[]⟩
abbrev ln (d:Nat) (x:BM):AI:=⟨some d,.len x,none,[]⟩
abbrev et (d:Nat) (x:BM) (a:Nat):AI:=⟨some d,.ext x a,none,[]⟩
abbrev bx (d:Nat) (x:BM):AI:=⟨some d,.box d x,none,[]⟩
abbrev pk (d:Nat) (x y w:BM):AI:=⟨some d,.pick x y w,none,[]⟩
abbrev nt (d:Nat) (x:BM):AI:=⟨some d,.un .not x,none,[]⟩
abbrev cu (d:Nat) (x:BM):AI:=⟨some d,.conv .u64 x,none,[]⟩
abbrev so (n:Nat) (x y:BM):AI:=⟨none,.st n x y,none,[]⟩
abbrev kf:BM := .c (.bool false)
abbrev kt:BM := .c (.bool true)
abbrev k0:BM := .c (.int .i64 0)
abbrev k1:BM := .c (.int .i64 1)
abbrev z3:d_:=[.bool false,.nil,.nil]
abbrev z6:d_:=[.nil,.nil,.nil,.bool false,.nil,.nil]
abbrev sd (l:List AI) (ts:a_) (c:DE):DE := .seq (.dr (.ops l false) ts []) c
abbrev se (l:List AI) (ts:a_) (c:DE):DE := .seq (.dr (.ops l true) ts []) c
abbrev sp (l:List AI) (c:DE):DE := .seq (.ops l false) c
abbrev ra (a n:Nat):a_:=Tf a n
abbrev rl (l:a_) (a n:Nat):a_:=l++Tf a n
end C
end Go.j4
namespace Go.j4.F
open C
def aF:AFn:=⟨1,(sd [mv 2 kf] [2] (sd [m 3 0,m 4 0,bi 5 .neq 3 4,m 2 5] [0,3,4,5] .ret)),[.tmp 2],false⟩
def aG:AFn:=⟨1,(sd [mv 2 kf] [2] (sd [m 3 0,m 4 0,bi 5 .neq 3 4,m 2 5] [0,3,4,5] .ret)),[.tmp 2],false⟩
def aD:AFn:=⟨2,(sd [mv 4 k0] [4] (sd [m 7 0,ca 8 58 [7],m 5 8] [7,8] (sd [m 9 1,ca 10 58 [9],m 6 10] [9,10] (s (sd [m 11 5] [5] (i 11 (s (sd [m 12 6] [0,1,6,11] (i 12 (sd [mv 4 k0] [12] .ret) .skip)) (sd [mv 4 (k (-1))] [12] .ret)) .skip)) (s (sd [m 13 6] [6,11] (i 13 (sd [mv 4 k1] [0,1,13] .ret) .skip)) (s (sd [m 14 0,m 15 1,ls 16 14 15] [13,14,15] (i 16 (sd [mv 4 (k (-1))] [0,1,16] .ret) .skip)) (s (sd [m 17 0,m 18 1,bi 19 .gtr 17 18] [0,1,16,17,18] (i 19 (sd [mv 4 k1] [19] .ret) .skip)) (sd [mv 4 k0] [19] .ret)))))))),[.tmp 4],false⟩
def aE:AFn:=⟨2,(sd [mv 4 k0] [4] (sd [m 7 0,ca 8 59 [7],m 5 8] [7,8] (sd [m 9 1,ca 10 59 [9],m 6 10] [9,10] (s (sd [m 11 5] [5] (i 11 (s (sd [m 12 6] [0,1,6,11] (i 12 (sd [mv 4 k0] [12] .ret) .skip)) (sd [mv 4 (k (-1))] [12] .ret)) .skip)) (s (sd [m 13 6] [6,11] (i 13 (sd [mv 4 k1] [0,1,13] .ret) .skip)) (s (sd [m 14 0,m 15 1,ls 16 14 15] [13,14,15] (i 16 (sd [mv 4 (k (-1))] [0,1,16] .ret) .skip)) (s (sd [m 17 0,m 18 1,bi 19 .gtr 17 18] [0,1,16,17,18] (i 19 (sd [mv 4 k1] [19] .ret) .skip)) (sd [mv 4 k0] [19] .ret)))))))),[.tmp 4],false⟩
def Q5:AFn:=⟨1,(sd [mv 2 (.c .nil)] [2] (s (sd [m 3 0,o 4 (.Cg false 3)] [3] (i 4 (sd [mv 2 (.c .nil)] [0,4] .ret) .skip)) (sd [o 5 (.c8 5 1 []),m 6 0,o 7 (.app 7 1 4 5 6),m 2 7] [0,4,5,6,7] .ret))),[.tmp 2],true⟩
def bF:AFn:=⟨1,(sp [mv 2 k0] (s (sd [m 3 0,bi 4 .geq 3 (.c (.int .u32 (65536)))] [3] (i 4 (sd [m 5 0,bi 6 .shr 5 (.c (.int .u64 (16))),m 0 6] [2,4,5,6] (p [mv 2 (k 16)])) .skip)) (s (sd [m 7 0,bi 8 .geq 7 (.c (.int .u32 (256)))] [4,7] (i 8 (sd [m 9 0,bi 10 .shr 9 (.c (.int .u64 (8))),m 0 10] [8,9,10] (d [m 11 2,ad 12 11 (k 8),m 2 12] [11,12])) .skip)) (sd [m 13 2,m 14 0,o 15 (.conv .u8 14),o 16 (.oz (Wb 1 0++Wb 1 1++Wb 2 2++Wb 4 3++Wb 8 4++Wb 16 5++Wb 32 6++Wb 64 7++Wb 128 8) 15),o 17 (.conv .i64 16),ad 18 13 17,m 2 18] (rl [0,8] 13 6) .ret)))),[.tmp 2],false⟩
def bE:AFn:=⟨1,(sd [mv 2 k0] [2] (sd [m 3 0,ca 4 63 [3],sb 5 (k 32) 4,m 2 5] [0,3,4,5] .ret)),[.tmp 2],false⟩
def KS.l1:=(s (sd [m 6 3,bi 7 .gtr 6 k0,m 8 7,g 9 8 true (.w9 0),g 10 8 true (.w9 3),g 11 8 true (.bin .sub 10 k1),g 12 8 true (.cp none 1 9 11),g 13 8 true (.ld false 1 12),g 14 8 true (.bin .eql 13 (.c (.int .u32 (0)))),pk 15 8 14 kf] (ra 6 9) (i 15 .skip (x 0))) (b 1 (d [m 16 3,sb 17 16 k1,m 3 17] [15,16,17])))
def KS:AFn:=⟨1,(sd [mv 2 (.c .nil)] [2] (sd [m 4 0,ln 5 4,m 3 5] [4,5] (s (b 0 (w KS.l1)) (sd [m 18 0,m 19 3,o 20 (.pn 1 18 none (some 19)),m 2 20] [0,3,15,18,19,20] .ret)))),[.tmp 2],false⟩
def bL:AFn:=⟨1,(sd [mv 2 (.c .nil)] [2] (sd [m 3 0,o 4 (.j5 65 [3]),ca 5 62 [4],m 2 5] [0,3,4,5] .ret)),[.tmp 2],false⟩
def XC.l1:=(s (sd [m 25 7,bi 26 .geq 25 k0] [25] (i 26 .skip (x 0))) (s (b 1 (se [m 29 5,m 30 7,ia 31 1 29 30,uu 32 1 31,m 33 6,m 34 7,ia 35 1 33 34,uu 36 1 35,bi 37 .neq 32 36] (rl [26] 29 8) (i 37 (se [m 38 5,m 39 7,ia 40 1 38 39,uu 41 1 40,m 42 6,m 43 7,ia 44 1 42 43,uu 45 1 44,ca 46 61 [41,45],m 4 46] (rl [5,6,7] 37 10) .ret) .skip))) (d [m 27 7,sb 28 27 k1,m 7 28] [27,28,37])))
def XC:AFn:=⟨2,(sd [mv 4 k0] [4] (sd [m 8 0,o 9 (.j5 65 [8]),m 10 1,o 11 (.j5 65 [10]),m 5 9,m 6 11] (rl [0,1] 8 4) (s (sd [m 12 5,ln 13 12,m 14 6,ln 15 14,bi 16 .neq 13 15] (ra 12 4) (i 16 (sd [m 17 5,ln 18 17,m 19 6,ln 20 19,ca 21 60 [18,20],m 4 21] (rl [5,6] 16 6) .ret) .skip)) (s (sd [m 22 5,ln 23 22,sb 24 23 k1,m 7 24] [16,22,23,24] (b 0 (w XC.l1))) (sd [mv 4 k0] [5,6,7,26] .ret))))),[.tmp 4],false⟩
def XB.l1:=(sp [ls 30 29 28] (s (i 30 .skip (x 0)) (s (b 1 (sd [m 31 29,ia 32 1 27 29,uu 33 1 32,m 9 31,m 10 33] (ra 30 4) (sd [m 34 10,cu 35 34,m 36 8,ad 37 35 36,m 11 37] (rl [8,10] 34 4) (s (sd [m 38 9,m 39 6,ln 40 39,ls 41 38 40] [38,39,40] (i 41 (d [m 42 11,m 43 6,m 44 9,ia 45 1 43 44,uu 46 1 45,cu 47 46,ad 48 42 47,m 11 48] (ra 41 8)) .skip)) (sd [m 49 7,m 50 9,m 51 11,o 52 (.conv .u32 51),ia 53 1 49 50,so 1 53 52] (rl [9,41] 49 5) (d [m 54 11,bi 55 .shr 54 (.c (.int .u64 (32))),m 8 55] [11,54,55])))))) (d [ad 56 29 k1,m 29 56] [56]))))
def XB:AFn:=⟨2,(sd [mv 4 (.c .nil)] [4] (sd [m 12 0,o 13 (.j5 65 [12]),m 14 1,o 15 (.j5 65 [14]),m 5 13,m 6 15] (rl [0,1] 12 4) (s (sd [m 16 5,ln 17 16,m 18 6,ln 19 18,ls 20 17 19] (ra 16 4) (i 20 (d [m 21 6,m 22 5,m 5 21,m 6 22] [20,21,22]) .skip)) (sd [m 23 5,ln 24 23,ad 25 24 k1,o 26 (.mk 26 1 4 [(.int .u32 (0))] 25 25),m 7 26] (rl [20] 23 4) (sp [mv 8 (.c (.int .u64 (0)))] (s (sp [m 27 5,ln 28 27,mv 29 k0] (b 0 (w XB.l1))) (sd [m 57 7,m 58 5,ln 59 58,m 60 8,o 61 (.conv .u32 60),ia 62 1 57 59,so 1 62 61] (rl [5,6,8,27,28,29,30] 57 6) (sd [m 63 7,o 64 (.j5 65 [63]),m 4 64] [7,63,64] .ret)))))))),[.tmp 4],false⟩
def XD.l1:=(sp [ls 26 25 24] (s (i 26 .skip (x 0)) (s (b 1 (sd [m 27 25,ia 28 1 23 25,uu 29 1 28,m 9 27,m 10 29] (ra 26 4) (sd [m 30 10,cu 31 30,m 32 8,sb 33 31 32,m 11 33] (rl [8,10] 30 4) (s (sd [m 34 9,m 35 6,ln 36 35,ls 37 34 36] [34,35,36] (i 37 (d [m 38 11,m 39 6,m 40 9,ia 41 1 39 40,uu 42 1 41,cu 43 42,sb 44 38 43,m 11 44] (ra 37 8)) .skip)) (sd [m 45 7,m 46 9,m 47 11,o 48 (.conv .u32 47),ia 49 1 45 46,so 1 49 48] (rl [9,37] 45 5) (d [m 50 11,bi 51 .shr 50 (.c (.int .u64 (63))),m 8 51] [11,50,51])))))) (d [ad 52 25 k1,m 25 52] [52]))))
def XD:AFn:=⟨2,(sd [mv 4 (.c .nil)] [4] (s (sd [m 12 0,m 13 1,ca 14 67 [12,13],bi 15 .leq 14 k0] [12,13,14] (i 15 (sd [mv 4 (.c .nil)] [0,1,15] .ret) .skip)) (sd [m 16 0,o 17 (.j5 65 [16]),m 18 1,o 19 (.j5 65 [18]),m 5 17,m 6 19] (rl [0,1] 15 5) (sd [m 20 5,ln 21 20,o 22 (.mk 22 1 4 [(.int .u32 (0))] 21 21),m 7 22] [20,21,22] (sp [mv 8 (.c (.int .u64 (0)))] (s (sd [m 23 5,ln 24 23,mv 25 k0] [5] (b 0 (w XD.l1))) (sd [m 53 7,o 54 (.j5 65 [53]),m 4 54] [6,7,8,23,24,25,26,53,54] .ret))))))),[.tmp 4],false⟩
def SK.l2:=(sp [ls 44 43 42] (s (i 44 .skip (x 2)) (s (b 3 (sd [m 45 43,ia 46 1 41 43,uu 47 1 46,m 11 45,m 12 47] (ra 44 4) (sd [m 48 9,cu 49 48,m 50 12,cu 51 50,bi 52 .mul 49 51,m 53 7,m 54 8,m 55 11,ad 56 54 55,ia 57 1 53 56,uu 58 1 57,cu 59 58,ad 60 52 59,m 61 10,ad 62 60 61,m 13 62] (rl [10,12] 48 15) (sd [m 63 7,m 64 8,m 65 11,ad 66 64 65,m 67 13,o 68 (.conv .u32 67),ia 69 1 63 66,so 1 69 68] (rl [11] 63 7) (d [m 70 13,bi 71 .shr 70 (.c (.int .u64 (32))),m 10 71] [13,70,71]))))) (d [ad 72 43 k1,m 43 72] [72]))))
def SK.l1:=(sp [ls 35 34 33] (s (i 35 .skip (x 0)) (s (b 1 (sd [m 36 34,ia 37 1 32 34,uu 38 1 37,m 8 36,m 9 38] (ra 35 4) (s (sd [m 39 9,bi 40 .eql 39 (.c (.int .u32 (0)))] [39] (i 40 (x 1) .skip)) (sd [mv 10 (.c (.int .u64 (0)))] [40] (s (sp [m 41 6,ln 42 41,mv 43 k0] (b 2 (w SK.l2))) (d [m 73 7,m 74 8,m 75 6,ln 76 75,ad 77 74 76,m 78 10,o 79 (.conv .u32 78),ia 80 1 73 77,so 1 80 79] (rl [8,9,10,41,42,43,44] 73 8))))))) (d [ad 81 34 k1,m 34 81] [8,9,40,81]))))
def SK:AFn:=⟨2,(sd [mv 4 (.c .nil)] [4] (sd [m 14 0,o 15 (.j5 65 [14]),m 16 1,o 17 (.j5 65 [16]),m 5 15,m 6 17] (rl [0,1] 14 4) (s (sd [m 18 5,ln 19 18,bi 20 .eql 19 k0,m 21 20,g 22 21 false (.w9 6),g 23 21 false (.len 22),g 24 21 false (.bin .eql 23 k0),pk 25 21 kt 24] (ra 18 7) (i 25 (sd [mv 4 (.c .nil)] [5,6,25] .ret) .skip)) (sd [m 26 5,ln 27 26,m 28 6,ln 29 28,ad 30 27 29,o 31 (.mk 31 1 4 [(.int .u32 (0))] 30 30),m 7 31] (ra 25 7) (s (sd [m 32 5,ln 33 32,mv 34 k0] [5] (b 0 (w SK.l1))) (sd [m 82 7,o 83 (.j5 65 [82]),m 4 83] [6,7,32,33,34,35,82,83] .ret)))))),[.tmp 4],false⟩
def SN.l1:=(sp [ls 16 15 14] (s (i 16 .skip (x 0)) (s (b 1 (sd [m 17 15,ia 18 1 13 15,uu 19 1 18,m 9 17,m 10 19] (ra 16 4) (sd [m 20 7,m 21 9,m 22 10,m 23 1,bi 24 .shl 22 23,m 25 8,bi 26 .or 24 25,ia 27 1 20 21,so 1 27 26] (rl [8,9] 20 8) (d [m 28 10,cu 29 28,m 30 1,bi 31 .shl 29 30,bi 32 .shr 31 (.c (.int .u64 (32))),o 33 (.conv .u32 32),m 8 33] (rl [10] 28 6))))) (d [ad 34 15 k1,m 15 34] [34]))))
def SN:AFn:=⟨3,(sd [mv 6 (.c .nil)] [6] (sd [m 11 2,o 12 (.mk 71012 1 4 [(.int .u32 (0))] 11 11),m 7 12] [11,12] (sp [mv 8 (.c (.int .u32 (0)))] (s (sp [m 13 0,ln 14 13,mv 15 k0] (b 0 (w SN.l1))) (s (sd [m 35 2,m 36 0,ln 37 36,bi 38 .gtr 35 37] [1,2,13,14,15,16,35,36,37] (i 38 (d [m 39 7,m 40 0,ln 41 40,m 42 8,ia 43 1 39 41,so 1 43 42] (rl [0,8] 38 6)) .skip)) (sd [m 44 7,m 6 44] [0,7,8,38,44] .ret)))))),[.tmp 6],false⟩
def XH.l1:=(s (sd [m 14 7,bi 15 .geq 14 k0] [14] (i 15 .skip (x 0))) (s (b 1 (sd [m 18 5,m 19 7,m 20 0,m 21 7,ia 22 1 20 21,uu 23 1 22,m 24 1,bi 25 .shr 23 24,m 26 6,bi 27 .or 25 26,ia 28 1 18 19,so 1 28 27] (rl [6,15] 18 11) (d [m 29 0,m 30 7,ia 31 1 29 30,uu 32 1 31,cu 33 32,m 34 1,sb 35 (.c (.int .u64 (32))) 34,bi 36 .shl 33 35,o 37 (.conv .u32 36),m 6 37] (ra 29 9)))) (d [m 16 7,sb 17 16 k1,m 7 17] [16,17])))
def XH:AFn:=⟨2,(sd [mv 4 (.c .nil)] [4] (sd [m 8 0,ln 9 8,o 10 (.mk 10 1 4 [(.int .u32 (0))] 9 9),m 5 10] [8,9,10] (sp [mv 6 (.c (.int .u32 (0)))] (s (sd [m 11 0,ln 12 11,sb 13 12 k1,m 7 13] [11,12,13] (b 0 (w XH.l1))) (sd [m 38 5,m 4 38] [0,1,5,6,7,15,38] .ret))))),[.tmp 4],false⟩
namespace KT
def r0:=[mv 4 (.c (.int .u32 (0)))]
def r1:=[m 19 1,ln 20 19,m 5 20]
def r2:=[m 21 0,m 22 5,ia 23 1 21 22,uu 24 1 23,cu 25 24,bi 26 .shl 25 (.c (.int .u64 (32))),m 27 0,m 28 5,
 sb 29 28 k1,ia 30 1 27 29,uu 31 1 30,cu 32 31,bi 33 .or 26 32,m 6 33]
def r3:=[m 34 6,m 35 1,m 36 5,sb 37 36 k1,ia 38 1 35 37,uu 39 1 38,cu 40 39,bi 41 .quo 34 40,m 42 6,
 m 43 1,m 44 5,sb 45 44 k1,ia 46 1 43 45,uu 47 1 46,cu 48 47,bi 49 .rem 42 48,m 7 41,m 8 49]
def r4:=[m 50 7,bi 51 .geq 50 (.c (.int .u64 (4294967296))),m 52 51,g 53 52 false (.w9 7),g 54 52 false (.w9 1),g 55 52 false (.w9 5),
 g 56 52 false (.bin .sub 55 (k 2)),g 57 52 false (.cp none 1 54 56),g 58 52 false (.ld false 1 57),g 59 52 false (.conv .u64 58),
 g 60 52 false (.bin .mul 53 59),g 61 52 false (.w9 8),g 62 52 false (.bin .shl 61 (.c (.int .u64 (32)))),g 63 52 false (.w9 0),g 64 52 false (.w9 5),
 g 65 52 false (.bin .sub 64 (k 2)),g 66 52 false (.cp none 1 63 65),g 67 52 false (.ld false 1 66),g 68 52 false (.conv .u64 67),
 g 69 52 false (.bin .or 62 68),g 70 52 false (.bin .gtr 60 69),pk 71 52 kt 70]
def r5:=[m 72 7,sb 73 72 (.c (.int .u64 (1))),m 7 73]
def r6:=[m 74 8,m 75 1,m 76 5,sb 77 76 k1,ia 78 1 75 77,uu 79 1 78,cu 80 79,ad 81 74 80,m 8 81]
def r7:=[m 82 8,bi 83 .geq 82 (.c (.int .u64 (4294967296)))]
def r8:=[mv 9 (.c (.int .u64 (0))),mv 10 (.c (.int .u64 (0)))]
def r9:=[m 84 1,ln 85 84,mv 86 k0]
def ZP:=[ls 87 86 85]
def ZR:=[m 88 86,ia 89 1 84 86,uu 90 1 89,m 11 88,m 12 90]
def Gp:=[m 91 7,m 92 12,cu 93 92,bi 94 .mul 91 93,m 95 9,ad 96 94 95,m 13 96]
def gP:=[m 97 13,bi 98 .shr 97 (.c (.int .u64 (32))),m 9 98]
def Kp:=[m 99 0,m 100 11,ia 101 1 99 100,uu 102 1 101,cu 103 102,m 104 13,o 105 (.conv .u32 104),cu 106 105,
 sb 107 103 106,m 108 10,sb 109 107 108,m 14 109]
def Kq:=[m 110 0,m 111 11,m 112 14,o 113 (.conv .u32 112),ia 114 1 110 111,so 1 114 113]
def Kr:=[m 115 14,bi 116 .shr 115 (.c (.int .u64 (63))),m 10 116]
def gS:=[ad 117 86 k1,m 86 117]
def Gu:=[m 118 0,m 119 5,ia 120 1 118 119,uu 121 1 120,cu 122 121,m 123 9,sb 124 122 123,m 125 10,
 sb 126 124 125,m 15 126]
def Ov:=[m 127 0,m 128 5,m 129 15,o 130 (.conv .u32 129),ia 131 1 127 128,so 1 131 130]
def Qo:=[m 132 15,bi 133 .shr 132 (.c (.int .u64 (63))),bi 134 .eql 133 (.c (.int .u64 (0)))]
def Qp:=[m 135 7,o 136 (.conv .u32 135),m 4 136]
def Qq:=[mv 9 (.c (.int .u64 (0)))]
def Qt:=[m 137 1,ln 138 137,mv 139 k0]
def oD:=[ls 140 139 138]
def oE:=[m 141 139,ia 142 1 137 139,uu 143 1 142,m 16 141,m 17 143]
def oF:=[m 144 0,m 145 16,ia 146 1 144 145,uu 147 1 146,cu 148 147,m 149 17,cu 150 149,ad 151 148 150,
 m 152 9,ad 153 151 152,m 18 153]
def oG:=[m 154 0,m 155 16,m 156 18,o 157 (.conv .u32 156),ia 158 1 154 155,so 1 158 157]
def oH:=[m 159 18,bi 160 .shr 159 (.c (.int .u64 (32))),m 9 160]
def oI:=[ad 161 139 k1,m 139 161]
def Ow:=[m 162 0,m 163 5,ia 164 1 162 163,uu 165 1 164,m 166 9,o 167 (.conv .u32 166),ad 168 165 167,
 ia 169 1 162 163,so 1 169 168]
def Qu:=[m 170 7,sb 171 170 (.c (.int .u64 (1))),o 172 (.conv .u32 171),m 4 172]
def l1:=(s (se r4 [50,51,52,53,54,55,56,57,58,59,60,61,62,63,64,65,66,67,68,69,70,83] (i 71 .skip (x 0))) (b 1 (sd r5 [71,72,73] (sd r6 (ra 74 8) (sd r7 [82] (i 83 (x 0) .skip))))))
def l2:=(sp ZP (s (i 87 .skip (x 2)) (s (b 3 (sd ZR (ra 87 4) (sd Gp (rl [9,12] 91 6) (sd gP [97,98] (sd Kp (rl [10,13] 99 11) (sd Kq (rl [11] 110 5) (d Kr [14,115,116]))))))) (d gS [117]))))
def l3:=(sp oD (s (i 140 .skip (x 4)) (s (b 5 (sd oE (ra 140 4) (sd oF (rl [9,17] 144 10) (sd oG (rl [16] 154 5) (d oH [18,159,160]))))) (d oI [161]))))
def c:=(sd r0 [4] (sd r1 [19,20] (se r2 (ra 21 13) (se r3 (rl [6] 34 16) (s (b 0 (w l1)) (sd r8 [8,71,83] (s (sp r9 (b 2 (w l2))) (sd Gu (rl [9,10,84,85,86,87] 118 9) (sd Ov (ra 127 5) (s (sd Qo [15,132,133] (i 134 (sd Qp [0,1,5,7,134,135,136] .ret) .skip)) (sd Qq [134] (s (sd Qt [1] (b 4 (w l3))) (sd Ow (rl [0,5,9,137,138,139,140] 162 8) (sd Qu [7,170,171,172] .ret))))))))))))))
end KT
def KT:AFn:=⟨2,KT.c,[.tmp 4],false⟩
def SL.l1:=(s (sd [m 34 9,bi 35 .geq 34 k0] [34] (i 35 .skip (x 0))) (s (b 1 (sd [m 38 8,bi 39 .shl 38 (.c (.int .u64 (32))),m 40 0,m 41 9,ia 42 1 40 41,uu 43 1 42,cu 44 43,bi 45 .or 39 44,m 10 45] (rl [8,35] 38 8) (sd [m 46 7,m 47 9,m 48 10,m 49 1,ia 50 1 49 k0,uu 51 1 50,cu 52 51,bi 53 .quo 48 52,o 54 (.conv .u32 53),ia 55 1 46 47,so 1 55 54] (ra 46 10) (d [m 56 10,m 57 1,ia 58 1 57 k0,uu 59 1 58,cu 60 59,bi 61 .rem 56 60,m 8 61] (rl [10] 56 6))))) (d [m 36 9,sb 37 36 k1,m 9 37] [36,37])))
def SL.l2:=(s (sd [m 89 14,bi 90 .geq 89 k0] [89] (i 90 .skip (x 2))) (s (b 3 (d [m 93 7,m 94 14,m 95 12,m 96 14,m 97 14,m 98 6,ad 99 97 98,ad 100 99 k1,o 101 (.pn 1 95 (some 96) (some 100)),m 102 13,o 103 (.j5 73 [101,102]),ia 104 1 93 94,so 1 104 103] (rl [90] 93 12))) (d [m 91 14,sb 92 91 k1,m 14 92] [91,92])))
def SL:AFn:=⟨2,(sd [mv 4 (.c .nil),mv 5 (.c .nil)] [4,5] (s (sd [m 15 0,m 16 1,ca 17 67 [15,16],ls 18 17 k0] [15,16,17] (i 18 (sd [m 19 0,ca 20 62 [19],mv 4 (.c .nil),m 5 20] [0,1,18,19,20] .ret) .skip)) (sd [m 21 1,ln 22 21,m 6 22] [18,21,22] (sd [m 23 0,ln 24 23,m 25 6,sb 26 24 25,ad 27 26 k1,o 28 (.mk 28 1 4 [(.int .u32 (0))] 27 27),m 7 28] (ra 23 6) (s (sd [m 29 6,bi 30 .eql 29 k1] [29] (i 30 (sd [mv 8 (.c (.int .u64 (0)))] [6,30] (s (sd [m 31 0,ln 32 31,sb 33 32 k1,m 9 33] [31,32,33] (b 0 (w SL.l1))) (sd [m 62 7,o 63 (.j5 65 [62]),m 64 8,o 65 (.conv .u32 64),o 66 (.c8 66 1 [65]),o 67 (.j5 65 [66]),m 4 63,m 5 67] (rl [0,1,7,8,9,35] 62 6) .ret))) .skip)) (sd [m 68 1,m 69 6,sb 70 69 k1,ia 71 1 68 70,uu 72 1 71,ca 73 64 [72],cu 74 73,m 11 74] (rl [30] 68 7) (sd [m 75 0,m 76 11,m 77 0,ln 78 77,ad 79 78 k1,o 80 (.j5 71 [75,76,79]),m 81 1,m 82 11,m 83 6,ca 84 71 [81,82,83],m 12 80,m 13 84] (rl [1] 75 10) (s (sd [m 85 0,ln 86 85,m 87 6,sb 88 86 87,m 14 88] (rl [0] 85 4) (b 2 (w SL.l2))) (se [m 105 7,o 106 (.j5 65 [105]),m 107 12,m 108 6,o 109 (.pn 1 107 none (some 108)),m 110 11,ca 111 72 [109,110],o 112 (.j5 65 [111]),m 4 106,m 5 112] (rl [6,7,11,12,13,14,90] 105 8) .ret))))))))),[.tmp 4,.tmp 5],false⟩
def bJ:AFn:=⟨2,(sd [mv 4 (.c .nil),mv 5 (.c .nil),mv 6 k0] [4,5,6] (sd [m 10 1,o 11 (.j5 65 [10]),m 7 11] [1,10,11] (s (sd [m 12 7,ln 13 12,bi 14 .eql 13 k0] [12,13] (i 14 (sd [mv 4 (.c .nil),mv 5 (.c .nil),mv 6 (k 3)] [0,7,14] .ret) .skip)) (sd [m 16 0,o 17 (.j5 65 [16]),m 18 7,ca 19 74 [17,18],m 15 19,et 20 15 0,et 21 15 1,m 8 20,m 9 21] (rl [0,7] 14 8) (sd [m 22 8,m 23 9,m 4 22,m 5 23,mv 6 k0] [8,9,22,23] .ret))))),[.tmp 4,.tmp 5,.tmp 6],false⟩
def XJ.l1:=(sp [ls 9 8 7] (s (i 9 .skip (x 0)) (s (b 1 (sd [m 10 8,ia 11 1 6 8,uu 12 1 11,m 4 10,m 5 12] (ra 9 4) (d [m 13 3,m 14 5,cu 15 14,m 16 4,bi 17 .mul (k 32) 16,bi 18 .shl 15 17,bi 19 .or 13 18,m 3 19] (rl [4,5] 13 7)))) (d [ad 20 8 k1,m 8 20] [20]))))
def XJ:AFn:=⟨1,(sd [mv 2 (.c (.int .u64 (0)))] [2] (sp [mv 3 (.c (.int .u64 (0)))] (s (sd [m 6 0,ln 7 6,mv 8 k0] [0] (b 0 (w XJ.l1))) (sd [m 21 3,m 2 21] [3,6,7,8,9,21] .ret)))),[.tmp 2],false⟩
def SM:AFn:=⟨2,(sd [mv 3 (.c (.int .u64 (0)))] [3] (s (sd [m 4 0,uu 5 1 1,ln 6 5,ls 7 4 6] [4,5,6] (i 7 (sd [uu 8 1 1,m 9 0,ia 10 1 8 9,uu 11 1 10,cu 12 11,m 3 12] (rl [0,1] 7 6) .ret) .skip)) (sd [mv 3 (.c (.int .u64 (0)))] [0,1,7] .ret))),[.tmp 3],false⟩
def bN:AFn:=⟨3,(sd [bx 3 0,mv 6 k0] [0,6] (sd [o 9 (.Au false 77 [3]),m 7 9] [3,9] (sd [m 10 7,m 11 1,sb 12 11 k1,o 13 (.q6 10 [12]),bi 14 .shl 13 (.c (.int .u64 (32))),m 15 7,m 16 1,sb 17 16 (k 2),o 18 (.q6 15 [17]),bi 19 .or 14 18,m 20 2,bi 21 .shl 19 20,m 8 21] (ra 10 12) (sd [m 22 8,m 23 7,m 24 1,sb 25 24 (k 3),o 26 (.q6 23 [25]),m 27 2,bi 28 .shl 26 27,bi 29 .shr 28 (.c (.int .u64 (32))),bi 30 .or 22 29,m 8 30] (rl [1,2,7] 22 9) (sd [m 31 8,bi 32 .shr 31 (.c (.int .u64 (2))),o 33 (.conv .i64 32),m 6 33] [8,31,32,33] .ret))))),[.tmp 6],false⟩
def XF.l1:=(s (sd [m 11 1,m 12 6,ad 13 11 12,bi 14 .neq 13 k0,m 15 14,g 16 15 true (.w9 1),g 17 15 true (.w9 7),g 18 15 true (.bin .add 16 17),g 19 15 true (.bin .neq 18 k0),pk 20 15 19 kf] (ra 11 9) (i 20 .skip (x 0))) (b 1 (sd [m 21 0,m 22 4,ad 23 21 22,m 24 1,m 25 6,ad 26 24 25,bi 27 .quo 23 26,m 8 27] (ra 20 8) (s (sd [m 28 8,m 29 0,m 30 5,ad 31 29 30,m 32 1,m 33 7,ad 34 32 33,bi 35 .quo 31 34,bi 36 .neq 28 35,m 37 36,g 38 37 false (.w9 8),g 39 37 false (.bin .gtr 38 (k 2147483647)),pk 40 37 kt 39] (ra 28 12) (i 40 (x 0) .skip)) (sd [m 41 4,m 42 8,m 43 6,bi 44 .mul 42 43,sb 45 41 44,m 46 5,m 47 8,m 48 7,bi 49 .mul 47 48,sb 50 46 49,m 9 45,m 10 50] (ra 40 11) (s (sd [m 51 9,m 52 9,o 53 (.un .neg 52),m 54 10,m 55 10,o 56 (.un .neg 55),o 57 (.mm true [51,53,54,56]),bi 58 .gtr 57 (k 2147483647)] (ra 51 7) (i 58 (x 0) .skip)) (sd [m 59 6,m 60 7,m 61 9,m 62 10,m 4 59,m 5 60,m 6 61,m 7 62] (rl [9,10] 58 5) (d [m 63 1,m 64 0,m 65 8,m 66 1,bi 67 .mul 65 66,sb 68 64 67,m 0 63,m 1 68] (rl [8] 63 6)))))))))
def XF:AFn:=⟨2,(sd [mv 4 k0,mv 5 k0,mv 6 k0,mv 7 k0] [4,7] (sp [mv 4 k1,mv 7 k1] (s (b 0 (w XF.l1)) (sd [m 69 4,m 70 5,m 71 6,m 72 7,m 4 69,m 5 70,m 6 71,m 7 72] (rl [0,1,8,9,10,20,40,58] 69 4) .ret)))),[.tmp 4,.tmp 5,.tmp 6,.tmp 7],false⟩
def XG.l1:=(sp [ls 20 19 18] (s (i 20 .skip (x 0)) (s (b 1 (sd [m 21 19,ia 22 1 17 19,uu 23 1 22,m 11 21,m 12 23] (ra 20 4) (sd [m 24 2,m 25 12,o 26 (.conv .i64 25),bi 27 .mul 24 26,m 28 10,ad 29 27 28,m 13 29] (rl [10,12] 24 6) (s (sd [m 30 11,m 31 1,ln 32 31,ls 33 30 32] [30,31,32] (i 33 (d [m 34 13,m 35 3,m 36 1,m 37 11,ia 38 1 36 37,uu 39 1 38,o 40 (.conv .i64 39),bi 41 .mul 35 40,ad 42 34 41,m 13 42] (ra 33 10)) .skip)) (sd [m 43 9,m 44 11,m 45 13,o 46 (.conv .u32 45),ia 47 1 43 44,so 1 47 46] (rl [11,33] 43 5) (d [m 48 13,bi 49 .shr 48 (.c (.int .u64 (32))),m 10 49] [13,48,49])))))) (d [ad 50 19 k1,m 19 50] [50]))))
def XG:AFn:=⟨4,(sd [mv 8 (.c .nil)] [8] (sd [m 14 0,ln 15 14,o 16 (.mk 16 1 4 [(.int .u32 (0))] 15 15),m 9 16] [14,15,16] (sp [mv 10 k0] (s (sd [m 17 0,ln 18 17,mv 19 k0] [0] (b 0 (w XG.l1))) (sd [m 51 9,o 52 (.j5 65 [51]),m 8 52] [1,2,3,9,10,17,18,19,20,51,52] .ret))))),[.tmp 8],false⟩
def bO:AFn:=⟨2,(sd [mv 4 (.c .nil),mv 5 (.c .nil)] [4,5] (sd [m 14 0,ln 15 14,m 6 15] [14,15] (sd [m 16 0,m 17 6,sb 18 17 k1,ia 19 1 16 18,uu 20 1 19,ca 21 64 [20],cu 22 21,m 7 22] (ra 16 7) (sd [m 24 0,m 25 6,m 26 7,ca 27 78 [24,25,26],m 28 1,m 29 6,m 30 7,ca 31 78 [28,29,30],ca 32 79 [27,31],m 23 32,et 33 23 0,et 34 23 1,et 35 23 2,et 36 23 3,m 8 33,m 9 34,m 10 35,m 11 36] (rl [6,7] 23 14) (s (sd [m 37 9,bi 38 .eql 37 k0] [37] (i 38 (sd [m 40 0,m 41 1,ca 42 74 [40,41],m 39 42,et 43 39 0,et 44 39 1,m 12 43,m 13 44] (rl [0,8,9,10,11,12] 38 7) (sd [m 45 1,m 46 13,m 4 45,m 5 46] [1,13,45,46] .ret)) .skip)) (sd [m 47 0,m 48 1,m 49 8,m 50 9,ca 51 80 [47,48,49,50],m 52 0,m 53 1,m 54 10,m 55 11,ca 56 80 [52,53,54,55],m 4 51,m 5 56] (rl [0,1,8,9,10,11,38] 47 10) .ret)))))),[.tmp 4,.tmp 5],false⟩
namespace LS
def r0:=[mv 4 (.c .nil)]
def r1:=[m 11 0,ca 12 66 [11],m 13 1,ca 14 66 [13],m 5 12,m 6 14]
def r2:=[m 15 5,m 16 6,ca 17 67 [15,16],ls 18 17 k0]
def r3:=[m 19 6,m 20 5,m 5 19,m 6 20]
def r4:=[m 21 6,ln 22 21,bi 23 .gtr 22 (k 2)]
def r5:=[m 25 5,m 26 6,ca 27 81 [25,26],m 24 27,et 28 24 0,et 29 24 1,m 5 28,m 6 29]
def r6:=[m 30 6,ln 31 30,bi 32 .eql 31 k0]
def r7:=[m 33 5,m 4 33]
def r8:=[m 35 5,m 36 6,ca 37 74 [35,36],m 34 37,et 38 34 0,et 39 34 1,m 7 38,m 8 39]
def r9:=[m 40 6,ca 41 76 [40],m 42 8,ca 43 76 [42],m 9 41,m 10 43]
def ZP:=[m 44 10,bi 45 .neq 44 (.c (.int .u64 (0)))]
def ZR:=[m 46 10,m 47 9,m 48 10,bi 49 .rem 47 48,m 9 46,m 10 49]
def Gp:=[m 50 9,o 51 (.conv .u32 50),m 52 9,bi 53 .shr 52 (.c (.int .u64 (32))),o 54 (.conv .u32 53),o 55 (.c8 55 1 [51,54]),o 56 (.j5 65 [55]),
 m 4 56]
def l1:=(s (sd r4 [18,21,22] (i 23 .skip (x 0))) (b 1 (d r5 (ra 23 7))))
def l2:=(s (sd ZP [44] (i 45 .skip (x 2))) (b 3 (e ZR (ra 45 5))))
def c:=(sd r0 [4] (sd r1 (rl [0,1] 11 4) (s (sd r2 [15,16,17] (i 18 (d r3 [18,19,20]) .skip)) (s (b 0 (w l1)) (s (sd r6 [23,30,31] (i 32 (sd r7 [5,6,32,33] .ret) .skip)) (sd r8 (rl [5,7,32] 34 6) (sd r9 (rl [6,8] 40 4) (s (b 2 (w l2)) (sd Gp (rl [9,10,45] 50 7) .ret)))))))))
end LS
def LS:AFn:=⟨2,LS.c,[.tmp 4],false⟩
structure c9 (L:Lib):Prop where
 aF:L 58=some F.aF
 aG:L 59=some F.aG
 aD:L 60=some F.aD
 aE:L 61=some F.aE
 Q5:L 62=some F.Q5
 bF:L 63=some F.bF
 bE:L 64=some F.bE
 KS:L 65=some F.KS
 bL:L 66=some F.bL
 XC:L 67=some F.XC
 XB:L 68=some F.XB
 XD:L 69=some F.XD
 SK:L 70=some F.SK
 SN:L 71=some F.SN
 XH:L 72=some F.XH
 KT:L 73=some F.KT
 SL:L 74=some F.SL
 bJ:L 75=some F.bJ
 XJ:L 76=some F.XJ
 SM:L 77=some F.SM
 bN:L 78=some F.bN
 XF:L 79=some F.XF
 XG:L 80=some F.XG
 bO:L 81=some F.bO
 LS:L 82=some F.LS
end Go.j4.F

namespace Go.j4.F
open C
def HD:AFn:=⟨2,(sp [o 4 (.alloc 83004 [(.bool false),.nil])] (sd [m 5 0,m 6 5,g 7 6 true (.w9 1),g 8 6 true (.len 7),g 9 6 true (.bin .gtr 8 k0),pk 10 6 9 kf,m 11 1,o 12 (.build [(.bool false),.nil] [(0,1,10),(1,1,11)]),so 2 4 12] (rl [0,1] 5 8) .ret)),[.cell 4 true 2],false⟩
def bC:AFn:=⟨1,(sd [bx 1 0,al 2 [(.bool false),.nil]] [0] (se [fa 3 1 0,uu 4 1 3,fa 5 1 1,uu 6 1 5,ca 7 66 [6],o 8 (.j5 83 [4,7]),so 2 2 8] (rl [1] 3 6) .ret)),[.cell 2 true 2],false⟩
def bA:AFn:=⟨1,(sp [al 2 [(.bool false),.nil]] (sd [m 4 0,cu 5 4,m 3 5] [4,5] (s (sd [m 6 0,ls 7 6 k0] [6] (i 7 (d [m 8 3,o 9 (.un .neg 8),m 3 9] [7,8,9]) .skip)) (sd [m 10 0,ls 11 10 k0,m 12 3,o 13 (.conv .u32 12),m 14 3,bi 15 .shr 14 (.c (.int .u64 (32))),o 16 (.conv .u32 15),o 17 (.c8 17 1 [13,16]),ca 18 66 [17],o 19 (.j5 83 [11,18]),so 2 2 19] (rl [0,3,7] 10 10) .ret)))),[.cell 2 true 2],false⟩
def bB:AFn:=⟨1,(sd [bx 1 0,mv 2 k0] [0,2] (s (b 0 (sd [fa 4 1 1,uu 5 1 4,ca 6 67 [5,(.c .nil)],bi 7 .eql 6 k0,m 3 7] (ra 4 4) (i 3 (sd [mv 2 k0] [1,3] .ret) (sd [fa 9 1 0,uu 10 1 9,m 8 10] [1,3,9,10] (i 8 (sd [mv 2 (k (-1))] [8] .ret) .skip))))) (sd [mv 2 k1] [8] .ret))),[.tmp 2],false⟩
def aX:AFn:=⟨2,(sd [bx 2 0,bx 3 1,al 4 [(.bool false),.nil]] [0,1] (s (sd [fa 5 2 0,uu 6 1 5,fa 7 3 0,uu 8 1 7,o 9 (.beq false 6 8)] (ra 5 4) (i 9 (se [fa 10 2 0,uu 11 1 10,fa 12 2 1,uu 13 1 12,fa 14 3 1,uu 15 1 14,ca 16 68 [13,15],o 17 (.j5 83 [11,16]),so 2 4 17] (rl [2,3] 9 9) .ret) .skip)) (s (sd [fa 18 2 1,uu 19 1 18,fa 20 3 1,uu 21 1 20,ca 22 67 [19,21],bi 23 .eql 22 (k (-1))] (rl [9] 18 5) (i 23 (se [fa 24 3 0,uu 25 1 24,fa 26 3 1,uu 27 1 26,fa 28 2 1,uu 29 1 28,ca 30 69 [27,29],o 31 (.j5 83 [25,30]),so 2 4 31] (rl [2,3] 23 9) .ret) .skip)) (se [fa 32 2 0,uu 33 1 32,fa 34 2 1,uu 35 1 34,fa 36 3 1,uu 37 1 36,ca 38 69 [35,37],o 39 (.j5 83 [33,38]),so 2 4 39] (rl [2,3,23] 32 8) .ret)))),[.cell 4 true 2],false⟩
def aZ:AFn:=⟨2,(sd [bx 2 0,bx 3 1,al 4 [(.bool false),.nil]] [0,1] (se [fa 5 2 0,uu 6 1 5,fa 7 3 0,uu 8 1 7,o 9 (.beq true 6 8),fa 10 2 1,uu 11 1 10,fa 12 3 1,uu 13 1 12,ca 14 70 [11,13],o 15 (.j5 83 [9,14]),so 2 4 15] (rl [2,3] 5 11) .ret)),[.cell 4 true 2],false⟩
def TQ:AFn:=⟨1,(sd [bx 1 0,al 2 [(.bool false),.nil,.nil,(.bool false)]] [0] (s (sd [fa 3 1 2,uu 4 1 3,ln 5 4,bi 6 .eql 5 k1,m 7 6,g 8 7 true (.dj 1 2),g 9 7 true (.ld false 1 8),g 10 7 true (.cp none 1 9 k0),g 11 7 true (.ld false 1 10),g 12 7 true (.bin .eql 11 (.c (.int .u32 (1)))),pk 13 7 12 kf] (ra 3 10) (i 13 (sd [fa 14 1 0,tt 15 2 14,fa 16 1 2,uu 17 1 16,o 18 (.build z3 [(0,2,15),(2,1,17)]),o 19 (.build [(.bool false),.nil,.nil,(.bool false)] [(0,3,18),(3,1,kt)]),so 4 2 19] (rl [1] 13 7) .ret) .skip)) (s (sd [fa 20 1 2,uu 21 1 20,ca 22 67 [21,(.c .nil)],bi 23 .eql 22 k0] [13,20,21,22] (i 23 (sd [o 24 (.build [(.bool false),.nil] []),o 25 (.c8 25 1 [(.c (.int .u32 (1)))]),o 26 (.build z3 [(0,2,24),(2,1,25)]),o 27 (.build [(.bool false),.nil,.nil,(.bool false)] [(0,3,26),(3,1,kt)]),so 4 2 27] (rl [1] 23 5) .ret) .skip)) (sd [fa 28 1 0,tt 29 2 28,fa 30 1 2,uu 31 1 30,o 32 (.build z3 [(0,2,29),(2,1,31)]),o 33 (.build [(.bool false),.nil,.nil,(.bool false)] [(0,3,32),(3,1,kf)]),so 4 2 33] (rl [1,23] 28 6) .ret)))),[.cell 2 true 4],false⟩
def cD:AFn:=⟨1,(sd [mv 2 kf] [2] (sd [m 3 0,ln 4 3,bi 5 .eql 4 k1,m 6 5,g 7 6 true (.w9 0),g 8 6 true (.cp none 1 7 k0),g 9 6 true (.ld false 1 8),g 10 6 true (.bin .eql 9 (.c (.int .u32 (1)))),pk 11 6 10 kf,m 2 11] (rl [0] 3 9) .ret)),[.tmp 2],false⟩
def cE:AFn:=⟨1,(sp [al 2 [(.bool false),.nil]] (sd [m 3 0,o 4 (.build [(.bool false),.nil] [(1,1,3)]),so 2 2 4] [0,3,4] .ret)),[.cell 2 true 2],false⟩
def QR:AFn:=⟨1,(sd [o 1 (.box 92001 0),o 2 (.alloc 92002 z3)] [0] (sd [tt 3 2 1,o 4 (.c8 92004 1 [(.c (.int .u32 (1)))]),o 5 (.build z3 [(0,2,3),(2,1,4)]),so 3 2 5] [1,3,4,5] .ret)),[.cell 2 true 3],false⟩
def cG:AFn:=⟨2,(sd [o 2 (.box 93002 0),o 3 (.box 93003 1),o 4 (.alloc 93004 z3)] [0,1] (sd [fa 5 2 0,uu 6 1 5,fa 7 3 0,uu 8 1 7,o 9 (.beq true 6 8),fa 10 2 1,uu 11 1 10,o 12 (.build [(.bool false),.nil] [(0,1,9),(1,1,11)]),fa 13 3 1,uu 14 1 13,o 15 (.build z3 [(0,2,12),(2,1,14)]),so 3 4 15] (rl [2,3] 5 11) .ret)),[.cell 4 true 3],false⟩
def cF:AFn:=⟨1,(sd [bx 1 0,al 2 z3] [0] (sd [fa 14 1 0,fa 15 14 1,uu 16 1 15,fa 17 1 2,uu 18 1 17,ca 19 75 [16,18],m 13 19,et 20 13 0,et 21 13 1,et 22 13 2,m 3 20,m 4 21,m 5 22] (rl [5] 13 10) (s (sd [m 23 4,ln 24 23,bi 25 .eql 24 k0] [23,24] (i 25 (sd [fa 26 1 0,fa 27 26 0,uu 28 1 27,m 29 3,o 30 (.build [(.bool false),.nil] [(0,1,28),(1,1,29)]),ca 31 84 [30],o 32 (.j5 92 [31]),so 3 2 32] (rl [1,3,4] 25 8) .ret) .skip)) (sd [fa 33 1 2,uu 34 1 33,m 35 4,ca 36 82 [34,35],m 6 36] (rl [3,4,25] 33 4) (s (sd [m 37 6,ca 38 90 [37]] [37] (i 38 (se [fa 39 1 0,tt 40 2 39,ca 41 84 [40],fa 42 1 2,uu 43 1 42,ca 44 66 [43],o 45 (.build z3 [(0,2,41),(2,1,44)]),so 3 2 45] (rl [1,6] 38 8) .ret) .skip)) (sd [fa 47 1 0,fa 48 47 1,uu 49 1 48,m 50 6,ca 51 75 [49,50],m 46 51,et 52 46 0,et 53 46 1,et 54 46 2,m 7 52,m 8 53,m 9 54] (rl [8,9,38] 46 9) (sd [fa 56 1 2,uu 57 1 56,m 58 6,ca 59 75 [57,58],m 55 59,et 60 55 0,et 61 55 1,et 62 55 2,m 10 60,m 11 61,m 12 62] (rl [6,11,12] 55 8) (sd [fa 63 1 0,fa 64 63 0,uu 65 1 64,m 66 7,o 67 (.build [(.bool false),.nil] [(0,1,65),(1,1,66)]),m 68 10,o 69 (.build z3 [(0,2,67),(2,1,68)]),so 3 2 69] (rl [1,7,10] 63 7) .ret)))))))),[.cell 2 true 3],false⟩
def cB:AFn:=⟨1,(sd [bx 1 0,al 2 z3] [0] (sd [tt 3 3 1,o 4 (.l7 89 [3]),o 5 (.zf 4 0 3 true),ca 6 94 [5],so 3 2 6] [1,3,4,5,6] .ret)),[.cell 2 true 3],false⟩
def bY:AFn:=⟨1,(sp [al 2 z3] (sd [m 3 0,ca 4 85 [3],o 5 (.j5 92 [4]),so 3 2 5] [0,3,4,5] .ret)),[.cell 2 true 3],false⟩
def bZ:AFn:=⟨1,(sd [bx 1 0,mv 2 k0] [0,2] (sd [tt 3 3 1,o 4 (.l7 89 [3]),o 5 (.zf 4 0 3 true),o 6 (.zf 5 0 2 true),ca 7 86 [6],m 2 7] (rl [1] 3 5) .ret)),[.tmp 2],false⟩
def TI:AFn:=⟨2,(sd [bx 2 0,bx 3 1,al 4 z3] [0,1] (se [q 8 [5,6] (.ld true 3 2),q 9 [5,6] (.l7 89 [8]),q 10 [5,6] (.ld true 3 3),q 11 [5,6] (.l7 89 [10]),al 5 [(.bool false),.nil,.nil,(.bool false)],al 6 [(.bool false),.nil,.nil,(.bool false)],so 4 5 9,so 4 6 11] (rl [2,3] 8 4) (s (sd [fa 12 5 3,uu 13 1 12,m 14 13,g 15 14 true (.dj 6 3),g 16 14 true (.ld false 1 15),pk 17 14 16 kf] (ra 12 5) (i 17 (sd [fa 18 5 0,fa 19 18 0,tt 20 2 19,fa 21 6 0,fa 22 21 0,tt 23 2 22,ca 24 87 [20,23],o 25 (.j5 92 [24]),so 3 4 25] (rl [5,6] 17 9) .ret) .skip)) (s (sd [fa 26 5 0,fa 27 26 2,uu 28 1 27,fa 29 6 0,fa 30 29 2,uu 31 1 30,ca 32 67 [28,31],bi 33 .eql 32 k0] (rl [17] 26 7) (i 33 (se [fa 34 5 0,fa 35 34 0,tt 36 2 35,fa 37 6 0,fa 38 37 0,tt 39 2 38,ca 40 87 [36,39],fa 41 5 0,fa 42 41 2,uu 43 1 42,o 44 (.build z3 [(0,2,40),(2,1,43)]),ca 45 94 [44],so 3 4 45] (rl [5,6] 33 13) .ret) .skip)) (se [fa 46 5 0,fa 47 46 0,q 48 [7] (.ld true 2 47),fa 49 6 0,fa 50 49 2,q 51 [7] (.ld false 1 50),q 52 [7] (.l7 91 [51]),q 53 [7] (.call 88 [48,52]),fa 54 6 0,fa 55 54 0,q 56 [7] (.ld true 2 55),fa 57 5 0,fa 58 57 2,q 59 [7] (.ld false 1 58),q 60 [7] (.l7 91 [59]),q 61 [7] (.call 88 [56,60]),q 62 [7] (.call 87 [53,61]),al 7 [(.bool false),.nil],so 2 7 62] (rl [33] 46 17) (se [tt 63 2 7,fa 64 5 0,fa 65 64 2,uu 66 1 65,fa 67 6 0,fa 68 67 2,uu 69 1 68,ca 70 70 [66,69],o 71 (.build z3 [(0,2,63),(2,1,70)]),ca 72 94 [71],so 3 4 72] (rl [5,6,7] 63 10) .ret)))))),[.cell 4 true 3],false⟩
def X1:AFn:=⟨2,(sd [bx 2 0,bx 3 1,al 4 z3] [0,1] (se [q 8 [5,6] (.ld true 3 2),q 9 [5,6] (.l7 89 [8]),q 10 [5,6] (.ld true 3 3),q 11 [5,6] (.l7 89 [10]),al 5 [(.bool false),.nil,.nil,(.bool false)],al 6 [(.bool false),.nil,.nil,(.bool false)],so 4 5 9,so 4 6 11] (rl [2,3] 8 4) (sd [fa 12 5 0,fa 13 12 0,tt 14 2 13,fa 15 6 0,fa 16 15 0,tt 17 2 16,ca 18 88 [14,17],al 7 [(.bool false),.nil],so 2 7 18] (ra 12 7) (s (sd [fa 19 5 3,uu 20 1 19,m 21 20,g 22 21 true (.dj 6 3),g 23 21 true (.ld false 1 22),pk 24 21 23 kf] (ra 19 5) (i 24 (sd [tt 25 2 7,o 26 (.j5 92 [25]),so 3 4 26] [5,6,7,24,25,26] .ret) .skip)) (se [tt 27 2 7,fa 28 5 0,fa 29 28 2,uu 30 1 29,fa 31 6 0,fa 32 31 2,uu 33 1 32,ca 34 70 [30,33],o 35 (.build z3 [(0,2,27),(2,1,34)]),ca 36 94 [35],so 3 4 36] (rl [5,6,7,24] 27 10) .ret))))),[.cell 4 true 3],false⟩
def bW:AFn:=⟨2,(sd [bx 2 0,bx 3 1,al 4 z3,mv 5 k0] [0,1,5] (se [q 10 [6,7] (.ld true 3 2),q 11 [6,7] (.l7 89 [10]),q 12 [6,7] (.ld true 3 3),q 13 [6,7] (.l7 89 [12]),al 6 [(.bool false),.nil,.nil,(.bool false)],al 7 [(.bool false),.nil,.nil,(.bool false)],so 4 6 11,so 4 7 13] (rl [2,3] 10 4) (s (sd [fa 14 7 0,fa 15 14 0,tt 16 2 15,ca 17 86 [16],bi 18 .eql 17 k0] (ra 14 4) (i 18 (sd [o 19 (.build z3 []),so 3 4 19,mv 5 (k 3)] [6,7,18,19] .ret) .skip)) (se [fa 20 6 0,fa 21 20 0,q 22 [8] (.ld true 2 21),fa 23 7 0,fa 24 23 2,q 25 [8] (.ld false 1 24),q 26 [8] (.l7 91 [25]),q 27 [8] (.call 88 [22,26]),al 8 [(.bool false),.nil],so 2 8 27] (rl [18] 20 8) (se [fa 28 6 0,fa 29 28 2,q 30 [9] (.ld false 1 29),q 31 [9] (.l7 91 [30]),fa 32 7 0,fa 33 32 0,q 34 [9] (.ld true 2 33),q 35 [9] (.call 88 [31,34]),al 9 [(.bool false),.nil],so 2 9 35] (rl [6,7] 28 8) (sd [tt 36 2 8,tt 37 2 9,o 38 (.j5 93 [36,37]),ca 39 94 [38],so 3 4 39,mv 5 k0] (rl [8,9] 36 4) .ret)))))),[.cell 4 true 3,.tmp 5],false⟩
structure a7 (L:Lib):Prop extends c9 L where
 HD:L 83=some F.HD
 bC:L 84=some F.bC
 bA:L 85=some F.bA
 bB:L 86=some F.bB
 aX:L 87=some F.aX
 aZ:L 88=some F.aZ
 TQ:L 89=some F.TQ
 cD:L 90=some F.cD
 cE:L 91=some F.cE
 QR:L 92=some F.QR
 cG:L 93=some F.cG
 cF:L 94=some F.cF
 cB:L 95=some F.cB
 bY:L 96=some F.bY
 bZ:L 97=some F.bZ
 TI:L 98=some F.TI
 X1:L 99=some F.X1
 bW:L 100=some F.bW
end Go.j4.F

namespace Go.j4.F
open C
def NV.l1:=(s (sd [m 6 3,bi 7 .gtr 6 k0,m 8 7,g 9 8 true (.w9 0),g 10 8 true (.w9 3),g 11 8 true (.bin .sub 10 k1),g 12 8 true (.cp none 1 9 11),g 13 8 true (.ld false 1 12),g 14 8 true (.bin .eql 13 (.c (.int .u32 (0)))),pk 15 8 14 kf] (ra 6 9) (i 15 .skip (x 0))) (b 1 (d [m 16 3,sb 17 16 k1,m 3 17] [15,16,17])))
def NV:AFn:=⟨1,(sd [mv 2 (.c .nil)] [2] (sd [m 4 0,ln 5 4,m 3 5] [4,5] (s (b 0 (w NV.l1)) (sd [m 18 0,m 19 3,o 20 (.pn 1 18 none (some 19)),o 21 (.app 101021 1 4 (.c .nil) 20),m 2 21] (rl [0,3,15] 18 4) .ret)))),[.tmp 2],false⟩
def X4.l1:=(s (sd [m 23 5,bi 24 .geq 23 k0] [23] (i 24 .skip (x 0))) (s (b 1 (s (se [m 27 0,m 28 5,ia 29 1 27 28,uu 30 1 29,m 31 1,m 32 5,ia 33 1 31 32,uu 34 1 33,ls 35 30 34] (rl [24] 27 8) (i 35 (sd [mv 4 (k (-1))] [0,1,5,35] .ret) .skip)) (se [m 36 0,m 37 5,ia 38 1 36 37,uu 39 1 38,m 40 1,m 41 5,ia 42 1 40 41,uu 43 1 42,bi 44 .gtr 39 43] (ra 35 9) (i 44 (sd [mv 4 k1] [0,1,5,44] .ret) .skip)))) (d [m 25 5,sb 26 25 k1,m 5 26] [25,26,44])))
def X4:AFn:=⟨2,(sd [mv 4 k0] [4] (sd [m 6 0,ca 7 101 [6],m 8 1,ca 9 101 [8],m 0 7,m 1 9] (ra 6 4) (s (sd [m 10 0,ln 11 10,m 12 1,ln 13 12,bi 14 .neq 11 13] (ra 10 4) (i 14 (s (sd [m 15 0,ln 16 15,m 17 1,ln 18 17,ls 19 16 18] (rl [0,1] 14 5) (i 19 (sd [mv 4 (k (-1))] [19] .ret) .skip)) (sd [mv 4 k1] [19] .ret)) .skip)) (s (sd [m 20 0,ln 21 20,sb 22 21 k1,m 5 22] [14,20,21,22] (b 0 (w X4.l1))) (sd [mv 4 k0] [0,1,5,24] .ret))))),[.tmp 4],false⟩
def X2.l1:=(s (sd [m 8 7,m 9 0,ln 10 9,ls 11 8 10,m 12 11,g 13 12 false (.w9 7),g 14 12 false (.w9 1),g 15 12 false (.len 14),g 16 12 false (.bin .lss 13 15),pk 17 12 kt 16] (ra 8 9) (i 17 .skip (x 0))) (s (b 1 (s (sd [m 20 7,m 21 0,ln 22 21,ls 23 20 22] [17,20,21,22] (i 23 (d [m 24 6,m 25 0,m 26 7,ia 27 1 25 26,uu 28 1 27,cu 29 28,ad 30 24 29,m 6 30] (ra 23 8)) .skip)) (s (sd [m 31 7,m 32 1,ln 33 32,ls 34 31 33] [23,31,32,33] (i 34 (d [m 35 6,m 36 1,m 37 7,ia 38 1 36 37,uu 39 1 38,cu 40 39,ad 41 35 40,m 6 41] (ra 34 8)) .skip)) (sd [m 42 5,m 43 6,o 44 (.conv .u32 43),o 45 (.c8 45 1 [44]),o 46 (.app 46 1 4 42 45),m 5 46] (rl [34] 42 5) (d [m 47 6,bi 48 .shr 47 (.c (.int .u64 (32))),m 6 48] [47,48]))))) (d [m 18 7,ad 19 18 k1,m 7 19] [18,19])))
def X2:AFn:=⟨2,(sd [mv 4 (.c .nil)] [4] (sp [o 5 (.bu 5 1)] (sp [mv 6 (.c (.int .u64 (0)))] (s (sp [mv 7 k0] (b 0 (w X2.l1))) (sd [m 49 5,m 50 6,o 51 (.conv .u32 50),o 52 (.c8 52 1 [51]),o 53 (.app 53 1 4 49 52),ca 54 101 [53],m 4 54] (rl [0,1,5,6,7,17] 49 6) .ret))))),[.tmp 4],false⟩
namespace QS
def r0:=[mv 4 (.c .nil)]
def r1:=[m 10 0,m 11 1,ca 12 102 [10,11],ls 13 12 k0]
def r2:=[mv 4 (.c .nil)]
def r3:=[m 14 1,ca 15 101 [14],m 1 15]
def r4:=[m 16 0,o 17 (.j5 101 [16]),m 5 17]
def r5:=[mv 6 (.c (.int .u64 (0)))]
def r6:=[mv 7 k0]
def r7:=[m 18 7,m 19 5,ln 20 19,ls 21 18 20]
def r9:=[m 24 6,m 8 24]
def ZP:=[m 25 7,m 26 1,ln 27 26,ls 28 25 27]
def ZR:=[m 29 8,m 30 1,m 31 7,ia 32 1 30 31,uu 33 1 32,cu 34 33,ad 35 29 34,m 8 35]
def Gp:=[m 36 5,m 37 7,ia 38 1 36 37,uu 39 1 38,cu 40 39,m 9 40]
def gP:=[mv 6 (.c (.int .u64 (0)))]
def Kp:=[m 41 9,m 42 8,ls 43 41 42]
def Kq:=[m 44 9,ad 45 44 (.c (.int .u64 (4294967296))),m 9 45]
def Kr:=[mv 6 (.c (.int .u64 (1)))]
def gS:=[m 46 5,m 47 7,m 48 9,m 49 8,sb 50 48 49,o 51 (.conv .u32 50),ia 52 1 46 47,so 1 52 51]
def r8:=[m 22 7,ad 23 22 k1,m 7 23]
def Gu:=[m 53 5,ca 54 101 [53],m 4 54]
def l1:=(s (sd r7 [18,19,20] (i 21 .skip (x 0))) (s (b 1 (sd r9 [6,21,24] (s (sd ZP [25,26,27] (i 28 (d ZR (ra 28 8)) .skip)) (sd Gp (rl [28] 36 5) (sp gP (s (sd Kp [41,42] (i 43 (sd Kq [6,43,44,45] (p Kr)) .skip)) (d gS (rl [8,9,43] 46 7)))))))) (d r8 [22,23])))
def c:=(sd r0 [4] (s (sd r1 [10,11,12] (i 13 (sd r2 [0,1,13] .ret) .skip)) (sd r3 [13,14,15] (sd r4 [0,16,17] (sp r5 (s (sp r6 (b 0 (w l1))) (sd Gu [1,5,6,7,21,53,54] .ret)))))))
end QS
def QS:AFn:=⟨2,QS.c,[.tmp 4],false⟩
def U7.l2:=(s (sd [m 22 8,m 23 1,ln 24 23,ls 25 22 24] [22,23,24] (i 25 .skip (x 2))) (s (b 3 (se [m 28 7,m 29 0,m 30 6,ia 31 1 29 30,uu 32 1 31,cu 33 32,m 34 1,m 35 8,ia 36 1 34 35,uu 37 1 36,cu 38 37,bi 39 .mul 33 38,m 40 5,m 41 6,m 42 8,ad 43 41 42,ia 44 1 40 43,uu 45 1 44,cu 46 45,ad 47 39 46,ad 48 28 47,m 7 48] (rl [25] 28 21) (sd [m 49 5,m 50 6,m 51 8,ad 52 50 51,m 53 7,o 54 (.conv .u32 53),ia 55 1 49 52,so 1 55 54] (ra 49 7) (d [m 56 7,bi 57 .shr 56 (.c (.int .u64 (32))),m 7 57] [56,57])))) (d [m 26 8,ad 27 26 k1,m 8 27] [26,27])))
def U7.l1:=(s (sd [m 16 6,m 17 0,ln 18 17,ls 19 16 18] [16,17,18] (i 19 .skip (x 0))) (s (b 1 (sd [mv 7 (.c (.int .u64 (0)))] [19] (s (sp [mv 8 k0] (b 2 (w U7.l2))) (d [m 58 5,m 59 6,m 60 1,ln 61 60,ad 62 59 61,m 63 7,o 64 (.conv .u32 63),ia 65 1 58 62,so 1 65 64] (rl [7,8,25] 58 8))))) (d [m 20 6,ad 21 20 k1,m 6 21] [20,21])))
def U7:AFn:=⟨2,(sd [mv 4 (.c .nil)] [4] (sd [m 9 0,ln 10 9,m 11 1,ln 12 11,ad 13 10 12,ad 14 13 k1,o 15 (.mk 15 1 4 [(.int .u32 (0))] 14 14),m 5 15] (ra 9 7) (s (sp [mv 6 k0] (b 0 (w U7.l1))) (sd [m 66 5,ca 67 101 [66],m 4 67] [0,1,5,6,19,66,67] .ret)))),[.tmp 4],false⟩
def X3.l1:=(s (sd [m 20 4,bi 21 .gtr 20 (.c (.int .u32 (0)))] [20] (i 21 .skip (x 0))) (s (b 1 (d [m 24 3,ad 25 24 k1,m 3 25] [21,24,25])) (d [m 22 4,bi 23 .shr 22 (.c (.int .u64 (1))),m 4 23] [22,23])))
def X3:AFn:=⟨1,(sd [mv 2 k0] [2] (sd [m 5 0,ca 6 101 [5],m 0 6] [5,6] (s (sd [m 7 0,ln 8 7,bi 9 .eql 8 k0] [7,8] (i 9 (sd [mv 2 k0] [0,9] .ret) .skip)) (sd [m 10 0,ln 11 10,sb 12 11 k1,bi 13 .mul (k 32) 12,m 3 13] (ra 9 5) (s (sd [m 14 0,m 15 0,ln 16 15,sb 17 16 k1,ia 18 1 14 17,uu 19 1 18,m 4 19] (rl [0] 14 6) (b 0 (w X3.l1))) (sd [m 26 3,m 2 26] [3,4,21,26] .ret)))))),[.tmp 2],false⟩
def NT.l1:=(s (sd [m 31 6,m 32 0,ln 33 32,ls 34 31 33] [31,32,33] (i 34 .skip (x 0))) (s (b 1 (sd [m 37 0,m 38 6,ia 39 1 37 38,uu 40 1 39,cu 41 40,m 7 41] (rl [34] 37 5) (s (sd [m 42 6,ad 43 42 k1,m 44 0,ln 45 44,ls 46 43 45] (ra 42 4) (i 46 (d [m 47 7,m 48 0,m 49 6,ad 50 49 k1,ia 51 1 48 50,uu 52 1 51,cu 53 52,bi 54 .shl 53 (.c (.int .u64 (32))),bi 55 .or 47 54,m 7 55] (ra 46 10)) .skip)) (d [m 56 5,m 57 7,m 58 1,bi 59 .rem 58 (k 32),cu 60 59,bi 61 .shr 57 60,o 62 (.conv .u32 61),o 63 (.c8 107063 1 [62]),o 64 (.app 107064 1 4 56 63),m 5 64] (rl [7,46] 56 9))))) (d [m 35 6,ad 36 35 k1,m 6 36] [35,36])))
def NT.l2:=(s (sd [m 70 10,m 71 0,ln 72 71,ls 73 70 72] [70,71,72] (i 73 .skip (x 2))) (s (b 3 (sd [m 76 9,m 77 0,m 78 10,ia 79 1 77 78,uu 80 1 79,cu 81 80,m 82 1,bi 83 .rem 82 (k 32),cu 84 83,bi 85 .shl 81 84,bi 86 .or 76 85,m 9 86] (rl [73] 76 11) (sd [m 87 8,m 88 9,o 89 (.conv .u32 88),o 90 (.c8 107090 1 [89]),o 91 (.app 107091 1 4 87 90),m 8 91] (ra 87 5) (d [m 92 9,bi 93 .shr 92 (.c (.int .u64 (32))),m 9 93] [92,93])))) (d [m 74 10,ad 75 74 k1,m 10 75] [74,75])))
def NT:AFn:=⟨2,(sd [mv 4 (.c .nil)] [4] (sd [m 11 0,ca 12 101 [11],m 0 12] [11,12] (s (sd [m 13 1,bi 14 .gtr 13 (k 65536),m 15 14,g 16 15 false (.w9 0),g 17 15 false (.len 16),g 18 15 false (.bin .eql 17 k0),pk 19 15 kt 18] (ra 13 6) (i 19 (sd [mv 4 (.c .nil)] [0,1,19] .ret) .skip)) (s (sd [m 20 1,ls 21 20 k0] [19,20] (i 21 (s (sd [m 22 1,m 23 0,ln 24 23,bi 25 .mul (k (-32)) 24,ls 26 22 25] (ra 21 5) (i 26 (sd [mv 4 (.c .nil)] [0,1,26] .ret) .skip)) (sd [m 27 1,o 28 (.un .neg 27),m 1 28] [26,27,28] (sp [o 5 (.bu 107005 1)] (s (sd [m 29 1,bi 30 .quo 29 (k 32),m 6 30] [29,30] (b 0 (w NT.l1))) (sd [m 65 5,ca 66 101 [65],m 4 66] [0,1,5,6,34,65,66] .ret))))) .skip)) (sd [m 67 1,bi 68 .quo 67 (k 32),o 69 (.mk 107069 1 4 [(.int .u32 (0))] 68 68),m 8 69] [21,67,68,69] (sp [mv 9 (.c (.int .u64 (0)))] (s (sp [mv 10 k0] (b 2 (w NT.l2))) (sd [m 94 8,m 95 9,o 96 (.conv .u32 95),o 97 (.c8 107097 1 [96]),o 98 (.app 107098 1 4 94 97),o 99 (.j5 101 [98]),m 4 99] (rl [0,1,8,9,10,73] 94 6) .ret)))))))),[.tmp 4],false⟩
def X6.l1:=(s (sd [m 15 8,bi 16 .geq 15 k0] [15] (i 16 .skip (x 0))) (s (b 1 (sd [m 19 7,bi 20 .shl 19 (.c (.int .u64 (32))),m 21 0,m 22 8,ia 23 1 21 22,uu 24 1 23,cu 25 24,bi 26 .or 20 25,m 7 26] (rl [16] 19 8) (sd [m 27 6,m 28 8,m 29 7,m 30 1,cu 31 30,bi 32 .quo 29 31,o 33 (.conv .u32 32),ia 34 1 27 28,so 1 34 33] (ra 27 8) (d [m 35 7,m 36 1,cu 37 36,bi 38 .rem 35 37,m 7 38] (ra 35 4))))) (d [m 17 8,sb 18 17 k1,m 8 18] [17,18])))
def X6:AFn:=⟨2,(sd [mv 4 (.c .nil),mv 5 (.c (.int .u32 (0)))] [4,5] (sd [m 9 0,ln 10 9,o 11 (.mk 11 1 4 [(.int .u32 (0))] 10 10),m 6 11] [9,10,11] (sp [mv 7 (.c (.int .u64 (0)))] (s (sd [m 12 0,ln 13 12,sb 14 13 k1,m 8 14] [12,13,14] (b 0 (w X6.l1))) (sd [m 39 6,ca 40 101 [39],m 41 7,o 42 (.conv .u32 41),m 4 40,m 5 42] (rl [0,1,6,7,8,16] 39 4) .ret))))),[.tmp 4,.tmp 5],false⟩
namespace HJ
def r0:=[mv 4 (.c .nil),mv 5 (.c .nil),mv 6 k0]
def r1:=[m 27 0,ca 28 101 [27],m 29 1,ca 30 101 [29],m 0 28,m 1 30]
def r2:=[m 31 1,ln 32 31,bi 33 .eql 32 k0]
def r3:=[mv 4 (.c .nil),mv 5 (.c .nil),mv 6 (k 3)]
def r4:=[m 34 1,ln 35 34,bi 36 .eql 35 k1]
def r5:=[m 38 0,m 39 1,ia 40 1 39 k0,uu 41 1 40,ca 42 108 [38,41],m 37 42,et 43 37 0,et 44 37 1,m 7 43,m 8 44]
def r6:=[m 45 7,m 46 8,o 47 (.c8 47 1 [46]),ca 48 101 [47],m 4 45,m 5 48,mv 6 k0]
def r7:=[m 49 0,m 50 1,ca 51 102 [49,50],ls 52 51 k0]
def r8:=[m 53 0,mv 4 (.c .nil),m 5 53,mv 6 k0]
def r9:=[m 54 1,m 55 1,ln 56 55,sb 57 56 k1,o 58 (.pn 1 54 (some 57) none),ca 59 106 [58],sb 60 (k 32) 59,m 9 60]
def ZP:=[m 61 0,m 62 9,o 63 (.j5 107 [61,62]),m 64 1,m 65 9,ca 66 107 [64,65],m 10 63,m 11 66]
def ZR:=[m 67 10,o 68 (.c8 68 1 [(.c (.int .u32 (0)))]),o 69 (.app 69 1 4 67 68),m 10 69]
def Gp:=[m 70 10,ln 71 70,m 72 0,ln 73 72,ad 74 73 k1,ls 75 71 74]
def gP:=[m 76 10,o 77 (.c8 77 1 [(.c (.int .u32 (0)))]),o 78 (.app 78 1 4 76 77),m 10 78]
def Kp:=[m 79 11,ln 80 79,m 12 80]
def Kq:=[m 81 10,ln 82 81,m 83 12,sb 84 82 83,o 85 (.mk 85 1 4 [(.int .u32 (0))] 84 84),m 13 85]
def Kr:=[m 86 10,ln 87 86,m 88 12,sb 89 87 88,sb 90 89 k1,m 14 90]
def gS:=[m 91 14,bi 92 .geq 91 k0]
def Ov:=[m 95 10,m 96 14,m 97 12,ad 98 96 97,ia 99 1 95 98,uu 100 1 99,cu 101 100,
 bi 102 .shl 101 (.c (.int .u64 (32))),m 103 10,m 104 14,m 105 12,ad 106 104 105,sb 107 106 k1,
 ia 108 1 103 107,uu 109 1 108,cu 110 109,bi 111 .or 102 110,m 15 111]
def Qo:=[m 112 15,m 113 11,m 114 12,sb 115 114 k1,ia 116 1 113 115,uu 117 1 116,cu 118 117,
 bi 119 .quo 112 118,m 16 119]
def Qp:=[m 120 15,m 121 11,m 122 12,sb 123 122 k1,ia 124 1 121 123,uu 125 1 124,cu 126 125,
 bi 127 .rem 120 126,m 17 127]
def Qq:=[m 128 16,bi 129 .geq 128 (.c (.int .u64 (4294967296))),m 130 129,g 131 130 false (.w9 16),g 132 130 false (.w9 11),g 133 130 false (.w9 12),
 g 134 130 false (.bin .sub 133 (k 2)),g 135 130 false (.cp none 1 132 134),g 136 130 false (.ld false 1 135),g 137 130 false (.conv .u64 136),
 g 138 130 false (.bin .mul 131 137),g 139 130 false (.w9 17),g 140 130 false (.bin .shl 139 (.c (.int .u64 (32)))),g 141 130 false (.w9 10),
 g 142 130 false (.w9 14),g 143 130 false (.w9 12),g 144 130 false (.bin .add 142 143),g 145 130 false (.bin .sub 144 (k 2)),
 g 146 130 false (.cp none 1 141 145),g 147 130 false (.ld false 1 146),g 148 130 false (.conv .u64 147),g 149 130 false (.bin .or 140 148),
 g 150 130 false (.bin .gtr 138 149),pk 151 130 kt 150]
def Qt:=[m 152 16,sb 153 152 (.c (.int .u64 (1))),m 16 153]
def oD:=[m 154 17,m 155 11,m 156 12,sb 157 156 k1,ia 158 1 155 157,uu 159 1 158,cu 160 159,
 ad 161 154 160,m 17 161]
def oE:=[m 162 17,bi 163 .geq 162 (.c (.int .u64 (4294967296)))]
def oF:=[mv 18 (.c (.int .u64 (0))),mv 19 (.c (.int .u64 (0)))]
def oG:=[mv 20 k0]
def oH:=[m 164 20,m 165 12,ls 166 164 165]
def Ow:=[m 169 19,m 170 16,m 171 11,m 172 20,ia 173 1 171 172,uu 174 1 173,cu 175 174,bi 176 .mul 170 175,
 ad 177 169 176,m 19 177]
def Qu:=[m 178 19,bi 179 .and 178 (.c (.int .u64 (4294967295))),m 180 18,ad 181 179 180,m 21 181]
def r32:=[m 182 19,bi 183 .shr 182 (.c (.int .u64 (32))),m 19 183]
def r33:=[m 184 10,m 185 20,m 186 14,ad 187 185 186,ia 188 1 184 187,uu 189 1 188,cu 190 189,m 22 190]
def r34:=[mv 18 (.c (.int .u64 (0)))]
def r35:=[m 191 22,m 192 21,ls 193 191 192]
def r36:=[m 194 22,ad 195 194 (.c (.int .u64 (4294967296))),m 22 195]
def r37:=[mv 18 (.c (.int .u64 (1)))]
def r38:=[m 196 10,m 197 20,m 198 14,ad 199 197 198,m 200 22,m 201 21,sb 202 200 201,o 203 (.conv .u32 202),ia 204 1 196 199,
 so 1 204 203]
def oI:=[m 167 20,ad 168 167 k1,m 20 168]
def r39:=[m 205 19,m 206 18,ad 207 205 206,m 23 207]
def r40:=[m 208 10,m 209 14,m 210 12,ad 211 209 210,ia 212 1 208 211,uu 213 1 212,cu 214 213,m 24 214]
def r41:=[mv 18 (.c (.int .u64 (0)))]
def r42:=[m 215 24,m 216 23,ls 217 215 216]
def r43:=[m 218 24,ad 219 218 (.c (.int .u64 (4294967296))),m 24 219]
def r44:=[mv 18 (.c (.int .u64 (1)))]
def r45:=[m 220 10,m 221 14,m 222 12,ad 223 221 222,m 224 24,m 225 23,sb 226 224 225,o 227 (.conv .u32 226),ia 228 1 220 223,
 so 1 228 227]
def r46:=[m 229 18,bi 230 .eql 229 (.c (.int .u64 (1)))]
def r47:=[m 231 16,sb 232 231 (.c (.int .u64 (1))),m 16 232]
def r48:=[mv 25 (.c (.int .u64 (0)))]
def r49:=[mv 26 k0]
def r50:=[m 233 26,m 234 12,ls 235 233 234]
def r52:=[m 238 25,m 239 10,m 240 26,m 241 14,ad 242 240 241,ia 243 1 239 242,uu 244 1 243,cu 245 244,m 246 11,
 m 247 26,ia 248 1 246 247,uu 249 1 248,cu 250 249,ad 251 245 250,ad 252 238 251,m 25 252]
def r53:=[m 253 10,m 254 26,m 255 14,ad 256 254 255,m 257 25,o 258 (.conv .u32 257),ia 259 1 253 256,so 1 259 258]
def r54:=[m 260 25,bi 261 .shr 260 (.c (.int .u64 (32))),m 25 261]
def r51:=[m 236 26,ad 237 236 k1,m 26 237]
def r55:=[m 262 10,m 263 14,m 264 12,ad 265 263 264,ia 266 1 262 265,uu 267 1 266,m 268 25,o 269 (.conv .u32 268),
 ad 270 267 269,ia 271 1 262 265,so 1 271 270]
def r56:=[m 272 13,m 273 14,m 274 16,o 275 (.conv .u32 274),ia 276 1 272 273,so 1 276 275]
def Gu:=[m 93 14,sb 94 93 k1,m 14 94]
def r57:=[m 277 13,ca 278 101 [277],m 279 10,m 280 12,o 281 (.pn 1 279 none (some 280)),m 282 9,o 283 (.un .neg 282),ca 284 107 [281,283],m 4 278,
 m 5 284,mv 6 k0]
def l1:=(s (sd Gp (ra 70 5) (i 75 .skip (x 0))) (b 1 (d gP (ra 75 4))))
def l3:=(s (se Qq [128,129,130,131,132,133,134,135,136,137,138,139,140,141,142,143,144,145,146,147,148,149,150,163] (i 151 .skip (x 4))) (b 5 (sd Qt [151,152,153] (sd oD (ra 154 8) (sd oE [162] (i 163 (x 4) .skip))))))
def l4:=(s (sd oH [164,165] (i 166 .skip (x 6))) (s (b 7 (sd Ow (rl [166] 169 9) (sd Qu (rl [18] 178 4) (sd r32 [182,183] (sd r33 (ra 184 7) (sp r34 (s (sd r35 [191,192] (i 193 (sd r36 [18,193,194,195] (p r37)) .skip)) (d r38 (rl [21,22,193] 196 9))))))))) (d oI [167,168])))
def l5:=(s (sd r50 [233,234] (i 235 .skip (x 8))) (s (b 9 (se r52 (rl [235] 238 15) (sd r53 (ra 253 7) (d r54 [260,261])))) (d r51 [236,237])))
def l2:=(s (sd gS [91] (i 92 .skip (x 2))) (s (b 3 (se Ov (rl [92] 95 17) (sd Qo (ra 112 8) (sd Qp (rl [15] 120 8) (s (b 4 (w l3)) (sd oF [17,151,163] (s (sp oG (b 6 (w l4))) (sd r39 [18,19,20,166,205,206,207] (sd r40 (ra 208 7) (sp r41 (s (sd r42 [215,216] (i 217 (sd r43 [18,217,218,219] (p r44)) .skip)) (sd r45 (rl [23,24,217] 220 9) (s (sd r46 [18,229] (i 230 (sd r47 [230,231,232] (sp r48 (s (sp r49 (b 8 (w l5))) (d r55 (rl [25,26,235] 262 10))))) .skip)) (d r56 (rl [16,230] 272 5))))))))))))))) (d Gu [93,94])))
def c:=(sd r0 [4,5,6] (sd r1 (ra 27 4) (s (sd r2 [31,32] (i 33 (sd r3 [0,1,33] .ret) .skip)) (s (sd r4 [33,34,35] (i 36 (sd r5 (rl [0,1] 36 9) (sd r6 (rl [7,8] 45 4) .ret)) .skip)) (s (sd r7 [36,49,50,51] (i 52 (sd r8 [0,1,52,53] .ret) .skip)) (sd r9 (rl [52] 54 7) (sd ZP (rl [1] 61 6) (sd ZR [67,68,69] (s (b 0 (w l1)) (sd Kp [0,75,79,80] (sd Kq (ra 81 5) (s (sd Kr (ra 86 5) (b 2 (w l2))) (se r57 (rl [9,10,11,12,13,14,92] 277 8) .ret)))))))))))))
end HJ
def HJ:AFn:=⟨2,HJ.c,[.tmp 4,.tmp 5,.tmp 6],false⟩
def X5.l1:=(s (sd [m 12 1,ln 13 12,bi 14 .gtr 13 k0] [12,13] (i 14 .skip (x 0))) (b 1 (sd [m 16 0,m 17 1,ca 18 109 [16,17],m 15 18,et 19 15 0,et 20 15 1,et 21 15 2,m 5 19,m 6 20,m 7 21] (rl [0,5,7] 14 8) (d [m 22 1,m 23 6,m 0 22,m 1 23] [6,22,23]))))
def X5:AFn:=⟨2,(sd [mv 4 (.c .nil)] [4] (sd [m 8 0,ca 9 101 [8],m 10 1,ca 11 101 [10],m 0 9,m 1 11] (ra 8 4) (s (b 0 (w X5.l1)) (sd [m 24 0,m 4 24] [0,1,14,24] .ret)))),[.tmp 4],false⟩
def cT:AFn:=⟨1,(sd [bx 1 0,al 2 [(.bool false),.nil]] [0] (sd [fa 4 1 1,uu 5 1 4,ca 6 101 [5],m 3 6] [4,5,6] (sd [fa 7 1 0,uu 8 1 7,m 9 8,g 10 9 true (.w9 3),g 11 9 true (.len 10),g 12 9 true (.bin .gtr 11 k0),pk 13 9 12 kf,m 14 3,o 15 (.build [(.bool false),.nil] [(0,1,13),(1,1,14)]),so 2 2 15] (rl [1,3] 7 9) .ret))),[.cell 2 true 2],false⟩
def cP:AFn:=⟨1,(sp [al 2 [(.bool false),.nil]] (s (sd [m 4 0,ls 5 4 k0] [4] (i 5 (sd [m 6 0,ad 7 6 k1,o 8 (.un .neg 7),cu 9 8,ad 10 9 (.c (.int .u64 (1))),m 3 10] (rl [0] 5 6) (sd [m 11 3,o 12 (.conv .u32 11),m 13 3,bi 14 .shr 13 (.c (.int .u64 (32))),o 15 (.conv .u32 14),o 16 (.c8 16 1 [12,15]),o 17 (.build [(.bool false),.nil] [(0,1,kt),(1,1,16)]),ca 18 111 [17],so 2 2 18] (rl [3] 11 8) .ret)) .skip)) (sd [m 19 0,o 20 (.conv .u32 19),m 21 0,cu 22 21,bi 23 .shr 22 (.c (.int .u64 (32))),o 24 (.conv .u32 23),o 25 (.c8 25 1 [20,24]),o 26 (.build [(.bool false),.nil] [(1,1,25)]),ca 27 111 [26],so 2 2 27] (rl [0,5] 19 9) .ret))),[.cell 2 true 2],false⟩
def cQ:AFn:=⟨1,(sd [bx 1 0,mv 2 k0] [0,2] (sd [tt 3 2 1,ca 4 111 [3],so 2 1 4] [3,4] (s (b 0 (sd [fa 6 1 1,uu 7 1 6,ln 8 7,bi 9 .eql 8 k0,m 5 9] (ra 6 4) (i 5 (sd [mv 2 k0] [1,5] .ret) (sd [fa 11 1 0,uu 12 1 11,m 10 12] [1,5,11,12] (i 10 (sd [mv 2 (k (-1))] [10] .ret) .skip))))) (sd [mv 2 k1] [10] .ret)))),[.tmp 2],false⟩
def cO:AFn:=⟨1,(sd [bx 1 0,al 2 [(.bool false),.nil]] [0] (sd [tt 3 2 1,ca 4 111 [3],so 2 1 4] [3,4] (sd [fa 5 1 0,uu 6 1 5,nt 7 6,m 8 7,g 9 8 true (.dj 1 1),g 10 8 true (.ld false 1 9),g 11 8 true (.len 10),g 12 8 true (.bin .gtr 11 k0),pk 13 8 12 kf,fa 14 1 0,so 1 14 13] (ra 5 10) (sd [tt 15 2 1,so 2 2 15] [1,15] .ret)))),[.cell 2 true 2],false⟩
def cI:AFn:=⟨2,(sd [bx 2 0,bx 3 1,al 4 [(.bool false),.nil]] [0,1] (se [tt 5 2 2,ca 6 111 [5],tt 7 2 3,ca 8 111 [7],so 2 2 6,so 2 3 8] (ra 5 4) (s (sd [fa 9 2 0,uu 10 1 9,fa 11 3 0,uu 12 1 11,o 13 (.beq false 10 12)] (ra 9 4) (i 13 (se [fa 14 2 0,uu 15 1 14,fa 16 2 1,uu 17 1 16,fa 18 3 1,uu 19 1 18,ca 20 103 [17,19],o 21 (.build [(.bool false),.nil] [(0,1,15),(1,1,20)]),ca 22 111 [21],so 2 4 22] (rl [2,3] 13 10) .ret) .skip)) (s (sd [fa 23 2 1,uu 24 1 23,fa 25 3 1,uu 26 1 25,ca 27 102 [24,26],bi 28 .geq 27 k0] (rl [13] 23 5) (i 28 (se [fa 29 2 0,uu 30 1 29,fa 31 2 1,uu 32 1 31,fa 33 3 1,uu 34 1 33,ca 35 104 [32,34],o 36 (.build [(.bool false),.nil] [(0,1,30),(1,1,35)]),ca 37 111 [36],so 2 4 37] (rl [2,3] 28 10) .ret) .skip)) (se [fa 38 3 0,uu 39 1 38,fa 40 3 1,uu 41 1 40,fa 42 2 1,uu 43 1 42,ca 44 104 [41,43],o 45 (.build [(.bool false),.nil] [(0,1,39),(1,1,44)]),ca 46 111 [45],so 2 4 46] (rl [2,3,28] 38 9) .ret))))),[.cell 4 true 2],false⟩
def cR:AFn:=⟨2,(sd [bx 2 0,bx 3 1,al 4 [(.bool false),.nil]] [0,1] (se [tt 5 2 2,tt 6 2 3,ca 7 114 [6],ca 8 115 [5,7],so 2 4 8] [2,3,5,6,7,8] .ret)),[.cell 4 true 2],false⟩
def cK:AFn:=⟨2,(sd [bx 2 0,bx 3 1,mv 4 k0] [0,1,4] (sd [tt 5 2 2,tt 6 2 3,ca 7 116 [5,6],ca 8 113 [7],m 4 8] [2,3,5,6,7,8] .ret)),[.tmp 4],false⟩
def cN:AFn:=⟨2,(sd [bx 2 0,bx 3 1,al 4 [(.bool false),.nil]] [0,1] (se [fa 5 2 0,uu 6 1 5,fa 7 3 0,uu 8 1 7,o 9 (.beq true 6 8),fa 10 2 1,uu 11 1 10,fa 12 3 1,uu 13 1 12,ca 14 105 [11,13],o 15 (.build [(.bool false),.nil] [(0,1,9),(1,1,14)]),ca 16 111 [15],so 2 4 16] (rl [2,3] 5 12) .ret)),[.cell 4 true 2],false⟩
def cL:AFn:=⟨2,(sd [bx 2 0,bx 3 1,al 4 [(.bool false),.nil],al 5 [(.bool false),.nil],mv 6 k0] [0,1,6] (se [tt 10 2 2,ca 11 111 [10],tt 12 2 3,ca 13 111 [12],so 2 2 11,so 2 3 13] (ra 10 4) (sd [fa 15 2 1,uu 16 1 15,fa 17 3 1,uu 18 1 17,ca 19 109 [16,18],m 14 19,et 20 14 0,et 21 14 1,et 22 14 2,m 7 20,m 8 21,m 9 22] (ra 14 9) (s (sd [m 23 9,bi 24 .neq 23 k0] [23] (i 24 (sd [o 25 (.build [(.bool false),.nil] []),o 26 (.build [(.bool false),.nil] []),m 27 9,so 2 4 25,so 2 5 26,m 6 27] (rl [2,3,7,8,9] 24 4) .ret) .skip)) (s (sd [fa 28 2 0,uu 29 1 28,m 30 29,g 31 30 true (.w9 8),g 32 30 true (.len 31),g 33 30 true (.bin .gtr 32 k0),pk 34 30 33 kf] (rl [9,24] 28 6) (i 34 (e [m 35 7,o 36 (.c8 36 1 [(.c (.int .u32 (1)))]),ca 37 103 [35,36],fa 38 3 1,q 39 [36] (.ld false 1 38),m 40 8,ca 41 104 [39,40],m 7 37,m 8 41] (ra 34 8)) .skip)) (sd [fa 42 2 0,uu 43 1 42,fa 44 3 0,uu 45 1 44,o 46 (.beq true 43 45),m 47 7,o 48 (.build [(.bool false),.nil] [(0,1,46),(1,1,47)]),ca 49 111 [48],m 50 8,o 51 (.build [(.bool false),.nil] [(1,1,50)]),so 2 4 49,so 2 5 51,mv 6 k0] (rl [2,3,7,8,34] 42 10) .ret)))))),[.cell 4 true 2,.cell 5 true 2,.tmp 6],false⟩
def cM:AFn:=⟨2,(sd [bx 2 0,bx 3 1,al 4 [(.bool false),.nil]] [0,1] (sd [fa 5 2 1,uu 6 1 5,fa 7 3 1,uu 8 1 7,ca 9 110 [6,8],o 10 (.build [(.bool false),.nil] [(1,1,9)]),so 2 4 10] (rl [2,3] 5 6) .ret)),[.cell 4 true 2],false⟩
def VB:AFn:=⟨2,(sd [bx 2 0,bx 3 1,al 4 z3] [0,1] (s (sd [tt 12 2 2,ca 13 113 [12],bi 14 .eql 13 k0,m 15 14,g 16 15 false (.ld true 2 3),g 17 15 false (.call 113 [16]),g 18 15 false (.bin .eql 17 k0),pk 19 15 kt 18] (ra 12 7) (i 19 (sd [o 20 (.c8 20 1 [(.c (.int .u32 (1)))]),o 21 (.build z3 [(2,1,20)]),so 3 4 21] [2,3,19,20,21] .ret) .skip)) (sd [tt 22 2 2,tt 23 2 3,ca 24 120 [22,23],al 5 [(.bool false),.nil],so 2 5 24] [19,22,23,24] (sd [tt 26 2 2,tt 27 2 5,ca 28 119 [26,27],m 25 28,et 29 25 0,et 30 25 1,et 31 25 2,al 6 [(.bool false),.nil],al 7 [(.bool false),.nil],so 2 6 29,so 2 7 30,m 8 31] (rl [2,7,8] 25 7) (sd [tt 33 2 3,tt 34 2 5,ca 35 119 [33,34],m 32 35,et 36 32 0,et 37 32 1,et 38 32 2,al 9 [(.bool false),.nil],al 10 [(.bool false),.nil],so 2 9 36,so 2 10 37,m 11 38] (rl [3,5,10,11] 32 7) (s (sd [fa 39 9 0,uu 40 1 39] [39] (i 40 (d [tt 41 2 6,ca 42 114 [41],so 2 6 42] [40,41,42]) .skip)) (sd [tt 43 2 6,fa 44 9 1,uu 45 1 44,o 46 (.build z3 [(0,2,43),(2,1,45)]),so 3 4 46] (rl [6,9,40] 43 4) .ret))))))),[.cell 4 true 3],false⟩
def X7:AFn:=⟨1,(sd [bx 1 0,al 2 [(.bool false),.nil],al 3 [(.bool false),.nil]] [0] (sd [fa 5 1 2,uu 6 1 5,ca 7 101 [6],o 8 (.build [(.bool false),.nil] [(1,1,7)]),al 4 [(.bool false),.nil],so 2 4 8] (ra 5 4) (s (sd [fa 9 4 1,uu 10 1 9,ln 11 10,bi 12 .eql 11 k0] [9,10,11] (i 12 (sd [o 13 (.build [(.bool false),.nil] []),o 14 (.c8 14 1 [(.c (.int .u32 (1)))]),o 15 (.build [(.bool false),.nil] [(1,1,14)]),so 2 2 13,so 2 3 15] (rl [1,4] 12 4) .ret) .skip)) (se [fa 16 1 0,tt 17 2 16,q 18 [2] (.ld true 2 4),n (.ym 2 2 2 17),so 2 3 18] [1,4,12,16,17,18] .ret)))),[.cell 2 true 2,.cell 3 true 2],false⟩
def dE:AFn:=⟨1,(sd [bx 1 0,al 2 z3] [0] (sd [tt 6 3 1,o 7 (.l7 122 [6]),m 5 7,et 8 5 0,et 9 5 1,al 3 [(.bool false),.nil],al 4 [(.bool false),.nil],so 2 3 8,so 2 4 9] (rl [1] 5 5) (sd [tt 10 2 3,tt 11 2 4,ca 12 121 [10,11],so 3 2 12] [3,4,10,11,12] .ret))),[.cell 2 true 3],false⟩
def dB:AFn:=⟨1,(sp [al 2 z3] (sd [m 3 0,ca 4 112 [3],o 5 (.c8 5 1 [(.c (.int .u32 (1)))]),o 6 (.build z3 [(0,2,4),(2,1,5)]),so 3 2 6] [0,3,4,5,6] .ret)),[.cell 2 true 3],false⟩
def cY:AFn:=⟨2,(sp [al 4 z3] (sd [m 5 0,ca 6 112 [5],m 7 1,ca 8 112 [7],ca 9 121 [6,8],so 3 4 9] (rl [0,1] 5 5) .ret)),[.cell 4 true 3],false⟩
def cV:AFn:=⟨2,(sd [bx 2 0,bx 3 1,al 4 z3] [0,1] (sd [tt 10 3 2,o 11 (.l7 122 [10]),m 9 11,et 12 9 0,et 13 9 1,al 5 [(.bool false),.nil],al 6 [(.bool false),.nil],so 2 5 12,so 2 6 13] (rl [2] 9 5) (sd [tt 15 3 3,o 16 (.l7 122 [15]),m 14 16,et 17 14 0,et 18 14 1,al 7 [(.bool false),.nil],al 8 [(.bool false),.nil],so 2 7 17,so 2 8 18] (rl [3] 14 5) (se [tt 19 2 5,tt 20 2 8,ca 21 118 [19,20],tt 22 2 7,tt 23 2 6,ca 24 118 [22,23],ca 25 115 [21,24],tt 26 2 6,tt 27 2 8,ca 28 118 [26,27],ca 29 121 [25,28],so 3 4 29] (rl [5,6,7,8] 19 11) .ret)))),[.cell 4 true 3],false⟩
def cW:AFn:=⟨2,(sd [bx 2 0,bx 3 1,mv 4 k0] [0,1,4] (sd [tt 10 3 2,o 11 (.l7 122 [10]),m 9 11,et 12 9 0,et 13 9 1,al 5 [(.bool false),.nil],al 6 [(.bool false),.nil],so 2 5 12,so 2 6 13] (rl [2] 9 5) (sd [tt 15 3 3,o 16 (.l7 122 [15]),m 14 16,et 17 14 0,et 18 14 1,al 7 [(.bool false),.nil],al 8 [(.bool false),.nil],so 2 7 17,so 2 8 18] (rl [3] 14 5) (se [tt 19 2 5,tt 20 2 8,ca 21 118 [19,20],tt 22 2 7,tt 23 2 6,ca 24 118 [22,23],ca 25 117 [21,24],m 4 25] (rl [5,6,7,8] 19 7) .ret)))),[.tmp 4],false⟩
def cZ:AFn:=⟨2,(sd [bx 2 0,bx 3 1,al 4 z3] [0,1] (sd [tt 10 3 2,o 11 (.l7 122 [10]),m 9 11,et 12 9 0,et 13 9 1,al 5 [(.bool false),.nil],al 6 [(.bool false),.nil],so 2 5 12,so 2 6 13] (rl [2] 9 5) (sd [tt 15 3 3,o 16 (.l7 122 [15]),m 14 16,et 17 14 0,et 18 14 1,al 7 [(.bool false),.nil],al 8 [(.bool false),.nil],so 2 7 17,so 2 8 18] (rl [3] 14 5) (se [tt 19 2 5,tt 20 2 7,ca 21 118 [19,20],tt 22 2 6,tt 23 2 8,ca 24 118 [22,23],ca 25 121 [21,24],so 3 4 25] (rl [5,6,7,8] 19 7) .ret)))),[.cell 4 true 3],false⟩
structure a8 (L:Lib):Prop where
 NV:L 101=some F.NV
 X4:L 102=some F.X4
 X2:L 103=some F.X2
 QS:L 104=some F.QS
 U7:L 105=some F.U7
 X3:L 106=some F.X3
 NT:L 107=some F.NT
 X6:L 108=some F.X6
 HJ:L 109=some F.HJ
 X5:L 110=some F.X5
 cT:L 111=some F.cT
 cP:L 112=some F.cP
 cQ:L 113=some F.cQ
 cO:L 114=some F.cO
 cI:L 115=some F.cI
 cR:L 116=some F.cR
 cK:L 117=some F.cK
 cN:L 118=some F.cN
 cL:L 119=some F.cL
 cM:L 120=some F.cM
 VB:L 121=some F.VB
 X7:L 122=some F.X7
 dE:L 123=some F.dE
 dB:L 124=some F.dB
 cY:L 125=some F.cY
 cV:L 126=some F.cV
 cW:L 127=some F.cW
 cZ:L 128=some F.cZ
end Go.j4.F

namespace Go.j4.F
open C
def MU.l1:=(sp [ls 29 28 27] (s (i 29 .skip (x 0)) (s (b 1 (sd [ia 30 1 26 28,uu 31 1 30,m 5 31] [29,30,31] (sd [m 32 5,ln 33 32,m 34 3,bi 35 .neq 33 34] [5,32,33,34] (i 35 (sd [mv 2 kf] [3,26,27,28,35] .ret) .skip)))) (d [ad 36 28 k1,m 28 36] [35,36]))))
def MU:AFn:=⟨1,(sd [bx 1 0,mv 2 kf] [0,2] (sd [fa 6 1 0,uu 7 1 6,ln 8 7,m 3 8] [6,7,8] (s (sd [m 9 3,bi 10 .gtr 9 (k 64),m 11 10,g 12 11 false (.dj 1 1),g 13 11 false (.ld false 1 12),g 14 11 false (.len 13),g 15 11 false (.w9 3),g 16 11 false (.bin .neq 14 15),pk 17 11 kt 16,m 18 17,g 19 18 false (.dj 1 2),g 20 18 false (.ld false 1 19),g 21 18 false (.len 20),g 22 18 false (.w9 3),g 23 18 false (.bin .neq 21 22),pk 24 18 kt 23] (ra 9 15) (i 24 (sd [mv 2 kf] [1,3,24] .ret) .skip)) (s (sd [fa 25 1 0,uu 26 1 25,ln 27 26,mv 28 k0] [1,24,25] (b 0 (w MU.l1))) (sd [mv 2 kt] (rl [3] 26 4) .ret))))),[.tmp 2],false⟩
def X8.l1:=(s (sd [m 7 6,m 8 0,ls 9 7 8] [7,8] (i 9 .skip (x 0))) (s (b 1 (sd [m 12 6,m 13 1,bi 14 .eql 12 13] [9,12,13] (i 14 (d [m 15 5,ca 16 124 [k1],o 17 (.c8 17 3 [16]),o 18 (.app 18 3 56 15 17),m 5 18] (ra 14 5)) (d [m 19 5,ca 20 124 [k0],o 21 (.c8 21 3 [20]),o 22 (.app 22 3 56 19 21),m 5 22] (rl [14] 19 4))))) (d [m 10 6,ad 11 10 k1,m 6 11] [10,11])))
def X8:AFn:=⟨2,(sd [mv 4 (.c .nil)] [4] (sp [o 5 (.bu 5 3)] (s (sp [mv 6 k0] (b 0 (w X8.l1))) (sd [m 23 5,m 4 23] [0,1,5,6,9,23] .ret)))),[.tmp 4],false⟩
def NW.l1:=(s (sd [m 24 4,m 25 3,ls 26 24 25] [24,25] (i 26 .skip (x 0))) (s (b 1 (sd [fa 29 1 0,uu 30 1 29,m 31 4,ia 32 1 30 31,uu 33 1 32,ln 34 33,m 35 3,bi 36 .neq 34 35] (rl [26] 29 7) (i 36 (sd [mv 2 kf] [1,3,4,36] .ret) .skip))) (d [m 27 4,ad 28 27 k1,m 4 28] [27,28,36])))
def NW:AFn:=⟨1,(sd [bx 1 0,mv 2 kf] [0,2] (sd [fa 5 1 0,uu 6 1 5,ln 7 6,m 3 7] [5,6,7] (s (sd [m 8 3,bi 9 .gtr 8 (k 64),m 10 9,g 11 10 false (.dj 1 1),g 12 10 false (.ld false 1 11),g 13 10 false (.len 12),g 14 10 false (.w9 3),g 15 10 false (.bin .neq 13 14),pk 16 10 kt 15,m 17 16,g 18 17 false (.dj 1 2),g 19 17 false (.ld false 1 18),g 20 17 false (.len 19),g 21 17 false (.w9 3),g 22 17 false (.bin .neq 20 21),pk 23 17 kt 22] (ra 8 15) (i 23 (sd [mv 2 kf] [1,3,23] .ret) .skip)) (s (sd [mv 4 k0] [23] (b 0 (w NW.l1))) (sd [mv 2 kt] [1,3,4,26] .ret))))),[.tmp 2],false⟩
def VI.l1:=(s (sd [m 8 6,m 9 0,ln 10 9,ls 11 8 10] [8,9,10] (i 11 .skip (x 0))) (s (b 1 (e [tt 14 3 5,m 15 0,m 16 6,ia 17 3 15 16,tt 18 3 17,m 19 1,m 20 6,ia 21 3 19 20,tt 22 3 21,ca 23 128 [18,22],ca 24 126 [14,23],so 3 5 24] (rl [11] 14 11))) (d [m 12 6,ad 13 12 k1,m 6 13] [12,13])))
def VI:AFn:=⟨2,(sp [al 4 z3] (sd [ca 7 124 [k0],al 5 z3,so 3 5 7] [7] (s (sp [mv 6 k0] (b 0 (w VI.l1))) (sd [tt 25 3 5,so 3 4 25] [0,1,5,6,11,25] .ret)))),[.cell 4 true 3],false⟩
def VJ.l1:=(s (sd [m 7 6,m 8 0,ln 9 8,ls 10 7 9] [7,8,9] (i 10 .skip (x 0))) (s (b 1 (d [m 13 5,m 14 0,m 15 6,ia 16 1 14 15,uu 17 1 16,m 18 1,ca 19 137 [17,18],o 20 (.c8 138020 3 [19]),o 21 (.app 138021 3 56 13 20),m 5 21] (rl [10] 13 9))) (d [m 11 6,ad 12 11 k1,m 6 12] [11,12])))
def VJ:AFn:=⟨2,(sd [mv 4 (.c .nil)] [4] (sp [o 5 (.bu 138005 3)] (s (sp [mv 6 k0] (b 0 (w VJ.l1))) (sd [m 22 5,m 4 22] [0,1,5,6,10,22] .ret)))),[.tmp 4],false⟩
def QW.l1:=(s (sd [m 30 11,m 31 1,ln 32 31,ls 33 30 32] [30,31,32] (i 33 .skip (x 1))) (s (b 2 (d [m 36 10,m 37 1,m 38 11,ia 39 3 37 38,tt 40 3 39,ca 41 123 [40],o 42 (.c8 42 3 [41]),o 43 (.app 43 3 56 36 42),m 10 43] (rl [33] 36 8))) (d [m 34 11,ad 35 34 k1,m 11 35] [34,35])))
def QW.l3:=(s (sd [m 69 14,m 70 13,ln 71 70,ls 72 69 71] [69,70,71] (i 72 .skip (x 5))) (s (b 6 (e [m 75 13,m 76 14,m 77 13,m 78 14,ia 79 3 77 78,tt 80 3 79,fa 81 3 1,uu 82 1 81,m 83 14,ia 84 3 82 83,tt 85 3 84,m 86 2,m 87 12,ia 88 3 86 87,tt 89 3 88,ca 90 128 [85,89],ca 91 126 [80,90],ia 92 3 75 76,so 3 92 91] (rl [72] 75 18))) (d [m 73 14,ad 74 73 k1,m 14 74] [73,74])))
def QW.l2:=(s (sd [m 44 12,m 45 2,ln 46 45,ls 47 44 46] [44,45,46] (i 47 .skip (x 3))) (s (b 4 (se [m 50 9,fa 51 3 2,uu 52 1 51,m 53 10,ca 54 137 [52,53],fa 55 3 3,tt 56 3 55,m 57 2,m 58 12,ia 59 3 57 58,tt 60 3 59,ca 61 128 [56,60],ca 62 126 [54,61],o 63 (.c8 63 3 [62]),o 64 (.app 64 3 56 50 63),m 9 64] (rl [47] 50 15) (sd [fa 65 3 0,uu 66 1 65,m 67 10,o 68 (.j5 138 [66,67]),m 13 68] (rl [10] 65 4) (s (sp [mv 14 k0] (b 5 (w QW.l3))) (d [m 93 13,m 10 93] [13,14,72,93]))))) (d [m 48 12,ad 49 48 k1,m 12 49] [48,49])))
def QW:AFn:=⟨3,(sd [bx 3 0,mv 6 (.c .nil),mv 7 (.c .nil),mv 8 k0] [0,6,7,8] (s (b 0 (sd [tt 16 6 3,ca 17 136 [16],nt 18 17,m 15 18] [16,17,18] (i 15 (sd [mv 6 (.c .nil),mv 7 (.c .nil),mv 8 (k 2)] [1,2,3,15] .ret) (sd [m 20 1,ln 21 20,fa 22 3 0,uu 23 1 22,ln 24 23,bi 25 .neq 21 24,m 19 25] (rl [15] 20 6) (i 19 (sd [mv 6 (.c .nil),mv 7 (.c .nil),mv 8 k1] [1,2,3,19] .ret) (sd [m 27 2,ln 28 27,bi 29 .gtr 28 (k 4096),m 26 29] [19,27,28,29] (i 26 (sd [mv 6 (.c .nil),mv 7 (.c .nil),mv 8 (k 4)] [1,2,3,26] .ret) .skip))))))) (sd [o 9 (.bu 9 3)] [26] (sp [o 10 (.bu 10 3)] (s (sp [mv 11 k0] (b 1 (w QW.l1))) (s (sd [mv 12 k0] [1,11,33] (b 3 (w QW.l2))) (sd [m 94 9,m 95 10,m 6 94,m 7 95,mv 8 k0] [2,3,9,10,12,47,94,95] .ret))))))),[.tmp 6,.tmp 7,.tmp 8],false⟩
def dG:AFn:=⟨2,(sd [bx 2 0,mv 4 (.c .nil),mv 5 k0] [0,4,5] (s (b 0 (sd [tt 10 6 2,ca 11 136 [10],nt 12 11,m 9 12] [10,11,12] (i 9 (sd [mv 4 (.c .nil),mv 5 (k 2)] [1,2,9] .ret) (sd [m 14 1,ls 15 14 k0,m 13 15] [9,14,15] (i 13 (sd [mv 4 (.c .nil),mv 5 k1] [1,2,13] .ret) (sd [m 17 1,bi 18 .gtr 17 (k 4096),m 16 18] [13,17,18] (i 16 (sd [mv 4 (.c .nil),mv 5 (k 4)] [1,2,16] .ret) .skip))))))) (se [tt 20 6 2,fa 21 2 0,uu 22 1 21,ln 23 22,ca 24 135 [23,(k (-1))],m 25 1,ca 26 135 [25,k0],ca 27 139 [20,24,26],m 19 27,et 28 19 0,et 29 19 1,et 30 19 2,m 6 28,m 7 29,m 8 30] (rl [1,2,7,8,16] 19 12) (sd [m 31 6,m 4 31,mv 5 k0] [6,31] .ret)))),[.tmp 4,.tmp 5],false⟩
structure o6 (L:Lib):Prop extends a7 L,a8 L where
 MU:L 130=some F.MU
 X8:L 135=some F.X8
 NW:L 136=some F.NW
 VI:L 137=some F.VI
 VJ:L 138=some F.VJ
 QW:L 139=some F.QW
 dG:L 140=some F.dG
def dF:AFn:=⟨3,(sd [mv 6 kf] [6] (sd [m 7 0,m 8 1,bi 9 .geq 7 8,m 10 9,g 11 10 true (.w9 0),g 12 10 true (.w9 2),g 13 10 true (.bin .leq 11 12),pk 14 10 13 kf,m 6 14] (rl [0,1,2] 7 8) .ret)),[.tmp 6],false⟩
structure fj (L:Lib):Prop where
 dF:L 10=some F.dF
structure Dc (L:Lib):Prop extends fj L where
structure Az (L:Lib):Prop extends o6 L,Dc L where
def cC:AFn:=⟨1,(sd [bx 1 0,al 2 z3] [0] (sd [fa 3 1 0,fa 4 3 0,uu 5 1 4,nt 6 5,fa 7 1 0,fa 8 7 1,uu 9 1 8,o 10 (.build [(.bool false),.nil] [(0,1,6),(1,1,9)]),fa 11 1 2,uu 12 1 11,o 13 (.build z3 [(0,2,10),(2,1,12)]),so 3 2 13] (rl [1] 3 11) .ret)),[.cell 2 true 3],false⟩
def cA:AFn:=⟨2,(sd [bx 2 0,bx 3 1,al 4 z3] [0,1] (se [tt 5 3 2,tt 6 3 3,o 7 (.l7 149 [6]),ca 8 98 [5,7],so 3 4 8] [2,3,5,6,7,8] .ret)),[.cell 4 true 3],false⟩
structure er (L:Lib):Prop extends a7 L where
 cC:L 149=some F.cC
 cA:L 150=some F.cA
def XX.l1:=(s (sd [m 6 3,bi 7 .gtr 6 k0,m 8 7,g 9 8 true (.w9 0),g 10 8 true (.w9 3),g 11 8 true (.bin .sub 10 k1),g 12 8 true (.cp none 3 9 11),g 13 8 true (.ld true 3 12),g 14 8 true (.call 97 [13]),g 15 8 true (.bin .eql 14 k0),pk 16 8 15 kf] (ra 6 10) (i 16 .skip (x 0))) (b 1 (d [m 17 3,sb 18 17 k1,m 3 18] [16,17,18])))
def XX:AFn:=⟨1,(sd [mv 2 (.c .nil)] [2] (sd [m 4 0,ln 5 4,m 3 5] [4,5] (s (b 0 (w XX.l1)) (sd [m 19 0,m 20 3,o 21 (.pn 3 19 none (some 20)),m 2 21] [0,3,16,19,20,21] .ret)))),[.tmp 2],false⟩
structure xh (L:Lib):Prop extends a7 L where
 XX:L 169=some F.XX
def dA:AFn:=⟨1,(sd [bx 1 0,al 2 z3] [0] (sd [tt 3 3 1,ca 4 123 [3],so 3 1 4] [3,4] (sd [fa 5 1 0,tt 6 2 5,ca 7 114 [6],fa 8 1 0,so 2 8 7] (ra 5 4) (sd [tt 9 3 1,so 3 2 9] [1,9] .ret)))),[.cell 2 true 3],false⟩
def U9:AFn:=⟨2,(sd [bx 2 0,bx 3 1,al 4 z3] [0,1] (se [tt 5 3 2,tt 6 3 3,ca 7 152 [6],ca 8 126 [5,7],so 3 4 8] [2,3,5,6,7,8] .ret)),[.cell 4 true 3],false⟩
def cX:AFn:=⟨2,(sd [bx 2 0,bx 3 1,al 4 z3,mv 5 k0] [0,1,5] (sd [tt 11 3 2,o 12 (.l7 122 [11]),m 10 12,et 13 10 0,et 14 10 1,al 6 [(.bool false),.nil],al 7 [(.bool false),.nil],so 2 6 13,so 2 7 14] (rl [2] 10 5) (sd [tt 16 3 3,o 17 (.l7 122 [16]),m 15 17,et 18 15 0,et 19 15 1,al 8 [(.bool false),.nil],al 9 [(.bool false),.nil],so 2 8 18,so 2 9 19] (rl [3] 15 5) (s (sd [tt 20 2 8,ca 21 113 [20],bi 22 .eql 21 k0] [20,21] (i 22 (sd [o 23 (.build z3 []),so 3 4 23,mv 5 (k 3)] [6,7,8,9,22,23] .ret) .skip)) (se [tt 24 2 6,tt 25 2 9,ca 26 118 [24,25],tt 27 2 7,tt 28 2 8,ca 29 118 [27,28],ca 30 121 [26,29],so 3 4 30,mv 5 k0] (rl [6,7,8,9,22] 24 7) .ret))))),[.cell 4 true 3,.tmp 5],false⟩
def dD:AFn:=⟨1,(sd [bx 1 0,mv 2 k0] [0,2] (sd [tt 6 3 1,o 7 (.l7 122 [6]),m 5 7,et 8 5 0,et 9 5 1,al 3 [(.bool false),.nil],al 4 [(.bool false),.nil],so 2 3 8,so 2 4 9] (rl [1] 4 6) (sd [tt 10 2 3,ca 11 113 [10],m 2 11] [3,10,11] .ret))),[.tmp 2],false⟩
structure s9 (L:Lib):Prop extends a8 L where
 dA:L 152=some F.dA
 U9:L 153=some F.U9
 cX:L 154=some F.cX
 dD:L 155=some F.dD
structure Bb (L:Lib):Prop extends s9 L where
structure zy (L:Lib):Prop extends Az L,er L,xh L,Bb L where
def aY:AFn:=⟨2,(sd [bx 2 0,bx 3 1,mv 4 k0] [0,1,4] (se [tt 7 2 2,ca 8 86 [7],tt 9 2 3,ca 10 86 [9],m 5 8,m 6 10] (ra 7 4) (s (b 0 (sd [m 12 5,m 13 6,ls 14 12 13,m 11 14] [12,13,14] (i 11 (sd [mv 4 (k (-1))] [2,3,5,6,11] .ret) (sd [m 16 5,m 17 6,bi 18 .gtr 16 17,m 15 18] [6,11,16,17,18] (i 15 (sd [mv 4 k1] [2,3,5,15] .ret) (sd [m 20 5,bi 21 .eql 20 (k (-1)),m 19 21] [5,15,20,21] (i 19 (sd [fa 22 3 1,uu 23 1 22,fa 24 2 1,uu 25 1 24,ca 26 67 [23,25],m 4 26] (rl [2,3,19] 22 5) .ret) .skip))))))) (sd [fa 27 2 1,uu 28 1 27,fa 29 3 1,uu 30 1 29,ca 31 67 [28,30],m 4 31] (rl [2,3,19] 27 5) .ret)))),[.tmp 4],false⟩
def XY:AFn:=⟨2,(sd [bx 2 0,bx 3 1,mv 4 k0] [0,1,4] (se [q 7 [5,6] (.ld true 3 2),q 8 [5,6] (.l7 89 [7]),q 9 [5,6] (.ld true 3 3),q 10 [5,6] (.l7 89 [9]),al 5 [(.bool false),.nil,.nil,(.bool false)],al 6 [(.bool false),.nil,.nil,(.bool false)],so 4 5 8,so 4 6 10] [2,3,7,8,9,10] (s (sd [fa 11 5 3,uu 12 1 11,m 13 12,g 14 13 true (.dj 6 3),g 15 13 true (.ld false 1 14),pk 16 13 15 kf] (ra 11 5) (i 16 (sd [fa 17 5 0,fa 18 17 0,tt 19 2 18,fa 20 6 0,fa 21 20 0,tt 22 2 21,ca 23 197 [19,22],m 4 23] (rl [5,6] 16 8) .ret) .skip)) (se [fa 24 5 0,fa 25 24 0,tt 26 2 25,fa 27 6 0,fa 28 27 2,uu 29 1 28,o 30 (.l7 91 [29]),ca 31 88 [26,30],fa 32 6 0,fa 33 32 0,tt 34 2 33,fa 35 5 0,fa 36 35 2,uu 37 1 36,o 38 (.l7 91 [37]),ca 39 88 [34,38],ca 40 197 [31,39],m 4 40] (rl [5,6,16] 24 17) .ret)))),[.tmp 4],false⟩
def bX:AFn:=⟨1,(sd [bx 1 0,al 2 z3] [0] (sd [tt 3 3 1,o 4 (.l7 149 [3]),ca 5 95 [4],so 3 2 5] [1,3,4,5] .ret)),[.cell 2 true 3],false⟩
def bS:AFn:=⟨1,(sd [mv 2 k0] [2] (sd [m 3 0,o 4 (.j5 169 [3]),ln 5 4,sb 6 5 k1,m 2 6] [0,3,4,5,6] .ret)),[.tmp 2],false⟩
def dI:AFn:=⟨1,(sd [bx 1 0,mv 2 kf] [0,2] (s (sd [fa 3 1 0,uu 4 1 3,ca 5 200 [4],bi 6 .gtr 5 (k 48),m 7 6,g 8 7 false (.dj 1 1),g 9 7 false (.ld false 1 8),g 10 7 false (.call 200 [9]),g 11 7 false (.bin .gtr 10 (k 48)),pk 12 7 kt 11] (ra 3 9) (i 12 (sd [mv 2 kf] [1,12] .ret) .skip)) (se [fa 13 1 1,uu 14 1 13,ln 15 14,bi 16 .gtr 15 k0,m 17 16,g 18 17 true (.dj 1 1),g 19 17 true (.ld false 1 18),g 20 17 true (.cp none 3 19 k0),g 21 17 true (.ld true 3 20),g 22 17 true (.call 96 [k1]),g 23 17 true (.call 198 [21,22]),g 24 17 true (.bin .eql 23 k0),pk 25 17 24 kf,m 2 25] (rl [1] 12 14) .ret))),[.tmp 2],false⟩
def YL.l1:=(s (sd [m 7 3,bi 8 .gtr 7 k0] [7] (i 8 .skip (x 0))) (s (b 1 (sd [m 11 0,m 12 3,ia 13 3 11 12,tt 14 3 13,ca 15 97 [14],bi 16 .neq 15 k0] (rl [8] 11 5) (i 16 (sd [m 17 3,m 2 17] [0,3,16,17] .ret) .skip))) (d [m 9 3,sb 10 9 k1,m 3 10] [9,10,16])))
def YL:AFn:=⟨1,(sd [mv 2 k0] [2] (s (sd [m 4 0,ln 5 4,sb 6 5 k1,m 3 6] [4,5,6] (b 0 (w YL.l1))) (sd [mv 2 k0] [0,3,8] .ret))),[.tmp 2],false⟩
def dO:AFn:=⟨2,(sp [al 4 z3] (s (sd [m 5 1,m 6 0,ln 7 6,ls 8 5 7] [5,6,7] (i 8 (sd [m 9 0,m 10 1,ia 11 3 9 10,tt 12 3 11,ca 13 95 [12],so 3 4 13] (rl [0,1] 8 6) .ret) .skip)) (sd [ca 14 96 [k0],so 3 4 14] [0,1,8,14] .ret))),[.cell 4 true 3],false⟩
def YM.l1:=(sp [ls 9 8 7] (s (i 9 .skip (x 0)) (s (b 1 (sd [m 10 8,m 4 10] [9,10] (d [m 11 3,m 12 4,ca 13 96 [k0],ia 14 3 11 12,so 3 14 13] (rl [4] 11 4)))) (d [ad 15 8 k1,m 8 15] [15]))))
def YM:AFn:=⟨1,(sd [mv 2 (.c .nil)] [2] (sd [m 5 0,o 6 (.mk 6 3 56 z3 5 5),m 3 6] [5,6] (s (sd [m 7 0,mv 8 k0] [0] (b 0 (w YM.l1))) (sd [m 16 3,m 2 16] [3,7,8,9,16] .ret)))),[.tmp 2],false⟩
def VT.l2:=(sp [ls 51 50 49] (s (i 51 .skip (x 2)) (s (b 3 (sd [m 52 50,m 8 52] [51,52] (d [m 53 7,m 54 8,fa 55 1 1,uu 56 1 55,m 57 8,ad 58 57 k1,ca 59 205 [56,58],ca 60 199 [59],ia 61 3 53 54,so 3 61 60] (rl [8] 53 9)))) (d [ad 62 50 k1,m 50 62] [62]))))
def VT.l1:=(sp [ls 38 37 36] (s (i 38 .skip (x 0)) (s (b 1 (sd [m 39 37,m 6 39] [38,39] (sd [m 40 4,o 41 (.bf 41 206 [40]),m 7 41] [40,41] (s (sd [m 42 6,bi 43 .gtr 42 k0] [42] (i 43 (d [m 44 7,m 45 6,sb 46 45 k1,ca 47 96 [k1],ia 48 3 44 46,so 3 48 47] (ra 43 6)) (sd [m 49 4,mv 50 k0] [43] (b 2 (w VT.l2))))) (sd [fa 63 5 0,uu 64 1 63,m 65 7,o 66 (.c8 66 1 [65]),o 67 (.app 67 1 24 64 66),fa 68 5 0,so 1 68 67] (rl [7,49,50,51] 63 6) (se [fa 69 1 0,q 70 [9] (.ld false 1 69),q 71 [9] (.call 205 [70,k0]),fa 72 1 1,q 73 [9] (.ld false 1 72),m 74 6,ad 75 74 k1,q 76 [9] (.call 205 [73,75]),q 77 [9] (.call 99 [71,76]),al 9 z3,so 3 9 77] (ra 69 9) (e [fa 78 5 2,q 79 [87] (.ld false 1 78),fa 80 1 0,uu 81 1 80,m 82 6,ad 83 82 k1,ca 84 205 [81,83],tt 85 3 9,ca 86 150 [84,85],o 87 (.c8 87 3 [86]),o 88 (.app 88 3 56 79 87),fa 89 5 2,so 1 89 88] (rl [6,9] 78 12)))))))) (d [ad 90 37 k1,m 37 90] [90]))))
def VT:AFn:=⟨1,(sd [bx 1 0,al 2 z6,mv 3 k0] [0,3] (s (sd [tt 10 2 1,ca 11 201 [10],nt 12 11] [10,11] (i 12 (sd [o 13 (.build z6 []),so 6 2 13,mv 3 (k 2)] [1,12,13] .ret) .skip)) (se [fa 14 1 0,uu 15 1 14,ca 16 204 [15],fa 17 1 1,uu 18 1 17,ca 19 204 [18],o 20 (.mm true [16,19]),m 4 20] (rl [12] 14 7) (s (sd [m 21 4,bi 22 .gtr 21 (k 16)] [21] (i 22 (sd [o 23 (.build z6 []),so 6 2 23,mv 3 (k 12)] [1,4,22,23] .ret) .skip)) (sd [fa 24 1 0,uu 25 1 24,ca 26 205 [25,k0],m 27 4,o 28 (.bf 28 206 [27]),o 29 (.build z6 [(3,3,26),(1,1,28)]),al 5 z6,so 6 5 29] (rl [22] 24 6) (s (sd [m 30 4,bi 31 .gtr 30 k0] [30] (i 31 (e [fa 32 5 1,uu 33 1 32,ca 34 96 [k1],ia 35 3 33 k0,so 3 35 34] (ra 31 5)) .skip)) (s (sd [m 36 4,mv 37 k0] [31] (b 0 (w VT.l1))) (sd [tt 91 6 5,so 6 2 91,mv 3 k0] [1,4,5,36,37,38,91] .ret)))))))),[.cell 2 true 6,.tmp 3],false⟩
structure ae (L:Lib):Prop extends zy L where
 aY:L 197=some F.aY
 XY:L 198=some F.XY
 bX:L 199=some F.bX
 bS:L 200=some F.bS
 dI:L 201=some F.dI
 YL:L 204=some F.YL
 dO:L 205=some F.dO
 YM:L 206=some F.YM
 VT:L 207=some F.VT
def bV:AFn:=⟨1,(sd [bx 1 0,al 2 z3] [0] (sd [fa 3 1 0,fa 4 3 1,uu 5 1 4,o 6 (.build [(.bool false),.nil] [(1,1,5)]),fa 7 1 2,uu 8 1 7,o 9 (.build z3 [(0,2,6),(2,1,8)]),ca 10 95 [9],so 3 2 10] (rl [1] 3 8) .ret)),[.cell 2 true 3],false⟩
structure ma (L:Lib):Prop extends ae L where
 bV:L 256=some F.bV
def XT:AFn:=⟨1,(sd [bx 1 0,al 2 z3] [0] (sd [tt 3 3 1,ca 4 95 [3],o 5 (.zf 4 2 1 false),o 6 (.build [(.bool false),.nil] [(1,1,5)]),o 7 (.c8 7 1 [(.c (.int .u32 (1)))]),o 8 (.build z3 [(0,2,6),(2,1,7)]),so 3 2 8] (rl [1] 3 6) .ret)),[.cell 2 true 3],false⟩
def TG.l2:=(sp [ls 20 19 18] (s (i 20 .skip (x 2)) (s (b 3 (sd [ia 21 3 17 19,tt 22 3 21,al 7 z3,so 3 7 22] [20,21,22] (se [q 24 [8] (.ld true 3 3),q 25 [8] (.ld true 3 7),q 26 [8] (.call 294 [25]),q 27 [8] (.call 100 [24,26]),m 23 27,et 28 23 0,et 29 23 1,al 8 z3,so 3 8 28,m 9 29] (rl [7,9] 23 7) (e [tt 30 3 3,tt 31 3 8,ca 32 294 [31],ca 33 99 [30,32],so 3 3 33] (rl [8] 30 4))))) (d [ad 34 19 k1,m 19 34] [34]))))
def TG.l1:=(sp [ls 14 13 12] (s (i 14 .skip (x 0)) (s (b 1 (sd [ia 15 1 11 13,uu 16 1 15,m 5 16] [14,15,16] (sd [m 17 5,ln 18 17,mv 19 k0] [5] (b 2 (w TG.l2))))) (d [ad 35 13 k1,m 13 35] [17,18,19,20,35]))))
def TG:AFn:=⟨1,(sp [al 2 z3] (sd [ca 10 96 [k1],al 3 z3,so 3 3 10] [10] (s (sd [m 11 0,ln 12 11,mv 13 k0] [0] (b 0 (w TG.l1))) (sd [tt 36 3 3,so 3 2 36] [3,11,12,13,14,36] .ret)))),[.cell 2 true 3],false⟩
def XV.l1:=(sp [ls 13 12 11] (s (i 13 .skip (x 0)) (s (b 1 (sd [m 14 12,m 6 14] [13,14] (e [m 15 5,m 16 6,m 17 0,m 18 6,ia 19 3 17 18,tt 20 3 19,tt 21 3 3,ca 22 99 [20,21],ia 23 3 15 16,so 3 23 22] (rl [6] 15 9)))) (d [ad 24 12 k1,m 12 24] [24]))))
def XV:AFn:=⟨2,(sd [bx 3 1,mv 4 (.c .nil)] [1,4] (sd [m 7 0,ln 8 7,o 9 (.mk 9 3 56 z3 8 8),m 5 9] [7,8,9] (s (sd [m 10 0,ln 11 10,mv 12 k0] [10] (b 0 (w XV.l1))) (sd [m 25 5,m 4 25] [0,3,5,11,12,13,25] .ret)))),[.tmp 4],false⟩
def XU.l1:=(sp [ls 11 10 9] (s (i 11 .skip (x 0)) (s (b 1 (sd [m 12 10,m 6 12] [11,12] (sd [m 13 0,m 14 6,ia 15 3 13 14,tt 16 3 15,ca 17 97 [16],bi 18 .neq 17 k0,m 19 18,g 20 19 true (.w9 1),g 21 19 true (.w9 6),g 22 19 true (.cp none 3 20 21),g 23 19 true (.ld true 3 22),g 24 19 true (.call 97 [23]),g 25 19 true (.bin .neq 24 k0),pk 26 19 25 kf] (ra 13 13) (i 26 (e [tt 27 3 5,m 28 0,m 29 6,ia 30 3 28 29,tt 31 3 30,m 32 1,m 33 6,ia 34 3 32 33,tt 35 3 34,ca 36 99 [31,35],ca 37 98 [27,36],so 3 5 37] (rl [6] 26 12)) .skip)))) (d [ad 38 10 k1,m 10 38] [6,26,38]))))
def XU:AFn:=⟨2,(sp [al 4 z3] (sd [ca 7 96 [k0],al 5 z3,so 3 5 7] [7] (s (sd [m 8 0,ln 9 8,mv 10 k0] [8] (b 0 (w XU.l1))) (sd [tt 39 3 5,so 3 4 39] [0,1,5,9,10,11,39] .ret)))),[.cell 4 true 3],false⟩
def NR.l1:=(sp [ls 16 15 14] (s (i 16 .skip (x 0)) (s (b 1 (sd [m 17 15,m 5 17] [16,17] (d [m 18 4,m 19 5,m 20 3,o 21 (.mk 21 3 56 z3 20 20),ia 22 1 18 19,so 1 22 21] (rl [5] 18 5)))) (d [ad 23 15 k1,m 15 23] [23]))))
def NR.l3:=(sp [ls 32 31 30] (s (i 32 .skip (x 4)) (s (b 5 (sd [m 33 31,m 8 33] [32,33] (d [m 34 6,m 35 8,m 36 0,m 37 8,ia 38 1 36 37,uu 39 1 38,m 40 7,ia 41 3 39 40,tt 42 3 41,ia 43 3 34 35,so 3 43 42] (rl [8] 34 10)))) (d [ad 44 31 k1,m 31 44] [44]))))
def NR.l4:=(sp [ls 47 46 45] (s (i 47 .skip (x 6)) (s (b 7 (sd [m 48 46,m 9 48] [47,48] (e [m 49 4,m 50 9,ia 51 1 49 50,uu 52 1 51,m 53 7,m 54 0,m 55 9,ia 56 1 54 55,uu 57 1 56,m 58 6,ca 59 297 [57,58],ia 60 3 52 53,so 3 60 59] (rl [9] 49 12)))) (d [ad 61 46 k1,m 46 61] [61]))))
def NR.l2:=(sp [ls 28 27 26] (s (i 28 .skip (x 2)) (s (b 3 (sd [m 29 27,m 7 29] [28,29] (s (sp [m 30 3,mv 31 k0] (b 4 (w NR.l3))) (sd [m 45 3,mv 46 k0] [30,31,32] (b 6 (w NR.l4)))))) (d [ad 62 27 k1,m 27 62] [7,45,46,47,62]))))
def NR:AFn:=⟨1,(sd [mv 2 (.c .nil)] [2] (sd [m 10 0,ln 11 10,m 3 11] [10,11] (sd [m 12 3,o 13 (.mk 13 1 24 [.nil] 12 12),m 4 13] [12,13] (s (sp [m 14 3,mv 15 k0] (b 0 (w NR.l1))) (sd [m 24 3,o 25 (.mk 25 3 56 z3 24 24),m 6 25] [14,15,16,24,25] (s (sp [m 26 3,mv 27 k0] (b 2 (w NR.l2))) (sd [m 63 4,m 2 63] [0,3,4,6,26,27,28,63] .ret))))))),[.tmp 2],false⟩
def XW.l1:=(sp [ls 10 9 8] (s (i 10 .skip (x 0)) (s (b 1 (sd [ia 11 3 7 9,tt 12 3 11,al 5 z3,so 3 5 12] [10,11,12] (e [tt 13 3 3,tt 14 3 5,ca 15 256 [14],ca 16 98 [13,15],so 3 3 16] (rl [5] 13 4)))) (d [ad 17 9 k1,m 9 17] [17]))))
def XW:AFn:=⟨1,(sp [al 2 z3] (sd [ca 6 96 [k0],al 3 z3,so 3 3 6] [6] (s (sd [m 7 0,ln 8 7,mv 9 k0] [0] (b 0 (w XW.l1))) (sd [tt 18 3 3,so 3 2 18] [3,7,8,9,10,18] .ret)))),[.cell 2 true 3],false⟩
def XR.l1:=(sp [ls 11 10 9] (s (i 11 .skip (x 0)) (s (b 1 (sd [ia 12 1 8 10,uu 13 1 12,m 6 13] [11,12,13] (sd [m 14 6,ca 15 300 [14],al 7 z3,so 3 7 15] [6,14,15] (se [tt 16 3 7,tt 17 3 7,ca 18 98 [16,17],tt 19 3 3,ca 20 198 [18,19],bi 21 .gtr 20 k0] (rl [7] 16 5) (i 21 (sd [mv 4 kf] [3,8,9,10,21] .ret) .skip))))) (d [ad 22 10 k1,m 10 22] [21,22]))))
def XR:AFn:=⟨2,(sd [bx 3 1,mv 4 kf] [1,4] (s (sd [m 8 0,ln 9 8,mv 10 k0] [0] (b 0 (w XR.l1))) (sd [mv 4 kt] (rl [3] 8 4) .ret))),[.tmp 4],false⟩
def QQ.l1:=(sp [ls 16 15 14] (s (i 16 .skip (x 0)) (s (b 1 (sd [ia 17 1 13 15,uu 18 1 17,m 6 18] [16,17,18] (e [fa 19 4 0,q 20 [25] (.ld false 1 19),m 21 6,fa 22 4 1,tt 23 3 22,ca 24 296 [21,23],o 25 (.c8 25 1 [24]),o 26 (.app 26 1 24 20 25),fa 27 4 0,so 1 27 26] (rl [6] 19 9)))) (d [ad 28 15 k1,m 15 28] [28]))))
def QQ.l2:=(s (sd [m 33 7,tt 34 3 8,ca 35 302 [33,34],nt 36 35] [33,34,35] (i 36 .skip (x 2))) (b 3 (s (sd [fa 37 4 4,uu 38 1 37,bi 39 .eql 38 (k 64)] [36,37,38] (i 39 (sd [o 40 (.build [.nil,(.bool false),.nil,.nil,z,(.bool false),.nil,.nil] []),so 8 2 40,mv 3 (k 14)] [4,7,8,39,40] .ret) .skip)) (se [m 41 7,ca 42 299 [41],tt 43 3 8,tt 44 3 8,ca 45 99 [43,44],m 7 42,so 3 8 45] (rl [39] 41 5) (d [fa 46 4 4,uu 47 1 46,bi 48 .mul 47 (k 2),fa 49 4 4,so 1 49 48] (ra 46 4))))))
def QQ.l3:=(sp [ls 55 54 53] (s (i 55 .skip (x 4)) (s (b 5 (d [fa 56 4 5,tt 57 3 56,fa 58 4 1,tt 59 3 58,ca 60 99 [57,59],fa 61 4 5,so 3 61 60] (ra 55 7))) (d [ad 62 54 k1,m 54 62] [62]))))
def QQ:AFn:=⟨1,(sd [al 2 [.nil,(.bool false),.nil,.nil,z,(.bool false),.nil,.nil],mv 3 k0] [3] (sd [m 9 0,ca 10 295 [9],ca 11 96 [k1],o 12 (.build [.nil,(.bool false),.nil,.nil,z,(.bool false),.nil,.nil] [(1,3,10),(4,1,k1),(5,3,11)]),al 4 [.nil,(.bool false),.nil,.nil,z,(.bool false),.nil,.nil],so 8 4 12] (ra 9 4) (s (sd [m 13 0,ln 14 13,mv 15 k0] [0] (b 0 (w QQ.l1))) (se [fa 29 4 0,q 30 [8] (.ld false 1 29),fa 31 4 1,q 32 [8] (.ld true 3 31),al 8 z3,m 7 30,so 3 8 32] (rl [13,14,15,16] 29 4) (s (b 2 (w QQ.l2)) (s (sd [fa 50 4 4,uu 51 1 50,bi 52 .mul (k 2) 51,sb 53 52 k1,mv 54 k0] [7,8,36,50,51,52] (b 4 (w QQ.l3))) (sd [tt 63 8 4,so 8 2 63,mv 3 k0] [4,53,54,55,63] .ret))))))),[.cell 2 true 8,.tmp 3],false⟩
def XP.l1:=(sp [ls 14 13 12] (s (i 14 .skip (x 0)) (s (b 1 (sd [ia 15 1 11 13,uu 16 1 15,m 5 16] [14,15,16] (sd [m 17 5,ln 18 17,m 19 0,ln 20 19,bi 21 .neq 18 20] (rl [5] 17 4) (i 21 (sd [mv 2 k0,mv 3 (k 2)] [0,11,12,13,21] .ret) .skip)))) (d [ad 22 13 k1,m 13 22] [21,22]))))
def XP:AFn:=⟨1,(sd [mv 2 k0,mv 3 k0] [2,3] (s (sd [m 8 0,ln 9 8,bi 10 .gtr 9 (k 16)] [8,9] (i 10 (sd [mv 2 k0,mv 3 (k 2)] [0,10] .ret) .skip)) (s (sd [m 11 0,ln 12 11,mv 13 k0] [10] (b 0 (w XP.l1))) (sd [m 24 0,ca 25 303 [24],m 23 25,et 26 23 0,et 27 23 1,al 6 [.nil,(.bool false),.nil,.nil,z,(.bool false),.nil,.nil],so 8 6 26,m 7 27] (rl [0,11,12,13,14] 23 5) (sd [fa 28 6 4,uu 29 1 28,m 30 7,m 2 29,m 3 30] [6,7,28,29,30] .ret))))),[.tmp 2,.tmp 3],false⟩
structure di (L:Lib):Prop extends ma L where
 XT:L 294=some F.XT
 TG:L 295=some F.TG
 XV:L 296=some F.XV
 XU:L 297=some F.XU
 NR:L 299=some F.NR
 XW:L 300=some F.XW
 XR:L 302=some F.XR
 QQ:L 303=some F.QQ
 XP:L 306=some F.XP
def cH:AFn:=⟨1,(sd [bx 1 0,al 2 [(.bool false),.nil]] [0] (sd [fa 3 1 1,uu 4 1 3,ca 5 101 [4],o 6 (.build [(.bool false),.nil] [(1,1,5)]),so 2 2 6] [1,3,4,5,6] .ret)),[.cell 2 true 2],false⟩
def cU:AFn:=⟨1,(sd [bx 1 0,al 2 z3] [0] (sd [tt 3 3 1,ca 4 123 [3],so 3 1 4] [3,4] (sd [fa 5 1 0,tt 6 2 5,ca 7 308 [6],fa 8 1 0,so 2 8 7] (ra 5 4) (sd [tt 9 3 1,so 3 2 9] [1,9] .ret)))),[.cell 2 true 3],false⟩
def YC.l1:=(s (sd [m 4 3,m 5 0,ln 6 5,ls 7 4 6] [4,5,6] (i 7 .skip (x 0))) (s (b 1 (sd [m 10 0,m 11 3,ia 12 1 10 11,uu 13 1 12,ln 14 13,m 15 0,ln 16 15,bi 17 .neq 14 16] (rl [7] 10 7) (i 17 (sd [mv 2 kf] [0,3,17] .ret) .skip))) (d [m 8 3,ad 9 8 k1,m 3 9] [8,9,17])))
def YC:AFn:=⟨1,(sd [mv 2 kf] [2] (s (sp [mv 3 k0] (b 0 (w YC.l1))) (sd [m 18 0,ln 19 18,bi 20 .leq 19 (k 16),m 2 20] [0,3,7,18,19,20] .ret))),[.tmp 2],false⟩
def YB.l1:=(s (sd [m 6 4,m 7 0,ln 8 7,ls 9 6 8] [6,7,8] (i 9 .skip (x 0))) (s (b 1 (e [tt 12 3 3,m 13 0,m 14 4,ia 15 3 13 14,tt 16 3 15,ca 17 309 [16],ca 18 126 [12,17],so 3 3 18] (rl [9] 12 7))) (d [m 10 4,ad 11 10 k1,m 4 11] [10,11])))
def YB:AFn:=⟨1,(sp [al 2 z3] (sd [ca 5 124 [k0],al 3 z3,so 3 3 5] [5] (s (sp [mv 4 k0] (b 0 (w YB.l1))) (sd [tt 19 3 3,so 3 2 19] [0,3,4,9,19] .ret)))),[.cell 2 true 3],false⟩
def QY.l3:=(s (sd [m 24 7,m 25 0,ln 26 25,ls 27 24 26] [24,25,26] (i 27 .skip (x 4))) (s (b 5 (e [tt 30 3 6,m 31 0,m 32 4,ia 33 1 31 32,uu 34 1 33,m 35 7,ia 36 3 34 35,tt 37 3 36,m 38 0,m 39 7,ia 40 1 38 39,uu 41 1 40,m 42 5,ia 43 3 41 42,tt 44 3 43,ca 45 128 [37,44],ca 46 126 [30,45],so 3 6 46] (rl [27] 30 17))) (d [m 28 7,ad 29 28 k1,m 7 29] [28,29])))
def QY.l2:=(s (sd [m 17 5,m 18 0,ln 19 18,ls 20 17 19] [17,18,19] (i 20 .skip (x 2))) (s (b 3 (sd [ca 23 124 [k0],al 6 z3,so 3 6 23] [20,23] (s (sp [mv 7 k0] (b 4 (w QY.l3))) (e [m 47 3,m 48 4,m 49 3,m 50 4,ia 51 1 49 50,q 52 [54] (.ld false 1 51),tt 53 3 6,o 54 (.c8 54 3 [53]),o 55 (.app 55 3 56 52 54),ia 56 1 47 48,so 1 56 55] (rl [6,7,27] 47 10))))) (d [m 21 5,ad 22 21 k1,m 5 22] [21,22])))
def QY.l1:=(s (sd [m 11 4,m 12 0,ln 13 12,ls 14 11 13] [11,12,13] (i 14 .skip (x 0))) (s (b 1 (sd [mv 5 k0] [14] (b 2 (w QY.l2)))) (d [m 15 4,ad 16 15 k1,m 4 16] [5,15,16,20])))
def QY:AFn:=⟨1,(sd [mv 2 (.c .nil)] [2] (sd [m 8 0,ln 9 8,o 10 (.mk 10 1 24 [.nil] 9 9),m 3 10] [8,9,10] (s (sp [mv 4 k0] (b 0 (w QY.l1))) (sd [m 57 3,m 2 57] [0,3,4,14,57] .ret)))),[.tmp 2],false⟩
def QX.l2:=(s (sd [m 14 6,m 15 0,ln 16 15,ls 17 14 16] [14,15,16] (i 17 .skip (x 2))) (s (b 3 (d [m 20 5,m 21 20,g 22 21 true (.w9 0),g 23 21 true (.w9 6),g 24 21 true (.cp none 1 22 23),g 25 21 true (.ld false 1 24),g 26 21 true (.call 311 [25]),g 27 21 true (.call 125 [k1,(k 2)]),g 28 21 true (.call 127 [26,27]),g 29 21 true (.bin .leq 28 k0),pk 30 21 29 kf,m 5 30] (rl [17] 20 11))) (d [m 18 6,ad 19 18 k1,m 6 19] [18,19])))
def QX.l1:=(s (sd [m 10 4,bi 11 .leq 10 (k 64)] [10] (i 11 .skip (x 0))) (s (b 1 (sd [mv 5 kt] [11] (s (sp [mv 6 k0] (b 2 (w QX.l2))) (s (sd [m 31 5] [5,6,17] (i 31 (sd [m 32 4,m 2 32,mv 3 k0] [0,4,31,32] .ret) .skip)) (d [m 33 0,ca 34 313 [33],m 0 34] [31,33,34]))))) (d [m 12 4,bi 13 .mul (k 2) 12,m 4 13] [12,13])))
def QX:AFn:=⟨1,(sd [mv 2 k0,mv 3 k0] [2,3] (s (sd [m 7 0,ca 8 310 [7],nt 9 8] [7,8] (i 9 (sd [mv 2 k0,mv 3 (k 2)] [0,9] .ret) .skip)) (s (sd [mv 4 k1] [9] (b 0 (w QX.l1))) (sd [mv 2 k0,mv 3 (k 14)] [0,4,11] .ret)))),[.tmp 2,.tmp 3],false⟩
structure fg (L:Lib):Prop extends ae L where
 cH:L 308=some F.cH
 cU:L 309=some F.cU
 YC:L 310=some F.YC
 YB:L 311=some F.YB
 QY:L 313=some F.QY
 QX:L 314=some F.QX
def dM:AFn:=⟨2,(sd [mv 4 (.c .nil)] [4] (s (sd [m 5 1,ls 6 5 k0] [5] (i 6 (d [o 7 (.bad),n (.bad)] [6,7]) .skip)) (s (sd [m 8 1,m 9 0,o 10 (.mj 9),m 11 0,ln 12 11,sb 13 10 12,sb 14 8 13,m 1 14] (rl [6] 8 7) (sd [m 15 1,bi 16 .gtr 15 k0] [15] (i 16 (d [m 17 0,m 18 0,o 19 (.mj 18),o 20 (.pn 3 17 none (some 19)),m 21 1,o 22 (.yx 227022 3 56 20 21),m 23 0,ln 24 23,o 25 (.pn 3 22 none (some 24)),m 0 25] (rl [1] 16 10)) .skip))) (sd [m 26 0,m 4 26] [0,1,16,26] .ret)))),[.tmp 4],false⟩
def VM.l1:=(sp [ls 12 11 10] (s (i 12 .skip (x 0)) (s (b 1 (sd [ia 13 1 9 11,uu 14 1 13,m 5 14] [12,13,14] (sd [m 15 3,m 16 5,ln 17 16,ad 18 15 17,m 3 18] (rl [5] 15 4) (sd [m 19 3,ls 20 19 k0] [19] (i 20 (d [o 21 (.bad),n (.bad)] [20,21]) .skip))))) (d [ad 22 11 k1,m 11 22] [20,22]))))
def VM.l2:=(sp [ls 28 27 26] (s (i 28 .skip (x 2)) (s (b 3 (sd [ia 29 1 25 27,uu 30 1 29,m 8 30] [28,29,30] (d [m 31 6,m 32 8,o 33 (.app 33 3 56 31 32),m 6 33] [8,31,32,33]))) (d [ad 34 27 k1,m 27 34] [34]))))
def VM:AFn:=⟨1,(sd [mv 2 (.c .nil)] [2] (sp [mv 3 k0] (s (sp [m 9 0,ln 10 9,mv 11 k0] (b 0 (w VM.l1))) (sd [m 23 3,o 24 (.j5 227 [(.c .nil),23]),m 6 24] [3,9,10,11,12,23,24] (s (sd [m 25 0,ln 26 25,mv 27 k0] [0] (b 2 (w VM.l2))) (sd [m 35 6,m 2 35] [6,25,26,27,28,35] .ret)))))),[.tmp 2],false⟩
def SC.l1:=(sp [ls 21 20 19] (s (i 21 .skip (x 0)) (s (b 1 (sd [ia 22 1 18 20,uu 23 1 22,m 5 23] [21,22,23] (sd [m 24 5,ln 25 24,m 26 3,bi 27 .neq 25 26] [5,24,25,26] (i 27 (sd [mv 2 kf] [3,18,19,20,27] .ret) .skip)))) (d [ad 28 20 k1,m 20 28] [27,28]))))
def SC:AFn:=⟨1,(sd [mv 2 kf] [2] (s (sd [m 6 0,ln 7 6,ls 8 7 k1,m 9 8,g 10 9 false (.w9 0),g 11 9 false (.len 10),g 12 9 false (.bin .gtr 11 (k 52)),pk 13 9 kt 12] (ra 6 7) (i 13 (sd [mv 2 kf] [0,13] .ret) .skip)) (sd [m 14 0,ia 15 1 14 k0,uu 16 1 15,ln 17 16,m 3 17] (ra 13 5) (s (sd [m 18 0,ln 19 18,mv 20 k0] [0] (b 0 (w SC.l1))) (sd [m 29 3,bi 30 .geq 29 k1,m 31 30,g 32 31 true (.w9 3),g 33 31 true (.bin .leq 32 (k 52)),pk 34 31 33 kf,m 2 34] (rl [3,18,19,20,21] 29 6) .ret))))),[.tmp 2],false⟩
def OS.l2:=(sp [ls 31 30 29] (s (i 31 .skip (x 2)) (s (b 3 (sd [ia 32 3 28 30,tt 33 3 32,o 10 (.alloc 231010 z3),so 3 10 33] [31,32,33] (sd [tt 34 3 8,tt 35 3 10,ca 36 99 [34,35],o 11 (.alloc 231011 z3),so 3 11 36] [10,34,35,36] (d [tt 37 3 8,fa 38 11 2,uu 39 1 38,o 40 (.build [(.bool false),.nil] [(1,1,39)]),o 41 (.c8 231041 1 [(.c (.int .u32 (1)))]),o 42 (.build z3 [(0,2,40),(2,1,41)]),ca 43 99 [37,42],so 3 8 43] (rl [11] 37 7))))) (d [ad 44 30 k1,m 30 44] [44]))))
def OS.l3:=(sp [ls 54 53 52] (s (i 54 .skip (x 4)) (s (b 5 (sd [m 55 53,ia 56 3 51 53,tt 57 3 56,o 13 (.alloc 231013 z3),m 12 55,so 3 13 57] (ra 54 4) (e [m 58 4,m 59 6,ia 60 1 58 59,uu 61 1 60,m 62 12,tt 63 3 13,tt 64 3 8,ca 65 99 [63,64],ia 66 3 61 62,so 3 66 65] (rl [12,13] 58 9)))) (d [ad 67 53 k1,m 53 67] [67]))))
def OS.l1:=(sp [ls 23 22 21] (s (i 23 .skip (x 0)) (s (b 1 (sd [m 24 22,ia 25 1 20 22,uu 26 1 25,m 6 24,m 7 26] (ra 23 4) (sd [ca 27 96 [k1],o 8 (.alloc 231008 z3),so 3 8 27] [27] (s (sp [m 28 7,ln 29 28,mv 30 k0] (b 2 (w OS.l2))) (sd [m 45 4,m 46 6,m 47 7,ln 48 47,o 49 (.mk 231049 3 56 z3 48 48),ia 50 1 45 46,so 1 50 49] (rl [28,29,30,31] 45 6) (s (sd [m 51 7,ln 52 51,mv 53 k0] [7] (b 4 (w OS.l3))) (d [m 68 5,m 69 6,tt 70 3 8,ia 71 3 68 69,so 3 71 70] (rl [6,8,51,52,53,54] 68 4)))))))) (d [ad 72 22 k1,m 22 72] [72]))))
def OS:AFn:=⟨1,(sd [mv 2 (.c .nil),mv 3 (.c .nil)] [2,3] (se [m 14 0,ln 15 14,o 16 (.mk 231016 1 24 [.nil] 15 15),m 17 0,ln 18 17,o 19 (.mk 231019 3 56 z3 18 18),m 4 16,m 5 19] (ra 14 6) (s (sd [m 20 0,ln 21 20,mv 22 k0] [0] (b 0 (w OS.l1))) (sd [m 73 4,m 74 5,m 2 73,m 3 74] [4,5,20,21,22,23,73,74] .ret)))),[.tmp 2,.tmp 3],false⟩
def W7.l1:=(s (sd [m 21 10,m 22 0,ln 23 22,ls 24 21 23] [21,22,23] (i 24 .skip (x 0))) (s (b 1 (se [m 27 0,m 28 10,ia 29 3 27 28,q 30 [900011] (.ld true 3 29),q 31 [900011] (.ld true 3 8),q 32 [900011] (.call 99 [30,31]),m 33 1,m 34 10,ia 35 3 33 34,q 36 [900011] (.ld true 3 35),q 37 [900011] (.ld true 3 9),q 38 [900011] (.call 99 [36,37]),q 39 [900011] (.call 150 [32,38]),o 11 (.alloc 900011 z3),so 3 11 39] (rl [24] 27 13) (d [m 41 0,m 42 10,tt 43 3 11,tt 44 3 7,ca 45 100 [43,44],m 40 45,et 46 40 0,et 47 40 1,ia 48 3 41 42,so 3 48 46] (rl [11] 40 9)))) (d [m 25 10,ad 26 25 k1,m 10 26] [25,26])))
def W7:AFn:=⟨4,(sd [o 7 (.box 900007 3)] [3] (se [m 12 1,m 13 2,ia 14 3 12 13,q 15 [900008,900009] (.ld true 3 14),m 16 0,m 17 2,ia 18 3 16 17,q 19 [900008,900009,900008] (.ld true 3 18),o 8 (.alloc 900008 z3),o 9 (.alloc 900009 z3),n (.ym 900008 3 8 15),so 3 9 19] (ra 12 8) (sd [m 20 2,m 10 20] [2,20] (b 0 (w W7.l1))))),[],false⟩
def NG.l3:=(s (sd [m 24 11,m 25 0,ln 26 25,ls 27 24 26] [24,25,26] (i 27 .skip (x 4))) (s (b 5 (sd [m 30 0,m 31 11,ia 32 1 30 31,uu 33 1 32,m 34 8,ia 35 3 33 34,tt 36 3 35,ca 37 97 [36],bi 38 .neq 37 k0] (rl [27] 30 8) (i 38 (s (sd [m 39 11,m 40 7,bi 41 .neq 39 40] [38,39,40] (i 41 (se [m 42 0,m 43 11,m 44 0,m 45 7,m 46 0,m 47 7,ia 48 1 46 47,uu 49 1 48,m 50 0,m 51 11,ia 52 1 50 51,uu 53 1 52,ia 54 1 42 43,so 1 54 49,ia 55 1 44 45,so 1 55 53] (rl [11] 41 15) (d [m 56 9,nt 57 56,m 9 57] [56,57])) .skip)) (x 2)) .skip))) (d [m 28 11,ad 29 28 k1,m 11 29] [28,29,38])))
def NG.l2:=(s (sd [m 18 8,m 19 1,ls 20 18 19] [17,18,19] (i 20 .skip (x 2))) (s (b 3 (sd [m 23 7,m 11 23] [20,23] (b 4 (w NG.l3)))) (d [m 21 8,ad 22 21 k1,m 8 22] [11,21,22,27])))
def NG.l4:=(s (sd [m 63 12,m 64 0,ln 65 64,ls 66 63 65] [63,64,65] (i 66 .skip (x 6))) (s (b 7 (e [m 69 0,m 70 12,ia 71 1 69 70,uu 72 1 71,m 73 0,m 74 7,ia 75 1 73 74,uu 76 1 75,m 77 8,tt 78 3 10,o 79 (.j5 900 [72,76,77,78])] (rl [66] 69 11))) (d [m 67 12,ad 68 67 k1,m 12 68] [67,68])))
def NG.l1:=(s (sd [m 14 7,m 15 0,ln 16 15,ls 17 14 16] [14,15,16] (i 17 .skip (x 0))) (b 1 (.scope (s .skip (s (b 2 (w NG.l2)) (s (sd [m 58 8,m 59 1,bi 60 .geq 58 59] [11,20,41,58,59] (i 60 (x 0) .skip)) (s (sd [m 61 7,ad 62 61 k1,m 12 62] [60,61,62] (b 6 (w NG.l4))) (sd [m 80 0,m 81 7,ia 82 1 80 81,uu 83 1 82,m 84 8,ia 85 3 83 84,tt 86 3 85,so 3 10 86] (rl [12,66] 80 7) (sd [m 87 7,ad 88 87 k1,m 7 88] [87,88] (d [m 89 8,ad 90 89 k1,m 8 90] [89,90]))))))))))
def NG:AFn:=⟨2,(sd [mv 4 k0,o 5 (.alloc 233005 z3),mv 6 kf] [4,6] (sp [mv 7 k0,mv 8 k0,mv 9 kf] (sd [ca 13 96 [k1],o 10 (.alloc 233010 z3),so 3 10 13] [13] (s (b 0 (w NG.l1)) (se [m 91 7,tt 92 3 10,m 93 9,m 4 91,so 3 5 92,m 6 93] [0,1,7,8,9,10,17,60,91,92,93] .ret))))),[.tmp 4,.cell 5 true 3,.tmp 6],false⟩
def SD.l2:=(s (sd [m 32 10,m 33 0,ln 34 33,ls 35 32 34] [32,33,34] (i 35 .skip (x 2))) (s (b 3 (e [tt 38 3 9,m 39 0,m 40 8,ia 41 1 39 40,uu 42 1 41,m 43 10,ia 44 3 42 43,tt 45 3 44,m 46 7,m 47 10,ia 48 3 46 47,tt 49 3 48,ca 50 99 [45,49],ca 51 150 [38,50],so 3 9 51] (rl [35] 38 14))) (d [m 36 10,ad 37 36 k1,m 10 37] [36,37])))
def SD.l1:=(s (sd [m 17 8,bi 18 .geq 17 k0] [17] (i 18 .skip (x 0))) (s (b 1 (se [m 21 0,m 22 8,ia 23 1 21 22,q 24 [9] (.ld false 1 23),m 25 1,ia 26 3 24 25,q 27 [9] (.ld true 3 26),q 28 [9] (.ld true 3 5),q 29 [9] (.call 99 [27,28]),al 9 z3,so 3 9 29] (rl [18] 21 9) (s (sd [m 30 8,ad 31 30 k1,m 10 31] [30,31] (b 2 (w SD.l2))) (e [m 53 7,m 54 8,tt 55 3 9,m 56 0,m 57 8,ia 58 1 56 57,uu 59 1 58,m 60 8,ia 61 3 59 60,tt 62 3 61,ca 63 100 [55,62],m 52 63,et 64 52 0,et 65 52 1,ia 66 3 53 54,so 3 66 64] (rl [9,10,35] 52 15))))) (d [m 19 8,sb 20 19 k1,m 8 20] [19,20])))
def SD:AFn:=⟨3,(sd [bx 5 2,mv 6 (.c .nil)] [2,6] (sd [m 11 0,ln 12 11,o 13 (.mk 13 3 56 z3 12 12),m 7 13] [11,12,13] (s (sd [m 14 0,ln 15 14,sb 16 15 k1,m 8 16] [14,15,16] (b 0 (w SD.l1))) (sd [m 67 7,m 6 67] [0,1,5,7,8,18,67] .ret)))),[.tmp 6],false⟩
def NP.l1:=(sp [ls 26 25 24] (s (i 26 .skip (x 0)) (s (b 1 (sd [m 27 25,m 8 27] [26,27] (e [m 28 7,m 29 8,m 30 0,m 31 8,ia 32 1 30 31,uu 33 1 32,m 34 1,m 35 8,ia 36 1 34 35,uu 37 1 36,o 38 (.c8 38 1 [33,37]),ca 39 228 [38],ia 40 1 28 29,so 1 40 39] (rl [8] 28 13)))) (d [ad 41 25 k1,m 25 41] [41]))))
def NP.l2:=(sp [ls 62 61 60] (s (i 62 .skip (x 2)) (s (b 3 (sd [m 63 61,m 15 63] [62,63] (d [m 64 14,m 65 15,m 66 1,m 67 15,ia 68 1 66 67,uu 69 1 68,ln 70 69,o 71 (.mk 71 3 56 z3 70 70),ia 72 1 64 65,so 1 72 71] (rl [15] 64 9)))) (d [ad 73 61 k1,m 61 73] [73]))))
def NP.l4:=(sp [ls 89 88 87] (s (i 89 .skip (x 6)) (s (b 7 (sd [m 90 88,ia 91 3 86 88,tt 92 3 91,al 18 z3,m 17 90,so 3 18 92] (ra 89 4) (e [m 94 14,m 95 17,ia 96 1 94 95,uu 97 1 96,m 98 16,tt 99 3 18,tt 100 3 12,ca 101 100 [99,100],m 93 101,et 102 93 0,et 103 93 1,ia 104 3 97 98,so 3 104 102] (rl [17,18] 93 12)))) (d [ad 105 88 k1,m 88 105] [105]))))
def NP.l3:=(sp [ls 79 78 77] (s (i 79 .skip (x 4)) (s (b 5 (sd [m 80 78,m 16 80] [79,80] (sd [m 81 9,m 82 6,m 83 16,ad 84 82 83,tt 85 3 12,ca 86 234 [81,84,85],ln 87 86,mv 88 k0] (ra 81 5) (b 6 (w NP.l4))))) (d [ad 106 78 k1,m 78 106] [16,86,87,88,89,106]))))
def NP:AFn:=⟨2,(sd [mv 4 (.c .nil),mv 5 k0] [4,5] (sd [m 19 0,ln 20 19,m 6 20] [19,20] (sd [m 21 6,o 22 (.mk 22 1 24 [.nil] 21 21),m 7 22] [21,22] (s (sd [m 23 7,ln 24 23,mv 25 k0] [23] (b 0 (w NP.l1))) (sd [m 43 7,o 44 (.j5 231 [43]),m 42 44,et 45 42 0,et 46 42 1,m 9 45,m 10 46] (rl [0,7,10,24,25,26] 42 5) (sd [m 48 9,m 49 6,o 50 (.j5 233 [48,49]),m 47 50,et 51 47 0,et 52 47 1,et 53 47 2,al 12 z3,m 11 51,so 3 12 52,m 13 53] (rl [13] 47 7) (s (sd [m 54 11,m 55 6,ls 56 54 55] [11,54,55] (i 56 (sd [mv 4 (.c .nil),mv 5 (k 11)] [1,6,9,12,56] .ret) .skip)) (sd [m 57 6,o 58 (.mk 58 1 24 [.nil] 57 57),m 14 58] [56,57,58] (s (sd [m 59 14,ln 60 59,mv 61 k0] [59] (b 2 (w NP.l2))) (s (sd [m 74 1,ia 75 1 74 k0,uu 76 1 75,ln 77 76,mv 78 k0] [1,60,61,62,74,75,76] (b 4 (w NP.l3))) (sd [m 107 14,m 4 107,mv 5 k0] [6,9,12,14,77,78,79,107] .ret))))))))))),[.tmp 4,.tmp 5],false⟩
def R7.l1:=(sp [ls 36 35 34] (s (i 36 .skip (x 0)) (s (b 1 (sd [m 37 35,ia 38 3 33 35,tt 39 3 38,al 8 z3,m 7 37,so 3 8 39] (ra 36 4) (d [m 40 6,m 41 7,tt 42 3 8,o 43 (.c8 43 3 [42]),ia 44 1 40 41,so 1 44 43] (rl [7,8] 40 5)))) (d [ad 45 35 k1,m 35 45] [45]))))
def R7.l2:=(sp [ls 61 60 59] (s (i 61 .skip (x 2)) (s (b 3 (sd [m 62 60,m 12 62] [61,62] (d [m 63 11,m 64 12,m 65 9,m 66 12,ia 67 1 65 66,uu 68 1 67,ia 69 3 68 k0,tt 70 3 69,ia 71 3 63 64,so 3 71 70] (rl [12] 63 9)))) (d [ad 72 60 k1,m 60 72] [72]))))
def R7:AFn:=⟨2,(sd [mv 4 (.c .nil),mv 5 k0] [4,5] (s (sd [m 13 0,ca 14 229 [13],nt 15 14] [13,14] (i 15 (sd [mv 4 (.c .nil),mv 5 (k 2)] [0,1,15] .ret) .skip)) (s (sd [m 16 0,ia 17 1 16 k0,uu 18 1 17,ln 19 18,m 20 0,ln 21 20,bi 22 .neq 19 21,m 23 22,g 24 23 false (.w9 1),g 25 23 false (.len 24),g 26 23 false (.w9 0),g 27 23 false (.len 26),g 28 23 false (.bin .neq 25 27),pk 29 23 kt 28] (ra 15 14) (i 29 (sd [mv 4 (.c .nil),mv 5 k1] [0,1,29] .ret) .skip)) (sd [m 30 1,ln 31 30,o 32 (.mk 32 1 24 [.nil] 31 31),m 6 32] (ra 29 4) (s (sd [m 33 1,ln 34 33,mv 35 k0] [1] (b 0 (w R7.l1))) (sd [m 47 0,m 48 6,ca 49 235 [47,48],m 46 49,et 50 46 0,et 51 46 1,m 9 50,m 10 51] (rl [0,6,33,34,35,36] 46 6) (s (sd [m 52 10,bi 53 .neq 52 k0] [52] (i 53 (sd [m 54 10,mv 4 (.c .nil),m 5 54] [9,10,53,54] .ret) .skip)) (sd [m 55 9,ln 56 55,o 57 (.mk 57 3 56 z3 56 56),m 11 57] [10,53,55,56,57] (s (sd [m 58 9,ln 59 58,mv 60 k0] [58] (b 2 (w R7.l2))) (sd [m 73 11,m 4 73,mv 5 k0] [9,11,59,60,61,73] .ret)))))))))),[.tmp 4,.tmp 5],false⟩
structure ay (L:Lib):Prop extends er L,ae L where
 dM:L 227=some F.dM
 VM:L 228=some F.VM
 SC:L 229=some F.SC
 OS:L 231=some F.OS
 W7:L 900=some F.W7
 NG:L 233=some F.NG
 SD:L 234=some F.SD
 NP:L 235=some F.NP
 R7:L 237=some F.R7
def QT.l1:=(sp [ls 30 29 28] (s (i 30 .skip (x 0)) (s (b 1 (sd [ia 31 1 27 29,uu 32 1 31,m 4 32] [30,31,32] (sd [m 33 4,ln 34 33,m 35 0,ia 36 1 35 k0,uu 37 1 36,ln 38 37,bi 39 .neq 34 38] (rl [4] 33 6) (i 39 (sd [mv 2 kf] [0,27,28,29,39] .ret) .skip)))) (d [ad 40 29 k1,m 29 40] [39,40]))))
def QT:AFn:=⟨1,(sd [mv 2 kf] [2] (s (sd [m 5 0,ln 6 5,ls 7 6 k1,m 8 7,g 9 8 false (.w9 0),g 10 8 false (.len 9),g 11 8 false (.bin .gtr 10 (k 52)),pk 12 8 kt 11,m 13 12,g 14 13 false (.w9 0),g 15 13 false (.cp none 1 14 k0),g 16 13 false (.ld false 1 15),g 17 13 false (.len 16),g 18 13 false (.bin .lss 17 k1),pk 19 13 kt 18,m 20 19,g 21 20 false (.w9 0),g 22 20 false (.cp none 1 21 k0),g 23 20 false (.ld false 1 22),g 24 20 false (.len 23),g 25 20 false (.bin .gtr 24 (k 52)),pk 26 20 kt 25] (ra 5 21) (i 26 (sd [mv 2 kf] [0,26] .ret) .skip)) (s (sd [m 27 0,ln 28 27,mv 29 k0] [26] (b 0 (w QT.l1))) (sd [mv 2 kt] (rl [0] 27 4) .ret)))),[.tmp 2],false⟩
structure mf (L:Lib):Prop extends s9 L where
 QT:L 239=some F.QT
end Go.j4.F

namespace Go.j4.F
open C
def dC:AFn:=⟨2,(sd [bx 2 0,bx 3 1,al 4 z3] [0,1] (sd [tt 8 3 2,tt 9 3 3,ca 10 154 [8,9],m 7 10,et 11 7 0,et 12 7 1,al 5 z3,so 3 5 11,m 6 12] (rl [2,3] 7 6) (s (sd [m 13 6,bi 14 .neq 13 k0] [6,13] (i 14 (sd [ca 15 124 [k0],so 3 4 15] [5,14,15] .ret) .skip)) (sd [tt 16 3 5,so 3 4 16] [5,14,16] .ret)))),[.cell 4 true 3],false⟩
def VF.l2:=(sp [ls 18 17 16] (s (i 18 .skip (x 2)) (s (b 3 (sd [ia 19 3 15 17,tt 20 3 19,o 8 (.alloc 277008 z3),so 3 8 20] [18,19,20] (d [m 21 6,tt 22 3 8,ca 23 123 [22],o 24 (.c8 277024 3 [23]),o 25 (.app 277025 3 56 21 24),m 6 25] (rl [8] 21 5)))) (d [ad 26 17 k1,m 17 26] [26]))))
def VF.l1:=(sp [ls 12 11 10] (s (i 12 .skip (x 0)) (s (b 1 (sd [ia 13 1 9 11,uu 14 1 13,m 5 14] [12,13,14] (sp [o 6 (.bu 277006 3)] (s (sd [m 15 5,ln 16 15,mv 17 k0] [5] (b 2 (w VF.l2))) (d [m 27 3,m 28 6,o 29 (.c8 277029 1 [28]),o 30 (.app 277030 1 24 27 29),m 3 30] (rl [6,15,16,17,18] 27 4)))))) (d [ad 31 11 k1,m 11 31] [31]))))
def VF:AFn:=⟨1,(sd [mv 2 (.c .nil)] [2] (sp [o 3 (.bu 277003 1)] (s (sd [m 9 0,ln 10 9,mv 11 k0] [0] (b 0 (w VF.l1))) (sd [m 32 3,m 2 32] [3,9,10,11,12,32] .ret)))),[.tmp 2],false⟩
namespace LV
def r0:=[mv 4 k0,o 5 (.alloc 901005 z3)]
def r1:=[ca 15 124 [k1],o 7 (.alloc 901007 z3),mv 6 k0,so 3 7 15]
def r2:=[mv 8 k0]
def r3:=[m 16 8,m 17 1,ls 18 16 17,m 19 18,g 20 19 true (.w9 6),g 21 19 true (.w9 0),g 22 19 true (.len 21),g 23 19 true (.bin .lss 20 22),
 pk 24 19 23 kf]
def r5:=[m 27 6,m 9 27]
def r6:=[m 28 9,m 29 0,ln 30 29,ls 31 28 30,m 32 31,g 33 32 true (.w9 0),g 34 32 true (.w9 9),g 35 32 true (.cp none 1 33 34),
 g 36 32 true (.ld false 1 35),g 37 32 true (.w9 8),g 38 32 true (.cp none 3 36 37),g 39 32 true (.ld true 3 38),g 40 32 true (.call 155 [39]),
 g 41 32 true (.bin .eql 40 k0),pk 42 32 41 kf]
def r7:=[m 43 9,ad 44 43 k1,m 9 44]
def r8:=[m 45 9,m 46 0,ln 47 46,bi 48 .eql 45 47]
def r9:=[m 49 9,m 50 6,bi 51 .neq 49 50]
def ZP:=[m 52 0,m 53 9,m 54 0,m 55 6,m 56 0,m 57 6,ia 58 1 56 57,uu 59 1 58,m 60 0,m 61 9,ia 62 1 60 61,
 uu 63 1 62,ia 64 1 52 53,so 1 64 59,ia 65 1 54 55,so 1 65 63]
def ZR:=[tt 66 3 7,ca 67 152 [66],so 3 7 67]
def Gp:=[m 68 0,m 69 6,ia 70 1 68 69,uu 71 1 70,m 72 8,ia 73 3 71 72,tt 74 3 73,
 o 10 (.alloc 901010 z3),so 3 10 74]
def gP:=[tt 75 3 7,tt 76 3 10,ca 77 128 [75,76],so 3 7 77]
def Kp:=[m 78 0,m 79 6,ia 80 1 78 79,uu 81 1 80,ln 82 81,mv 83 k0]
def Kq:=[ls 84 83 82]
def Kr:=[m 85 83,m 11 85]
def gS:=[m 86 0,m 87 6,ia 88 1 86 87,uu 89 1 88,m 90 11,m 91 0,m 92 6,ia 93 1 91 92,uu 94 1 93,m 95 11,
 ia 96 3 94 95,tt 97 3 96,tt 98 3 10,ca 99 276 [97,98],ia 100 3 89 90,so 3 100 99]
def Gu:=[ad 101 83 k1,m 83 101]
def Ov:=[m 102 0,ln 103 102,mv 104 k0]
def Qo:=[ls 105 104 103]
def Qp:=[m 106 104,m 12 106]
def Qq:=[m 107 0,m 108 12,ia 109 1 107 108,uu 110 1 109,m 111 8,ia 112 3 110 111,tt 113 3 112,
 o 13 (.alloc 901013 z3),so 3 13 113]
def Qt:=[m 114 12,m 115 6,bi 116 .eql 114 115,m 117 116,g 118 117 false (.ld true 3 13),g 119 117 false (.call 155 [118]),
 g 120 117 false (.bin .eql 119 k0),pk 121 117 kt 120]
def oD:=[m 122 0,m 123 12,ia 124 1 122 123,uu 125 1 124,ln 126 125,mv 127 k0]
def oE:=[ls 128 127 126]
def oF:=[m 129 127,m 14 129]
def oG:=[m 130 0,m 131 12,ia 132 1 130 131,uu 133 1 132,m 134 14,m 135 0,m 136 12,ia 137 1 135 136,uu 138 1 137,
 m 139 14,ia 140 3 138 139,tt 141 3 140,tt 142 3 13,m 143 0,m 144 6,ia 145 1 143 144,uu 146 1 145,
 m 147 14,ia 148 3 146 147,tt 149 3 148,ca 150 128 [142,149],ca 151 153 [141,150],ia 152 3 133 134,
 so 3 152 151]
def oH:=[ad 153 127 k1,m 127 153]
def oI:=[ad 154 104 k1,m 104 154]
def Ow:=[m 155 6,ad 156 155 k1,m 6 156]
def r4:=[m 25 8,ad 26 25 k1,m 8 26]
def Qu:=[m 157 6,tt 158 3 7,m 4 157,so 3 5 158]
def l2:=(s (sd r6 (ra 28 14) (i 42 .skip (x 2))) (b 3 (d r7 [42,43,44])))
def l3:=(sp Kq (s (i 84 .skip (x 4)) (s (b 5 (sd Kr [84,85] (e gS (rl [11] 86 15)))) (d Gu [101]))))
def l5:=(sp oE (s (i 128 .skip (x 8)) (s (b 9 (sd oF [128,129] (e oG (rl [14] 130 23)))) (d oH [153]))))
def l4:=(sp Qo (s (i 105 .skip (x 6)) (s (b 7 (sd Qp [105,106] (sd Qq (ra 107 7) (s (sd Qt (ra 114 7) (i 121 (x 7) .skip)) (sd oD (ra 121 5) (b 8 (w l5))))))) (d oI [12,13,121,126,127,128,154]))))
def l1:=(s (sd r3 (ra 16 8) (i 24 .skip (x 0))) (s (b 1 (sd r5 [24,27] (s (b 2 (w l2)) (s (sd r8 [42,45,46,47] (i 48 (x 1) .skip)) (s (sd r9 [48,49,50] (i 51 (se ZP (rl [9] 51 15) (d ZR [66,67])) .skip)) (sd Gp (rl [9,51] 68 7) (sd gP [75,76,77] (s (sd Kp (ra 78 4) (b 4 (w l3))) (s (sd Ov [10,82,83,84,102] (b 6 (w l4))) (d Ow [103,104,105,155,156])))))))))) (d r4 [9,25,26,48])))
def c:=(sd r0 [4] (sd r1 [15] (s (sp r2 (b 0 (w l1))) (se Qu [0,1,6,7,8,24,157,158] .ret))))
end LV
def LV:AFn:=⟨2,LV.c,[.tmp 4,.cell 5 true 3],false⟩
def QU.l1:=(sp [ls 20 19 18] (s (i 20 .skip (x 0)) (s (b 1 (sd [m 21 19,m 7 21] [20,21] (e [m 22 6,m 23 7,m 24 6,m 25 7,ia 26 1 24 25,uu 27 1 26,m 28 1,m 29 7,ia 30 1 28 29,uu 31 1 30,o 32 (.app 32 3 56 27 31),ia 33 1 22 23,so 1 33 32] (rl [7] 22 12)))) (d [ad 34 19 k1,m 19 34] [34]))))
def QU.l3:=(sp [ls 60 59 58] (s (i 60 .skip (x 4)) (s (b 5 (sd [ia 61 3 57 59,tt 62 3 61,al 14 z3,so 3 14 62] [60,61,62] (d [m 63 12,tt 64 3 14,ca 65 123 [64],o 66 (.c8 66 3 [65]),o 67 (.app 67 3 56 63 66),m 12 67] (rl [14] 63 5)))) (d [ad 68 59 k1,m 59 68] [68]))))
def QU.l2:=(sp [ls 49 48 47] (s (i 49 .skip (x 2)) (s (b 3 (sd [m 50 48,m 11 50] [49,50] (sp [o 12 (.bu 12 3)] (s (sd [m 51 6,m 52 11,ia 53 1 51 52,uu 54 1 53,m 55 0,ln 56 55,o 57 (.pn 3 54 (some 56) none),ln 58 57,mv 59 k0] (rl [11] 51 6) (b 4 (w QU.l3))) (d [m 69 10,m 70 12,o 71 (.c8 71 1 [70]),o 72 (.app 72 1 24 69 71),m 10 72] (rl [12,57,58,59,60] 69 4)))))) (d [ad 73 48 k1,m 48 73] [73]))))
def QU:AFn:=⟨2,(sd [mv 4 (.c .nil),mv 5 k0] [4,5] (sd [m 15 0,o 16 (.j5 277 [15]),m 6 16] [15,16] (s (sd [m 17 6,ln 18 17,mv 19 k0] [17] (b 0 (w QU.l1))) (s (sd [m 36 6,m 37 0,ln 38 37,o 39 (.j5 901 [36,38]),m 35 39,et 40 35 0,et 41 35 1,al 9 z3,m 8 40,so 3 9 41] (rl [1,9,18,19,20] 35 7) (sd [m 42 8,m 43 0,ln 44 43,ls 45 42 44] [8,42,43,44] (i 45 (sd [mv 4 (.c .nil),mv 5 (k 11)] [0,6,45] .ret) .skip))) (sd [o 10 (.bu 10 1)] [45] (s (sd [m 46 6,ln 47 46,mv 48 k0] [46] (b 2 (w QU.l2))) (sd [m 74 10,m 4 74,mv 5 k0] [0,6,10,47,48,49,74] .ret))))))),[.tmp 4,.tmp 5],false⟩
structure eg (L:Lib):Prop extends mf L where
 dC:L 276=some F.dC
 VF:L 277=some F.VF
 LV:L 901=some F.LV
 QU:L 278=some F.QU
end Go.j4.F

namespace Go.j4.F
open C
structure xj (L:Lib):Prop extends fj L where
structure xi (L:Lib):Prop extends xj L,a8 L where
structure xf (L:Lib):Prop extends xi L where
def VC.l1:=(sp [ls 36 35 34] (s (i 36 .skip (x 1)) (s (b 2 (sd [ia 37 3 33 35,tt 38 3 37,al 8 z3,so 3 8 38] [36,37,38] (d [m 39 6,tt 40 3 8,o 41 (.c8 41 3 [40]),o 42 (.c8 42 1 [41]),o 43 (.app 43 1 24 39 42),m 6 43] (rl [8] 39 5)))) (d [ad 44 35 k1,m 35 44] [44]))))
def VC.l2:=(sp [ls 54 53 52] (s (i 54 .skip (x 3)) (s (b 4 (sd [ia 55 1 51 53,uu 56 1 55,m 13 56] [54,55,56] (d [m 57 11,m 58 13,ia 59 3 58 k0,tt 60 3 59,o 61 (.c8 61 3 [60]),o 62 (.app 62 3 56 57 61),m 11 62] (rl [13] 57 6)))) (d [ad 63 53 k1,m 53 63] [63]))))
def VC:AFn:=⟨2,(sd [mv 4 (.c .nil),mv 5 k0] [4,5] (s (b 0 (sd [m 15 0,ca 16 239 [15],nt 17 16,m 14 17] [15,16,17] (i 14 (sd [mv 4 (.c .nil),mv 5 (k 2)] [0,1,14] .ret) (sd [m 19 0,ln 20 19,m 21 0,ia 22 1 21 k0,uu 23 1 22,ln 24 23,bi 25 .neq 20 24,m 26 25,g 27 26 false (.w9 1),g 28 26 false (.len 27),g 29 26 false (.w9 0),g 30 26 false (.len 29),g 31 26 false (.bin .neq 28 30),pk 32 26 kt 31,m 18 32] (rl [14] 19 14) (i 18 (sd [mv 4 (.c .nil),mv 5 k1] [0,1,18] .ret) .skip))))) (sd [o 6 (.bu 6 1)] [18] (s (sd [m 33 1,ln 34 33,mv 35 k0] [1] (b 1 (w VC.l1))) (sd [m 46 0,m 47 6,ca 48 278 [46,47],m 45 48,et 49 45 0,et 50 45 1,m 9 49,m 10 50] (rl [0,6,33,34,35,36] 45 6) (sp [o 11 (.bu 11 3)] (s (sd [m 51 9,ln 52 51,mv 53 k0] [9] (b 3 (w VC.l2))) (sd [m 64 11,m 65 10,m 4 64,m 5 65] [10,11,51,52,53,54,64,65] .ret)))))))),[.tmp 4,.tmp 5],false⟩
structure uw (L:Lib):Prop extends eg L where
 VC:L 327=some F.VC
def SZ.l2:=(s (sd [m 13 5,fa 14 1 0,uu 15 1 14,ln 16 15,ls 17 13 16] (ra 13 4) (i 17 .skip (x 2))) (s (b 3 (d [m 20 3,m 21 4,m 22 5,o 23 (.build [z,z] [(0,1,21),(1,1,22)]),o 24 (.c8 24 2 [23]),o 25 (.app 25 2 16 20 24),m 3 25] (rl [17] 20 6))) (d [m 18 5,ad 19 18 k1,m 5 19] [18,19])))
def SZ.l1:=(sp [ls 10 9 8] (s (i 10 .skip (x 0)) (s (b 1 (sd [m 11 9,m 4 11] [10,11] (sd [m 12 4,m 5 12] [12] (b 2 (w SZ.l2))))) (d [ad 26 9 k1,m 9 26] [4,5,17,26]))))
def SZ:AFn:=⟨1,(sd [bx 1 0,mv 2 (.c .nil)] [0,2] (sp [o 3 (.bu 3 2)] (s (sd [fa 6 1 0,uu 7 1 6,ln 8 7,mv 9 k0] [6,7] (b 0 (w SZ.l1))) (sd [m 27 3,m 2 27] [1,3,8,9,10,27] .ret)))),[.tmp 2],false⟩
def XM.l1:=(sp [ls 14 13 12] (s (i 14 .skip (x 0)) (s (b 1 (sd [ia 15 2 11 13,tt 16 2 15,al 8 [z,z],so 2 8 16] [14,15,16] (se [fa 17 2 0,q 18 [9] (.ld false 1 17),fa 19 3 0,q 20 [9] (.ld false 1 19),ia 21 1 18 20,q 22 [9] (.ld false 1 21),fa 23 8 0,q 24 [9] (.ld false 1 23),ia 25 3 22 24,q 26 [9] (.ld true 3 25),fa 27 2 0,q 28 [9] (.ld false 1 27),fa 29 3 1,q 30 [9] (.ld false 1 29),ia 31 1 28 30,q 32 [9] (.ld false 1 31),fa 33 8 1,q 34 [9] (.ld false 1 33),ia 35 3 32 34,q 36 [9] (.ld true 3 35),q 37 [9] (.call 99 [26,36]),q 38 [9] (.call 199 [37]),al 9 z3,so 3 9 38] (ra 17 22) (s (sd [fa 39 8 0,uu 40 1 39,fa 41 8 1,uu 42 1 41,bi 43 .neq 40 42] (ra 39 4) (i 43 (e [tt 44 3 9,fa 45 2 0,uu 46 1 45,fa 47 3 0,uu 48 1 47,ia 49 1 46 48,uu 50 1 49,fa 51 8 1,uu 52 1 51,ia 53 3 50 52,tt 54 3 53,fa 55 2 0,uu 56 1 55,fa 57 3 1,uu 58 1 57,ia 59 1 56 58,uu 60 1 59,fa 61 8 0,uu 62 1 61,ia 63 3 60 62,tt 64 3 63,ca 65 99 [54,64],ca 66 150 [44,65],so 3 9 66] (ra 43 24)) .skip)) (s (sd [tt 67 2 8,tt 68 2 3,o 69 (.Bu false 2 67 68)] [8,43,67,68] (i 69 (e [tt 70 3 9,ca 71 96 [k1],ca 72 98 [70,71],so 3 9 72] (ra 69 4)) .skip)) (d [m 73 6,tt 74 3 9,o 75 (.c8 75 3 [74]),o 76 (.app 76 3 56 73 75),m 6 76] (rl [9,69] 73 4))))))) (d [ad 77 13 k1,m 13 77] [77]))))
def XM:AFn:=⟨2,(sd [bx 2 0,bx 3 1,mv 4 (.c .nil),al 5 z3] [0,1,4] (sp [o 6 (.bu 6 3)] (s (sd [tt 10 2 2,ca 11 321 [10],ln 12 11,mv 13 k0] [10] (b 0 (w XM.l1))) (se [m 78 6,fa 79 2 1,uu 80 1 79,fa 81 3 0,uu 82 1 81,ia 83 3 80 82,tt 84 3 83,fa 85 2 1,uu 86 1 85,fa 87 3 1,uu 88 1 87,ia 89 3 86 88,tt 90 3 89,ca 91 99 [84,90],m 4 78,so 3 5 91] (rl [2,3,6,11,12,13,14] 78 14) .ret)))),[.tmp 4,.cell 5 true 3],false⟩
def QP.l1:=(sp [ls 25 24 23] (s (i 25 .skip (x 0)) (s (b 1 (sd [m 26 24,m 5 26] [25,26] (d [m 27 4,m 28 5,fa 29 1 0,uu 30 1 29,ln 31 30,o 32 (.mk 32 3 56 z3 31 31),ia 33 1 27 28,so 1 33 32] (rl [5] 27 7)))) (d [ad 34 24 k1,m 24 34] [34]))))
def QP.l2:=(sp [ls 46 45 44] (s (i 46 .skip (x 2)) (s (b 3 (sd [ia 47 2 43 45,tt 48 2 47,al 11 [z,z],so 2 11 48] [46,47,48] (sd [m 50 7,tt 51 2 11,o 52 (.q6 50 [51]),m 49 52,et 53 49 0,et 54 49 1,al 13 z3,m 12 53,so 3 13 54] (rl [11] 49 6) (sd [m 55 8,m 56 12,o 57 (.c8 57 1 [56]),o 58 (.app 58 1 24 55 57),m 8 58] (rl [12] 55 4) (d [m 59 9,tt 60 3 13,o 61 (.c8 61 3 [60]),o 62 (.app 62 3 56 59 61),m 9 62] (rl [13] 59 4)))))) (d [ad 63 45 k1,m 45 63] [63]))))
def QP.l3:=(sp [ls 76 75 74] (s (i 76 .skip (x 4)) (s (b 5 (sd [m 77 75,ia 78 2 73 75,tt 79 2 78,al 17 [z,z],m 16 77,so 2 17 79] (ra 76 4) (se [m 80 4,fa 81 17 0,uu 82 1 81,ia 83 1 80 82,uu 84 1 83,fa 85 17 1,uu 86 1 85,m 87 14,m 88 16,ia 89 3 87 88,tt 90 3 89,ca 91 95 [90],ia 92 3 84 86,so 3 92 91] (ra 80 13) (e [m 93 4,fa 94 17 1,uu 95 1 94,ia 96 1 93 95,uu 97 1 96,fa 98 17 0,uu 99 1 98,m 100 14,m 101 16,ia 102 3 100 101,tt 103 3 102,ca 104 95 [103],ia 105 3 97 99,so 3 105 104] (rl [16,17] 93 13))))) (d [ad 106 75 k1,m 75 106] [106]))))
def QP:AFn:=⟨1,(sd [bx 1 0,mv 2 (.c .nil),mv 3 k0] [0,2,3] (sd [fa 18 1 0,uu 19 1 18,ln 20 19,o 21 (.mk 21 1 24 [.nil] 20 20),m 4 21] (ra 18 4) (s (sd [m 22 4,ln 23 22,mv 24 k0] [22] (b 0 (w QP.l1))) (sd [tt 35 2 1,ca 36 321 [35],m 6 36] [23,24,25,35,36] (s (sd [m 37 6,ln 38 37,bi 39 .eql 38 k0] [37,38] (i 39 (sd [m 40 4,m 2 40,mv 3 k0] [1,4,6,39,40] .ret) .skip)) (sd [tt 41 2 1,o 42 (.Bo 322 41),m 7 42] [1,39,41,42] (sp [o 8 (.bu 8 1)] (sp [o 9 (.bu 9 3)] (s (sp [m 43 6,ln 44 43,mv 45 k0] (b 2 (w QP.l2))) (sd [m 65 8,m 66 9,ca 67 237 [65,66],m 64 67,et 68 64 0,et 69 64 1,m 14 68,m 15 69] (rl [7,8,9,43,44,45,46] 64 6) (s (sd [m 70 15,bi 71 .neq 70 k0] [70] (i 71 (sd [m 72 15,mv 2 (.c .nil),m 3 72] [4,6,14,15,71,72] .ret) .skip)) (s (sd [m 73 6,ln 74 73,mv 75 k0] [6,15,71] (b 4 (w QP.l3))) (sd [m 107 4,m 2 107,mv 3 k0] [4,14,73,74,75,76,107] .ret))))))))))))),[.tmp 2,.tmp 3],false⟩
def NQ.l1:=(sp [ls 23 22 21] (s (i 23 .skip (x 0)) (s (b 1 (sd [ia 24 1 20 22,uu 25 1 24,m 7 25] [23,24,25] (sd [m 26 7,ln 27 26,m 28 0,ln 29 28,bi 30 .neq 27 29] (rl [7] 26 4) (i 30 (sd [mv 4 (.c .nil),mv 5 (k 2)] [0,1,20,21,22,30] .ret) .skip)))) (d [ad 31 22 k1,m 22 31] [30,31]))))
def NQ:AFn:=⟨2,(sd [mv 4 (.c .nil),mv 5 k0] [4,5] (s (sd [m 10 0,ln 11 10,bi 12 .gtr 11 (k 8),m 13 12,g 14 13 false (.w9 1),g 15 13 false (.len 14),g 16 13 false (.w9 0),g 17 13 false (.len 16),g 18 13 false (.bin .neq 15 17),pk 19 13 kt 18] (ra 10 9) (i 19 (sd [mv 4 (.c .nil),mv 5 (k 2)] [0,1,19] .ret) .skip)) (s (sd [m 20 0,ln 21 20,mv 22 k0] [19] (b 0 (w NQ.l1))) (s (sd [m 33 0,ca 34 306 [33],m 32 34,et 35 32 0,et 36 32 1,m 8 35,m 9 36] (rl [8,20,21,22,23] 32 5) (sd [m 37 9,bi 38 .neq 37 k0] [37] (i 38 (sd [m 39 9,mv 4 (.c .nil),m 5 39] [0,1,9,38,39] .ret) .skip))) (sd [m 40 0,m 41 1,o 42 (.build [.nil,.nil] [(0,1,40),(1,1,41)]),ca 43 323 [42],et 44 43 0,et 45 43 1,m 4 44,m 5 45] (rl [0,1,9,38] 40 6) .ret))))),[.tmp 4,.tmp 5],false⟩
def Q0:AFn:=⟨3,(sd [mv 6 k0] [6] (sd [m 7 0,m 8 2,bi 9 .mul 7 8,m 10 0,m 11 0,sb 12 11 k1,bi 13 .mul 10 12,bi 14 .quo 13 (k 2),sb 15 9 14,m 16 1,ad 17 15 16,m 18 0,sb 19 17 18,m 6 19] (rl [0,1,2] 7 13) .ret)),[.tmp 6],false⟩
def JK.l4:=(s (sd [m 71 15,m 72 6,ls 73 71 72] [71,72] (i 73 .skip (x 6))) (s (b 7 (sd [m 76 14,m 77 15,o 78 (.mm false [76,77]),m 79 14,m 80 15,o 81 (.mm true [79,80]),m 82 6,ca 83 325 [78,81,82],m 16 83] (rl [73] 76 8) (e [m 84 13,m 85 16,m 86 13,m 87 16,ia 88 3 86 87,tt 89 3 88,m 90 0,m 91 11,ia 92 1 90 91,uu 93 1 92,m 94 14,ia 95 3 93 94,tt 96 3 95,m 97 0,m 98 12,ia 99 1 97 98,uu 100 1 99,m 101 15,ia 102 3 100 101,tt 103 3 102,ca 104 128 [96,103],ca 105 153 [89,104],ia 106 3 84 85,so 3 106 105] (rl [16] 84 23)))) (d [m 74 15,ad 75 74 k1,m 15 75] [74,75])))
def JK.l3:=(s (sd [m 66 14,m 67 6,ls 68 66 67] [66,67] (i 68 .skip (x 4))) (s (b 5 (sd [mv 15 k0] [68] (b 6 (w JK.l4)))) (d [m 69 14,ad 70 69 k1,m 14 70] [15,69,70,73])))
def JK.l2:=(s (sd [m 48 12,m 49 6,ls 50 48 49] [48,49] (i 50 .skip (x 2))) (s (b 3 (sd [m 53 6,m 54 6,ad 55 54 k1,bi 56 .mul 53 55,bi 57 .quo 56 (k 2),o 58 (.mk 58 3 56 z3 57 57),m 13 58] (rl [50] 53 6) (sd [m 59 13,m 60 11,m 61 12,m 62 6,ca 63 325 [60,61,62],ca 64 124 [k1],ia 65 3 59 63,so 3 65 64] (ra 59 7) (s (sp [mv 14 k0] (b 4 (w JK.l3))) (e [m 107 9,m 108 13,o 109 (.c8 109 1 [108]),o 110 (.app 110 1 24 107 109),m 111 10,m 112 1,m 113 11,ia 114 3 112 113,o 115 (.Cz true 3 114),m 116 1,m 117 12,ia 118 3 116 117,o 119 (.Cz true 3 118),ca 120 128 [115,119],o 121 (.c8 121 3 [120]),o 122 (.app 122 3 56 111 121),m 9 110,m 10 122] (rl [13,14,68] 107 16)))))) (d [m 51 12,ad 52 51 k1,m 12 52] [51,52])))
def JK.l1:=(s (sd [m 42 11,m 43 6,ls 44 42 43] [42,43] (i 44 .skip (x 0))) (s (b 1 (sd [m 47 11,m 12 47] [44,47] (b 2 (w JK.l2)))) (d [m 45 11,ad 46 45 k1,m 11 46] [12,45,46,50])))
def JK.l6:=(s (sd [m 139 21,m 140 6,ls 141 139 140] [139,140] (i 141 .skip (x 10))) (s (b 11 (e [m 144 19,m 145 20,m 146 19,m 147 20,ia 148 1 146 147,q 149 [161] (.ld false 1 148),m 150 17,m 151 20,m 152 21,o 153 (.mm false [151,152]),m 154 20,m 155 21,o 156 (.mm true [154,155]),m 157 6,ca 158 325 [153,156,157],ia 159 3 150 158,tt 160 3 159,o 161 (.c8 161 3 [160]),o 162 (.app 162 3 56 149 161),ia 163 1 144 145,so 1 163 162] (rl [141] 144 20))) (d [m 142 21,ad 143 142 k1,m 21 143] [142,143])))
def JK.l5:=(s (sd [m 134 20,m 135 6,ls 136 134 135] [134,135] (i 136 .skip (x 8))) (s (b 9 (sd [mv 21 k0] [136] (b 10 (w JK.l6)))) (d [m 137 20,ad 138 137 k1,m 20 138] [21,137,138,141])))
def JK:AFn:=⟨2,(sd [mv 4 (.c .nil),mv 5 k0] [4,5] (sd [m 22 0,ln 23 22,m 6 23] [22,23] (s (sd [m 24 6,bi 25 .gtr 24 (k 8),m 26 25,g 27 26 false (.w9 1),g 28 26 false (.len 27),g 29 26 false (.w9 6),g 30 26 false (.bin .neq 28 29),pk 31 26 kt 30] (ra 24 7) (i 31 (sd [mv 4 (.c .nil),mv 5 (k 2)] [0,1,6,31] .ret) .skip)) (s (sd [m 33 0,ca 34 314 [33],m 32 34,et 35 32 0,et 36 32 1,m 7 35,m 8 36] (rl [7] 31 6) (sd [m 37 8,bi 38 .neq 37 k0] [37] (i 38 (sd [m 39 8,mv 4 (.c .nil),m 5 39] [0,1,6,8,38,39] .ret) .skip))) (s (sd [m 40 6,bi 41 .eql 40 k0] [8,38,40] (i 41 (sd [mv 4 (.c .nil),mv 5 k0] [0,1,6,41] .ret) .skip)) (sd [o 9 (.bu 9 1)] [41] (sp [o 10 (.bu 10 3)] (s (sp [mv 11 k0] (b 0 (w JK.l1))) (sd [m 124 9,m 125 10,ca 126 327 [124,125],m 123 126,et 127 123 0,et 128 123 1,m 17 127,m 18 128] (rl [0,1,9,10,11,44] 123 6) (s (sd [m 129 18,bi 130 .neq 129 k0] [129] (i 130 (sd [m 131 18,mv 4 (.c .nil),m 5 131] [6,17,18,130,131] .ret) .skip)) (sd [m 132 6,o 133 (.mk 133 1 24 [.nil] 132 132),m 19 133] [18,130,132,133] (s (sp [mv 20 k0] (b 8 (w JK.l5))) (sd [m 164 19,m 4 164,mv 5 k0] [6,17,19,20,136,164] .ret))))))))))))),[.tmp 4,.tmp 5],false⟩
structure w8 (L:Lib):Prop extends di L,fg L,ay L,eg L,xf L,uw L where
 SZ:L 321=some F.SZ
 XM:L 322=some F.XM
 QP:L 323=some F.QP
 NQ:L 324=some F.NQ
 Q0:L 325=some F.Q0
 JK:L 326=some F.JK
def S3:AFn:=⟨1,(sd [bx 1 0,mv 2 kf] [0,2] (sd [tt 3 6 1,ca 4 130 [3],m 5 4,g 6 5 true (.dj 1 0),g 7 5 true (.ld false 1 6),g 8 5 true (.len 7),g 9 5 true (.bin .leq 8 (k 8)),pk 10 5 9 kf,m 2 10] (rl [1] 3 8) .ret)),[.tmp 2],false⟩
def QO.l2:=(sp [ls 20 19 18] (s (i 20 .skip (x 2)) (s (b 3 (sd [m 21 19,m 7 21] [20,21] (e [tt 22 3 5,m 23 0,m 24 6,ia 25 1 23 24,uu 26 1 25,m 27 7,ia 28 3 26 27,tt 29 3 28,m 30 1,m 31 6,ia 32 3 30 31,tt 33 3 32,m 34 1,m 35 7,ia 36 3 34 35,tt 37 3 36,ca 38 99 [33,37],ca 39 99 [29,38],ca 40 98 [22,39],so 3 5 40] (rl [7] 22 19)))) (d [ad 41 19 k1,m 19 41] [41]))))
def QO.l1:=(sp [ls 12 11 10] (s (i 12 .skip (x 0)) (s (b 1 (sd [m 13 11,m 6 13] [12,13] (sd [m 14 0,m 15 6,ia 16 1 14 15,uu 17 1 16,ln 18 17,mv 19 k0] (ra 14 4) (b 2 (w QO.l2))))) (d [ad 42 11 k1,m 11 42] [6,18,19,20,42]))))
def QO:AFn:=⟨2,(sp [al 4 z3] (sd [ca 8 96 [k0],al 5 z3,so 3 5 8] [8] (s (sd [m 9 0,ln 10 9,mv 11 k0] [9] (b 0 (w QO.l1))) (sd [tt 43 3 5,so 3 4 43] [0,1,5,10,11,12,43] .ret)))),[.cell 4 true 3],false⟩
def SS.l2:=(sp [ls 21 20 19] (s (i 21 .skip (x 2)) (s (b 3 (sd [m 22 20,m 8 22] [21,22] (e [tt 23 3 7,m 24 0,m 25 8,ia 26 3 24 25,tt 27 3 26,m 28 1,m 29 8,ia 30 1 28 29,uu 31 1 30,m 32 6,ia 33 3 31 32,tt 34 3 33,ca 35 99 [27,34],ca 36 98 [23,35],so 3 7 36] (rl [8] 23 14)))) (d [ad 37 20 k1,m 20 37] [37]))))
def SS.l1:=(sp [ls 15 14 13] (s (i 15 .skip (x 0)) (s (b 1 (sd [m 16 14,m 6 16] [15,16] (sd [ca 17 96 [k0],al 7 z3,so 3 7 17] [17] (s (sd [m 18 0,ln 19 18,mv 20 k0] [18] (b 2 (w SS.l2))) (d [m 38 5,m 39 6,tt 40 3 7,ia 41 3 38 39,so 3 41 40] (rl [6,7,19,20,21] 38 4)))))) (d [ad 42 14 k1,m 14 42] [42]))))
def SS:AFn:=⟨2,(sd [mv 4 (.c .nil)] [4] (sd [m 9 0,ln 10 9,o 11 (.mk 11 3 56 z3 10 10),m 5 11] [9,10,11] (s (sd [m 12 5,ln 13 12,mv 14 k0] [12] (b 0 (w SS.l1))) (sd [m 43 5,m 4 43] [0,1,5,13,14,15,43] .ret)))),[.tmp 4],false⟩
def JV.l1:=(sp [ls 49 48 47] (s (i 49 .skip (x 0)) (s (b 1 (d [m 50 8,fa 51 2 0,uu 52 1 51,ca 53 330 [50,52],m 8 53] (ra 49 5))) (d [ad 54 48 k1,m 48 54] [54]))))
def JV:AFn:=⟨2,(sd [bx 2 0,al 4 z3,mv 5 k0] [0,5] (s (sd [tt 9 6 2,ca 10 328 [9],nt 11 10] [9,10] (i 11 (sd [o 12 (.build z3 []),so 3 4 12,mv 5 (k 2)] [1,2,11,12] .ret) .skip)) (s (sd [m 13 1,ls 14 13 k0,m 15 14,g 16 15 false (.w9 1),g 17 15 false (.bin .gtr 16 (k 64)),pk 18 15 kt 17] (rl [11] 13 5) (i 18 (sd [o 19 (.build z3 []),so 3 4 19,mv 5 k1] [1,2,18,19] .ret) .skip)) (sd [fa 21 2 0,uu 22 1 21,fa 23 2 1,uu 24 1 23,ca 25 324 [22,24],m 20 25,et 26 20 0,et 27 20 1,m 6 26,m 7 27] (rl [18] 20 8) (s (sd [m 28 7,bi 29 .neq 28 k0] [28] (i 29 (sd [o 30 (.build z3 []),m 31 7,so 3 4 30,m 5 31] [1,2,6,7,29,30,31] .ret) .skip)) (s (sd [m 32 1,bi 33 .eql 32 k0] [7,29,32] (i 33 (se [fa 34 2 3,tt 35 3 34,fa 36 2 3,tt 37 3 36,ca 38 99 [35,37],m 39 6,fa 40 2 2,uu 41 1 40,ca 42 329 [39,41],ca 43 98 [38,42],so 3 4 43,mv 5 k0] (rl [1,2,6] 33 11) .ret) .skip)) (sd [fa 44 2 2,uu 45 1 44,m 8 45] [33,44,45] (s (sd [m 46 1,sb 47 46 k1,mv 48 k0] [1,46] (b 0 (w JV.l1))) (sd [m 55 6,m 56 8,ca 57 329 [55,56],so 3 4 57,mv 5 k0] [2,6,8,47,48,49,55,56,57] .ret))))))))),[.cell 4 true 3,.tmp 5],false⟩
def bP:AFn:=⟨1,(sd [bx 1 0,al 2 z3,mv 3 k0] [0,3] (sd [tt 4 6 1,ca 5 331 [4,k0],et 6 5 0,et 7 5 1,so 3 2 6,m 3 7] [1,4,5,6,7] .ret)),[.cell 2 true 3,.tmp 3],false⟩
def YE:AFn:=⟨1,(sd [bx 1 0,mv 2 kf] [0,2] (sd [tt 3 6 1,ca 4 136 [3],m 5 4,g 6 5 true (.dj 1 0),g 7 5 true (.ld false 1 6),g 8 5 true (.len 7),g 9 5 true (.bin .leq 8 (k 8)),pk 10 5 9 kf,m 2 10] (rl [1] 3 8) .ret)),[.tmp 2],false⟩
def YD:AFn:=⟨1,(sd [bx 1 0,al 2 z3,mv 3 k0] [0,3] (s (sd [tt 6 6 1,ca 7 333 [6],nt 8 7] [6,7] (i 8 (sd [o 9 (.build z3 []),so 3 2 9,mv 3 (k 2)] [1,8,9] .ret) .skip)) (sd [fa 11 1 0,uu 12 1 11,fa 13 1 1,uu 14 1 13,ca 15 326 [12,14],m 10 15,et 16 10 0,et 17 10 1,m 4 16,m 5 17] (rl [8] 10 8) (s (sd [m 18 5,bi 19 .neq 18 k0] [18] (i 19 (sd [o 20 (.build z3 []),m 21 5,so 3 2 20,m 3 21] [1,4,5,19,20,21] .ret) .skip)) (se [fa 22 1 3,tt 23 3 22,fa 24 1 3,tt 25 3 24,ca 26 128 [23,25],fa 27 1 2,uu 28 1 27,m 29 4,fa 30 1 2,uu 31 1 30,ca 32 138 [29,31],ca 33 137 [28,32],ca 34 126 [26,33],so 3 2 34,mv 3 k0] (rl [1,4,5,19] 22 13) .ret))))),[.cell 2 true 3,.tmp 3],false⟩
def QZ:AFn:=⟨2,(sd [bx 2 0,al 4 z3,mv 5 k0] [0,5] (s (sd [tt 10 6 2,ca 11 333 [10],nt 12 11] [10,11] (i 12 (sd [o 13 (.build z3 []),so 3 4 13,mv 5 (k 2)] [1,2,12,13] .ret) .skip)) (s (sd [m 14 1,ca 15 10 [14,k0,(k 64)],nt 16 15] [12,14,15] (i 16 (sd [o 17 (.build z3 []),so 3 4 17,mv 5 k1] [1,2,16,17] .ret) .skip)) (sd [tt 19 6 2,ca 20 334 [19],m 18 20,et 21 18 0,et 22 18 1,al 6 z3,so 3 6 21,m 7 22] (rl [16] 18 5) (s (sd [m 23 7,bi 24 .neq 23 k0] [23] (i 24 (sd [o 25 (.build z3 []),m 26 7,so 3 4 25,m 5 26] [1,2,6,7,24,25,26] .ret) .skip)) (sd [tt 28 6 2,m 29 1,ca 30 140 [28,29],m 27 30,et 31 27 0,et 32 27 1,m 8 31,m 9 32] (rl [1,2,7,9,24] 27 6) (se [tt 33 3 6,m 34 8,m 35 8,ca 36 137 [34,35],ca 37 153 [33,36],so 3 4 37,mv 5 k0] (rl [6,8] 33 5) .ret))))))),[.cell 4 true 3,.tmp 5],false⟩
structure w7 (L:Lib):Prop extends w8 L where
 S3:L 328=some F.S3
 QO:L 329=some F.QO
 SS:L 330=some F.SS
 JV:L 331=some F.JV
 bP:L 332=some F.bP
 YE:L 333=some F.YE
 YD:L 334=some F.YD
 QZ:L 335=some F.QZ
def bD:AFn:=⟨0,(sd [mv 0 kf] [0] (sd [ca 9 124 [k1],ca 10 125 [k1,(k 2)],al 1 z3,al 2 z3,so 3 1 9,so 3 2 10] [9,10] (se [q 12 [17,3] (.ld true 3 1),o 13 (.c8 13 3 [12]),q 14 [13,3] (.ld true 3 1),q 15 [13,3] (.ld true 3 2),q 16 [13,3] (.call 152 [15]),o 17 (.c8 17 3 [14,16]),o 18 (.build [.nil,.nil] [(0,1,13),(1,1,17)]),q 19 [3] (.call 207 [18]),m 11 19,et 20 11 0,et 21 11 1,al 3 z6,so 6 3 20,m 4 21] (rl [1,2] 11 11) (sd [tt 23 6 3,ca 24 332 [23],m 22 24,et 25 22 0,et 26 22 1,al 5 z3,so 3 5 25,m 6 26] (ra 22 5) (sd [tt 28 6 3,ca 29 331 [28,k1],m 27 29,et 30 27 0,et 31 27 1,al 7 z3,so 3 7 30,m 8 31] (rl [3] 27 5) (se [m 32 4,bi 33 .eql 32 k0,m 34 33,g 35 34 true (.w9 6),g 36 34 true (.bin .eql 35 k0),pk 37 34 36 kf,m 38 37,g 39 38 true (.w9 8),g 40 38 true (.bin .eql 39 k0),pk 41 38 40 kf,m 42 41,g 43 42 true (.ld true 3 5),g 44 42 true (.call 125 [(k 4),(k 3)]),g 45 42 true (.call 127 [43,44]),g 46 42 true (.bin .eql 45 k0),pk 47 42 46 kf,m 48 47,g 49 48 true (.ld true 3 7),g 50 48 true (.call 125 [k1,(k 3)]),g 51 48 true (.call 127 [49,50]),g 52 48 true (.bin .eql 51 k0),pk 53 48 52 kf,m 0 53] (rl [4,5,6,7,8] 32 22) .ret)))))),[.tmp 0],false⟩
structure lz (L:Lib):Prop extends w7 L where
 bD:L 336=some F.bD
def QM:AFn:=⟨2,(sd [bx 2 0,mv 4 kf] [0,4] (s (sd [fa 13 2 0,uu 14 1 13,ln 15 14,bi 16 .gtr 15 (k 2),m 17 16,g 18 17 false (.dj 2 1),g 19 17 false (.ld false 1 18),g 20 17 false (.len 19),g 21 17 false (.bin .gtr 20 (k 4)),pk 22 17 kt 21,m 23 22,g 24 23 false (.dj 2 2),g 25 23 false (.ld false 1 24),g 26 23 false (.len 25),g 27 23 false (.bin .gtr 26 (k 4)),pk 28 23 kt 27] (ra 13 15) (i 28 (sd [ca 29 336 [],m 4 29] [1,2,28,29] .ret) .skip)) (sd [fa 31 2 0,uu 32 1 31,fa 33 2 1,uu 34 1 33,ca 35 324 [32,34],m 30 35,et 36 30 0,et 37 30 1,m 5 36,m 6 37] (rl [5,28] 30 8) (sd [fa 39 2 0,uu 40 1 39,fa 41 2 1,uu 42 1 41,ca 43 326 [40,42],m 38 43,et 44 38 0,et 45 38 1,m 7 44,m 8 45] (rl [7] 38 8) (sd [tt 47 6 2,m 48 1,ca 49 331 [47,48],m 46 49,et 50 46 0,et 51 46 1,al 9 z3,so 3 9 50,m 10 51] (rl [9] 46 6) (sd [tt 53 6 2,m 54 1,ca 55 335 [53,54],m 52 55,et 56 52 0,et 57 52 1,al 11 z3,so 3 11 56,m 12 57] (rl [1,2,11] 52 6) (sd [ca 58 336 [],m 59 58,g 60 59 true (.w9 6),g 61 59 true (.w9 8),g 62 59 true (.bin .eql 60 61),pk 63 59 62 kf,m 64 63,g 65 64 true (.w9 10),g 66 64 true (.w9 12),g 67 64 true (.bin .eql 65 66),pk 68 64 67 kf,m 4 68] (rl [6,8,10,12] 58 11) .ret))))))),[.tmp 4],false⟩
structure xg (L:Lib):Prop extends lz L where
 QM:L 423=some F.QM
end Go.j4.F

namespace Go.j4
def rT:Value->AV->Bool
 | .int k n,.int k' n'=>k == k'&&n == n'
 | .bool b,.bool b'=>b == b'
 | .slice none 0 0,.nil=>true
 | .string s,.iz (.string s')=>s.data.toList == s'.data.toList
 | .nilFunc,.iz .nilFunc=>true
 | _,_=>false
def Y5:List Value->d_->Bool
 | [],[]=>true
 | v::r,a::l=>rT v a&&Y5 r l
 | _,_=>false
def yH:Value->AV->Bool
 | .agg cs,.agg l=>Y5 cs.toList l
 | v,a=>rT v a
def EI:Operand->BM->Bool
 | .tmp t,.t n=>t == n
 | .const v,.c a=>yH v a
 | .func g,.c (.fn _ _ g' [])=>g == g'
 | _,_=>false
def H4:List Operand->List BM->Bool
 | [],[]=>true
 | v::r,a::l=>EI v a&&H4 r l
 | _,_=>false
def W2:Option Operand->Option BM->Bool
 | none,none=>true
 | some x,some y=>EI x y
 | _,_=>false
section
variable (P:Program)
def eF (t:TypeId):Option Bool :=
 match P.underlying t with
 | some (.struct _)=>some true
 | some (.array _ _)=>some true
 | some _=>some false
 | none=>none
def QF (t:TypeId) (n:Nat):Bool:=match P.info? t with|some i=>i.size == n|none=>false
def lW (t:TypeId) (n:Nat):Bool:=match P.info? t with|some i=>i.bytes == n|none=>false
def iO (t:TypeId) (l:d_):Bool:=match P.info? t with|some i=>(match i.zero with|some z=>Y5 z.cells.toList l|none=>false)|none=>false
def RK (t:TypeId) (f:TypeId->Bool):Bool:=match P.underlying t with|some (.slice e)=>f e|_=>false
def Aen (t:TypeId) (i off n:Nat):Bool:=match P.underlying t with
 | some (.struct fs)=>(match fs[i]? with|some f=>f.offset == off&&QF P f.type n&&n != 0|none=>false)
 | _=>false
def Aeo (t:TypeId) (i:Nat) (agg:Bool):Bool:=match P.underlying t with
 | some (.struct fs)=>(match fs[i]? with|some f=>eF P f.type == some agg|none=>false)
 | _=>false
def gH (place:Nat->Option (Nat × Nat)):List (Nat × Operand)->List (Nat × Nat × BM)->Bool
 | [],[]=>true
 | (i,x)::r,(off,n,y)::l=>place i == some (off,n)&&EI x y&&gH place r l
 | _,_=>false
def wE (t:TypeId) (ps:List (Nat × Operand)) (kx:List (Nat × Nat × BM)):Bool:=match P.underlying t with
 | some (.struct fs)=>(match fs.toList.mapM (λ f=>(P.info? f.type).map λ i=>(f.offset,i.size)) with|some places=>gH (places.toArray[·]?) ps kx|none=>false)
 | some (.array _ e)=>(match P.info? e with|some ie=>gH (λ i=>some (i*ie.size,ie.size)) ps kx|none=>false)
 | _=>false
def fI (k:Nat):List (Nat × Operand)->List BM->Bool
 | [],[]=>true
 | (i,x)::r,y::l=>i == k&&EI x y&&fI (k+1) r l
 | _,_=>false
def fieldsI:Nat->List Field->Nat->Bool
 | k,[],n=>k == n
 | k, f :: fs, n => f.name != "_" && f.offset == k && (match P.underlying f.type with | some (.int _) => true | _ => false) && fieldsI (k + 1) fs n
def zH (t:TypeId) (n:Nat):Bool:=(match P.underlying t with|some (.struct fs)=>fieldsI P 0 fs.toList n|_=>false) && !P.stoodInHeld t && !P.eqGuardType P.depth t
def C5 (num:Nat->Nat) (op:Op):HO->Bool
 | .w9 y=>match op with | .move x=>EI x y | .assign x=>EI x y|_=>false
 | .bu _ z=>z != 0&&(match op with | .move (.const (.slice none 0 0))=>true | .assign (.const (.slice none 0 0))=>true|_=>false)
 | .pick c' a' b'=>match op with | .pick c a b=>EI c c'&&EI a a'&&EI b b'|_=>false
 | .bin Ou x' y'=>match op with | .binOp op _ x y _=>op == Ou&&EI x x'&&EI y y'|_=>false
 | .beq ne x' y'=>match op with | .binOp op t x y _=>(if ne then op == .neq else op == .eql)&&(match P.underlying t with|some .bool=>true|_=>false)&&EI x x'&&EI y y'|_=>false
 | .un Ou x'=>match op with | .unOp op _ x=>op == Ou&&EI x x'|_=>false
 | .conv k x'=>match op with | .convert s d x=>(P.underlying s).isSome&&(match P.underlying d with|some (.int k')=>k == k'|_=>false)&&EI x x'|_=>false
 | .box _ x'=>match op with | .box _ x=>EI x x'|_=>false
 | .alloc _ z=>match op with | .alloc t=>iO P t z|_=>false
 | .build z kx=>match op with | .build t ps=>iO P t z&&wE P t ps.toList kx|_=>false
 | .c8 _ a9 kx=>match op with
  | .buildSlice t n ps=>RK P t (λ e=>QF P e a9)&&a9 != 0&&n == kx.length&&decide (n*a9<=16777216)&&fI 0 ps.toList kx&&(n == 0||RK P t (λ e=>match P.info? e with|some i=>(match i.zero with|some z=>z.cells.size == a9|none=>false)|none=>false))
  | _=>false
 | .dj x' off=>match op with
  | .fieldAddr s x f=>EI x x'&&(match P.underlying s with|some (.struct fs)=>(match fs[f]? with|some fd=>fd.offset == off&&(match P.info? fd.type with|some i=>i.size != 0|none=>false)|none=>false)|_=>false)
  | _=>false
 | .zf x' off n agg=>match op with | .field t x f=>EI x x'&&Aen P t f off n&&Aeo P t f agg|_=>false
 | .cp arr a9 x' i'=>match op with
  | .indexAddr t x i=>EI x x'&&EI i i'&&(match P.underlying t,arr with|some (.array len e),some Ci=>len == Ci&&QF P e a9&&decide (1<len)|some (.slice e),none=>QF P e a9&&a9 != 0|_,_=>false)
  | _=>false
 | .ld agg n x'=>match op with | .load t x=>EI x x'&&eF P t == some agg&&(if agg then QF P t n else n == 1)|_=>false
 | .Cz agg n x'=>match op with | .load t x=>EI x x'&&eF P t == some agg&&(if agg then QF P t n else n == 1)|_=>false
 | .st n x' v'=>match op with | .store t x v=>EI x x'&&EI v v'&&QF P t n|_=>false
 | .mk _ a9 bytes z l' c'=>match op with
  | .makeSlice t l c=>EI l l'&&EI c c'&&RK P t (λ e=>QF P e a9&&lW P e bytes&&iO P e z)&&a9 != 0
  | _=>false
 | .pn a9 x' zx v5=>match op with
  | .slice t x lo hi none=>EI x x'&&W2 lo zx&&W2 hi v5&&RK P t (λ e=>QF P e a9)&&a9 != 0
  | _=>false
 | .ext x' i'=>match op with | .extract x i=>EI x x'&&i == i'|_=>false
 | .len x'=>match op with
  | .call ⟨.builtin .len,xs,ts⟩=>(match xs.toList,ts.toList with|[x],[t]=>EI x x'&&RK P t (λ_=>true)|_,_=>false)
  | _=>false
 | .mm max q7=>match op with
  | .call ⟨.builtin .min,xs,_⟩ => !max&&H4 xs.toList q7
  | .call ⟨.builtin .max,xs,_⟩=>max&&H4 xs.toList q7
  | _=>false
 | .app _ a9 bytes x' y'=>match op with
  | .call ⟨.builtin .append,xs,ts⟩=>(match xs.toList,ts.toList with
   | [x,y],[t,u]=>EI x x'&&EI y y'&&RK P t (λ e=>QF P e a9&&lW P e bytes&&(match P.info? e with|some i=>(match i.zero with|some z=>z.cells.size == a9|none=>false)|none=>false))&&a9 != 0&&RK P u (λ_=>true)
   | _,_=>false)
  | _=>false
 | .call f' q7=>match op with
  | .call ⟨.value (.func f),xs,_⟩=>f == num f'&&H4 xs.toList q7
  | _=>false
 | .j5 f' q7=>match op with
  | .call ⟨.value (.func f),xs,_⟩=>f == num f'&&H4 xs.toList q7
  | _=>false
 | .iy _ f' q7=>match op with
  | .call ⟨.value (.func f),xs,_⟩=>f == num f'&&H4 xs.toList q7
  | _=>false
 | .Cg ne x'=>match op with
  | .binOp op t x (.const (.slice none 0 0)) _=>(if ne then op == .neq else op == .eql)&&RK P t (λ_=>true)&&EI x x'
  | _=>false
 | .bad=>true
 | .mj x'=>match op with
  | .call ⟨.builtin .cap,xs,ts⟩=>(match xs.toList,ts.toList with|[x],[t]=>EI x x'&&RK P t (λ_=>true)|_,_=>false)
  | _=>false
 | .yx _ a9 bytes x' y'=>match op with
  | .call ⟨.builtin .append,xs,ts⟩=>(match xs.toList,ts.toList with
   | [x,y],[t,u]=>EI x x'&&EI y y'&&RK P t (λ e=>QF P e a9&&lW P e bytes&&(match P.info? e with|some i=>(match i.zero with|some z=>z.cells.size == a9|none=>false)|none=>false))&&a9 != 0&&(match P.underlying u with|some (.int _)=>true|_=>false)
   | _,_=>false)
  | _=>false
 | .oz tb i'=>match op with
  | .index t (.const (.string s)) i=>(match P.underlying t with|some .string=>true|_=>false)&&s.data.toList.map (λ b=>b.toNat) == tb&&EI i i'
  | _=>false
 | .Au _ f' q7=>match op with
  | .makeFunc (.func f) first xs=>f == num f'&&first.toList.isEmpty&&H4 xs.toList q7
  | _=>false
 | .Bo f' x'=>match op with
  | .makeFunc (.func f) first xs=>f == num f'&&(match first.toList with|[x]=>EI x x'|_=>false)&&xs.toList.isEmpty
  | _=>false
 | .l7 f' q7=>match op with
  | .call ⟨.value (.func f),xs,_⟩=>f == num f'&&H4 xs.toList q7
  | _=>false
 | .Bu ne n x' y'=>match op with | .binOp op t x y _=>(if ne then op == .neq else op == .eql)&&zH P t n&&EI x x'&&EI y y'|_=>false
 | .bf _ f' q7=>match op with
  | .call ⟨.value (.func f),xs,_⟩=>f == num f'&&H4 xs.toList q7
  | _=>false
 | .ym _ n x' v'=>match op with | .store t x v=>EI x x'&&EI v v'&&QF P t n|_=>false
 | .q6 x' q7=>match op with
  | .call ⟨.value x,xs,_⟩=>EI x x'&&H4 xs.toList q7
  | _=>false
def nK (ops:Array Oper):Option (Nat × Bool)->Option (Nat × Bool)->Bool
 | none,none=>true
 | some (j,b),some (t,b')=>b == b'&&(match ops[j]? with|some o=>o.dst == some t|none=>false)
 | _,_=>false
def tD (num:Nat->Nat) (N:Nat) (ops:Array Oper) (o:Oper) (a:AI):Bool :=
 o.dst == a.dst&&(match a.dst with|some d=>decide (d<N)|none=>true)&&nK ops o.guard a.guard&&C5 P num o.op a.op
def ZO (num:Nat->Nat) (N:Nat) (ops:Array Oper):List Oper->List AI->Bool
 | [],[]=>true
 | o::r,a::l=>tD P num N ops o a&&ZO num N ops r l
 | _,_=>false
def LI:HO->Bool
 | .st .. | .app .. | .j5 .. | .q6 .. => true
 | _=>false
def gV:HO->Bool
 | .ld .. | .call .. | .bf .. => true
 | _=>false
def SH (a:HO):Bool:=LI a||gV a||(ID a).isSome
def FN:BM->a_
 | .t n=>[n]
 | .c _=>[]
def Ya:Option BM->a_
 | some x=>FN x
 | none=>[]
def M4:HO->a_
 | .w9 x=>FN x
 | .bu _ _=>[]
 | .pick c a b=>FN c++FN a++FN b
 | .bin _ x y=>FN x++FN y
 | .beq _ x y=>FN x++FN y
 | .un _ x=>FN x
 | .conv _ x=>FN x
 | .box _ x=>FN x
 | .alloc _ _=>[]
 | .build _ ps=>ps.flatMap (λ p=>FN p.2.2)
 | .c8 _ _ ps=>ps.flatMap FN
 | .dj x _=>FN x
 | .zf x _ _ _=>FN x
 | .cp _ _ x i=>FN x++FN i
 | .ld _ _ x=>FN x
 | .Cz _ _ x=>FN x
 | .st _ x v=>FN x++FN v
 | .mk _ _ _ _ l c=>FN l++FN c
 | .pn _ x lo hi=>FN x++Ya lo++Ya hi
 | .ext x _=>FN x
 | .len x=>FN x
 | .mm _ xs=>xs.flatMap FN
 | .app _ _ _ x y=>FN x++FN y
 | .call _ xs=>xs.flatMap FN
 | .j5 _ xs=>xs.flatMap FN
 | .Cg _ x=>FN x
 | .oz _ x=>FN x
 | .Au _ _ xs=>xs.flatMap FN
 | .Bo _ x=>FN x
 | .q6 x xs=>FN x++xs.flatMap FN
 | .l7 _ xs=>xs.flatMap FN
 | .ym _ _ x v=>FN x++FN v
 | .bf _ _ xs=>xs.flatMap FN
 | .iy _ _ xs=>xs.flatMap FN
 | .Bu _ _ x y=>FN x++FN y
 | .bad=>[]
 | .mj x=>FN x
 | .yx _ _ _ x y=>FN x++FN y
def jZ (x:AI):a_:=M4 x.op++(match x.guard with|some (g,_)=>[g]|none=>[])++x.dst.toList
def O7 (b:Array Nat) (i j:Nat):Bool:=(b.getD (max i j) 0).testBit (min i j)
def W6 (x:AI):Option Nat:=match x.op,x.b8 with
 | .j5 _ _,[s]=>some s
 | _,_=>none
def jX (x y:AI):Bool:=match W6 x with
 | some s=>ID y.op == some s&&(!LI y.op && !gV y.op)
 | none=>false
def AfU (b:Array Nat) (x:AI) (i:Nat) (y:AI) (j:Nat):Bool :=
 i == j||O7 b i j ||
  ((match y.dst with|some t => !(jZ x).contains t|none=>true) &&
   (!LI x.op || !SH y.op||jX x y) &&
   (!gV x.op||(match ID y.op with|some s=>x.b8.contains s|none=>true)) )
def fG (ops:Array Oper) (l:List AI):Bool :=
 let b:=Region.before ops
 (l.zipIdx.all λ(x,i)=>l.zipIdx.all λ(y,j)=>AfU b x i y j&&(i == j||O7 b i j||(match ID x.op,ID y.op with|some s,some s'=>s != s'|_,_=>true))) &&
 (ops.toList.zipIdx.all λ(o,i)=>o.after.all λ e=>decide (e.on<i)||(match e.ground with | .gcOnly _=>true|_=>false)) &&
 (!Region.departs ops||(List.range ops.size).all (λ i=>(Region.linearise .gc ops 0).contains i))
def I0 (num:Nat->Nat) (N:Nat):Code->DE->Bool
 | c,.dr a _ _=>I0 num N c a
 | c',.skip=>match c' with | .skip=>true | .label _=>true|_=>false
 | c',.scope a=>match c' with | .scope c=>I0 num N c a|_=>false
 | c',.ops l Bd=>match c' with | .region _ ops draw=>draw == Bd&&ZO P num N ops ops.toList l&&(!draw||fG ops l)|_=>false
 | c',.seq a' b'=>match c' with | .seq a b=>I0 num N a a'&&I0 num N b b'|_=>false
 | c',.cond x' a' b'=>match c' with | .cond x a b=>EI x x'&&I0 num N a a'&&I0 num N b b'|_=>false
 | c',.block i' a=>match c' with | .block i c=>i == i'&&I0 num N c a|_=>false
 | c',.loop a=>match c' with | .loop c=>I0 num N c a|_=>false
 | c',.exit i'=>match c' with | .exit i=>i == i'|_=>false
 | c',.ret=>match c' with | .ret=>true|_=>false
def WC:List ResultVar->List Q7->Bool
 | [],[]=>true
 | .tmp t::r,.tmp t'::l=>t == t'&&WC r l
 | .cell a t::r,.cell a' agg n::l=>a == a'&&eF P t == some agg&&(if agg then QF P t n else n == 1)&&WC r l
 | _,_=>false
def okFn (num:Nat->Nat) (fn:Func) (a:AFn):Bool :=
 fn.params.size+fn.nfree == a.gq&&decide (a.gq<=fn.ntmps)&&WC P fn.results.toList a.res&&(match fn.body with|some c=>I0 P num fn.ntmps c a.body|none=>false)
end
end Go.j4

namespace Go.j4
abbrev BB:Nat:=4294967296
@[irreducible] def IH (a b : Nat) : Nat := (a + 18446744073709551616 - b) % 18446744073709551616
theorem iM (a b:Nat):IH a b=(a+18446744073709551616-b)%18446744073709551616:=by unfold IH;rfl
def val:a_->Nat
 | []=>0
 | d::l=>d+4294967296*val l
def CM (l:a_):Prop := ∀ d∈l,d<4294967296
def dg (n:Nat):a_:=if h:n=0 then [] else n%4294967296::dg (n/4294967296)
termination_by n
decreasing_by omega
theorem I6:dg 0=[]:=by rw[dg];simp
theorem QJ {n:Nat} (h:n≠0):dg n=n%4294967296::dg (n/4294967296):=by rw[dg];simp [h]
theorem QG:val []=0:=rfl
theorem Z5 (d:Nat) (l:a_):val (d::l)=d+4294967296*val l:=rfl
theorem EH (n:Nat):val (dg n)=n:=by
 induction n using Od with
 | ind n ih =>
  by_cases h:n=0
  ·subst h;rw[I6];rfl
  ·rw[QJ h,Z5,ih _ D']
   omega
theorem HM (n:Nat):CM (dg n):=by
 induction n using Od with
 | ind n ih =>
  by_cases h:n=0
  ·subst h;rw[I6];intro d hd;cases hd
  ·rw[QJ h]
   intro d hd;rcases Uf.1 hd with rfl|hd
   ·omega
   ·exact ih _ D' d hd
theorem CM.tail {d:Nat} {l:a_} (h:CM (d::l)):CM l:=λ x hx=>h x (List.mem_cons_of_mem _ hx)
theorem CM.head {d:Nat} {l:a_} (h:CM (d::l)):d<4294967296:=h d List.mem_cons_self
theorem CM.at {l:a_} (h:CM l) {i d:Nat} (hd:l[i]? = some d):d<4294967296:=h d (zM hd)
theorem CM.take {l:a_} (h:CM l) (n:Nat):CM (l.take n):=λ x hx=>h x (List.mem_of_mem_take hx)
theorem CM.drop {l:a_} (h:CM l) (n:Nat):CM (l.drop n):=λ x hx=>h x (List.mem_of_mem_drop hx)
theorem jL:CM []:=λ_ h=>by cases h
theorem CM.append {a b:a_} (h:CM a) (h':CM b):CM (a++b):=λ x hx=>(List.mem_append.1 hx).elim (h x) (h' x)
theorem NF {d:Nat} (h:d<4294967296):CM [d]:=λ x hx=>by simp at hx;omega
theorem CM.set {l:a_} (h:CM l) (i:Nat) {d:Nat} (hd:d<4294967296):CM (l.set i d):=λ x hx=>by
 rcases List.mem_or_eq_of_mem_set hx with h1|h1
 ·exact h x h1
 ·omega
theorem QK (n:Nat):CM (Wb n 0):=λ x hx=>by rw[(List.mem_replicate.1 hx).2];omega
theorem lD (a b:a_):val (a++b)=val a+4294967296^a.length*val b:=by
 induction a with
 | nil=>simp [val]
 | cons d l ih=>rw[List.cons_append,Z5,Z5,ih,Ub,je];grind
theorem WL (l:a_) (v:Nat):val (l++[v])=val l+4294967296^l.length*v:=by
 rw[lD];simp [val]
theorem JD {l:a_} (h:CM l):val l<4294967296^l.length:=by
 induction l with
 | nil=>simp [val]
 | cons d l ih =>
  have h1:=ih h.tail;have h2:=h.head;rw[Z5,Ub,je];omega
theorem HS {l:a_} {i v:Nat} (h:l[i]? = some v):val (l.take (i+1))=val (l.take i)+4294967296^i*v:=by
 have hi:=(zS h).1;rw[He,h,Option.toList_some,WL,Gb,Sc D']
theorem RT (l:a_) (i:Nat) (h:i<=l.length):val l=val (l.take i)+4294967296^i*val (l.drop i):=by
 have:=lD (l.take i) (l.drop i)
 rw[List.take_append_drop,Gb,Sc h]at this;exact this
theorem vB (n:Nat):val (Wb n 0)=0:=by
 induction n with
 | zero=>rfl
 | succ n ih=>rw[List.replicate_succ,Z5,ih]
theorem AlW {l:a_} (h:CM l) (ht:l=[] \/ ∃ d,l[l.length-1]? = some d/\d≠0):dg (val l)=l:=by
 induction l with
 | nil=>exact I6
 | cons d l ih =>
  have h1:=h.head;by_cases hl:l=[]
  ·subst hl
   rcases ht with ht|⟨x,hx,Cx⟩
   ·cases ht
   ·simp at hx
    subst hx;rw[Z5,QG,QJ D',show (d+4294967296*0)/4294967296=0 by omega,I6,show (d+4294967296*0)%4294967296=d by omega]
  ·have zq : ∃ x,l[l.length-1]? = some x/\x≠0:=by
    rcases ht with ht|⟨x,hx,Cx⟩
    ·cases ht
    ·refine ⟨x,?_,Cx⟩
     have:l.length≠0:=λ e=>hl (pc e)
     rw[Ub,show l.length+1-1=(l.length-1)+1 by omega,te]at hx;exact hx
   have ih':=ih h.tail (Or.inr zq);have Ef:val l≠0:=by
    intro e;rw[e,I6]at ih';exact hl ih'.symm
   rw[Z5,QJ D',show (d+4294967296*val l)/4294967296=val l by omega,ih',show (d+4294967296*val l)%4294967296=d by omega]
theorem LD {l:a_} (h:CM l) {n:Nat} (hn:n<=l.length) (hz : ∀ i,n<=i->i<l.length->l[i]? = some 0) (ht:n=0 \/ ∃ d,l[n-1]? = some d/\d≠0):l.take n=dg (val l):=by
 have hv:val l=val (l.take n):=by
  have h0:l.drop n=Wb (l.length-n) 0:=by
   apply Ge;intro i;rw[xd,List.getElem?_replicate];by_cases hi:n+i<l.length
   ·rw[hz (n+i) D' hi,if_pos D']
   ·rw[List.getElem?_eq_none D',if_neg D']
  rw[RT l n hn,h0,vB];omega
 rw[hv];refine (AlW (h.take n) ?_).symm;rcases ht with rfl|⟨d,hd,Ho⟩
 ·exact Or.inl p_
 ·have n7:=(zS hd).1
  by_cases Ic:n=0
  ·subst Ic;exact Or.inl p_
  ·refine Or.inr ⟨d,?_,Ho⟩
   rw[Gb,Sc hn,Qc,if_pos D'];exact hd
theorem WZ {n k:Nat}:(dg n).length<=k↔n<4294967296^k:=by
 induction k generalizing n with
 | zero =>
  by_cases h:n=0
  ·subst h;simp [I6]
  ·rw[QJ h];simp;omega
 | succ k ih =>
  by_cases h:n=0
  ·subst h;simp [I6];exact ud p_
  ·rw[QJ h,Ub,Nat.succ_le_succ_iff,ih,je]
   rw[Fb D']
theorem IQ {l:a_} (h:CM l):(dg (val l)).length<=l.length:=WZ.2 (JD h)
theorem xL {n:Nat} (h:n≠0) : ∃ d,(dg n)[(dg n).length-1]? = some d/\d≠0:=by
 induction n using Od with
 | ind n ih =>
  rw[QJ h];by_cases h2:n/4294967296=0
  ·rw[h2,I6]
   exact ⟨n%4294967296,p_,D'⟩
  ·obtain ⟨d,hd,Ho⟩:=ih _ D' h2
   refine ⟨d,?_,Ho⟩;have hl:(dg (n/4294967296)).length≠0:=λ e=>by rw[pc e]at hd;simp at hd
   rw[Ub,show (dg (n/4294967296)).length+1-1=(dg (n/4294967296)).length-1+1 by omega,te];exact hd
theorem xI {n:Nat}:dg n=[]↔n=0:=by
 constructor
 ·intro h
  by_cases h0:n=0
  ·exact h0
  ·rw[QJ h0]at h;cases h
 ·rintro rfl;exact I6
theorem mI {n:Nat} (h:n≠0):1<=(dg n).length:=by rw[QJ h];simp
theorem Ar6 {o:a_} {i v:Nat} (h:i<o.length):(o.set i v).take (i+1)=o.take i++[v]:=by
 rw[He,pe h,yd (Sa i)];rfl
theorem KW {o:a_} {i v:Nat} (h:i<o.length):val ((o.set i v).take (i+1))=val (o.take i)+4294967296^i*v:=by
 rw[Ar6 h,WL,Gb,Sc D']
theorem YZ (V p t:Nat):V+p*(t%4294967296)+p*4294967296*(t/4294967296)=V+p*t:=by
 have h:=Hd t 4294967296;have:p*(t%4294967296)+p*4294967296*(t/4294967296)=p*t:=by
  rw[Oc,<-fc,h]
 omega
theorem GH {l:a_} {n:Nat} (h:l.length<=n):val (l.take n)=val l:=by rw[zT h]
theorem Af3 (i:Nat):1<=4294967296^i:=ud p_
theorem M5 {l:a_} {i d:Nat} (h:l[i]? = some d):val (l.drop i)=d+4294967296*val (l.drop (i+1)):=by
 obtain ⟨hi,rfl⟩:=zS h;rw[Pc hi,Z5]
theorem uX {a b:a_} (ha:CM a) (hb:CM b) (hl:a.length=b.length) {i:Nat} {x y:Nat} (hx:a[i]? = some x) (hy:b[i]? = some y) (he:a.drop (i+1)=b.drop (i+1)) (h:x<y):val a<val b:=by
 have hia:=(zS hx).1;have Wc:=(zS hy).1;rw[RT a i D',RT b i D',M5 hx,M5 hy,he];have h1:=JD (ha.take i);rw[Gb,Sc D']at h1;generalize val (b.drop (i+1))=r;generalize 4294967296^i=p at *;have:p*(x+4294967296*r)+p<=p*(y+4294967296*r):=by
  rw[<-We];exact Sb p D'
 omega
theorem uY {o:a_} {k v old:Nat} (h:o[k]? = some old):val (o.set k v)+4294967296^k*old=val o+4294967296^k*v:=by
 have hk:=(zS h).1;have h1:val (o.set k v)=val (o.take k)+4294967296^k*(v+4294967296*val (o.drop (k+1))):=by
  rw[RT (o.set k v) k W_,yd (Sa k),M5 (l:=o.set k v) (d:=v) (by rw[pe hk]),Oe D']
 have h2:val o=val (o.take k)+4294967296^k*(old+4294967296*val (o.drop (k+1))):=by
  rw[RT o k D',M5 h]
 rw[h1,h2,fc,fc];omega
theorem oX {l:a_} (h:CM l):l.take (dg (val l)).length=dg (val l):=by
 induction l with
 | nil=>rw[QG,I6];rfl
 | cons d l ih =>
  have h1:=h.head;by_cases h0:val (d::l)=0
  ·rw[h0,I6];rfl
  ·rw[QJ h0,Z5,show (d+4294967296*val l)/4294967296=val l by omega,show (d+4294967296*val l)%4294967296=d by omega,Ub,List.take_succ_cons,ih h.tail]
theorem lE {a b:Nat} (h:(dg a).length<(dg b).length):a<b:=by
 have h1:a<4294967296^(dg a).length:=WZ.1 (Sa _);have h2 : ¬ b<4294967296^((dg b).length-1):=λ h3=>by have:=WZ.2 h3;omega
 have h3:4294967296^(dg a).length<=4294967296^((dg b).length-1):=Cc D' D';omega
end Go.j4

namespace Go.j4
section
variable {U V UL VL p u0 u1 u2 v1 v2 top q r:Nat}
theorem Apm (hU:U=UL+p*(u2+4294967296*top)) (hV:V=VL+p*(v2+4294967296*v1)) (hl:UL<p) (h2:u2<4294967296) (gi:0<V):U/V*v1<=top:=by
 have h1:U/V*V<=U:=Ke U V;generalize U/V=Q at *;have h3:U<p*(4294967296*(top+1)):=by
  have:p*(u2+4294967296*top)+p<=p*(4294967296*(top+1)):=by
   rw[<-We];exact Sb p D'
  omega
 have h4:p*(4294967296*(Q*v1))<=Q*V:=by
  have e:Q*V=Q*VL+Q*(p*v2)+p*(4294967296*(Q*v1)):=by rw[hV];grind
  omega
 have h5:p*(4294967296*(Q*v1))<p*(4294967296*(top+1)):=D'
 have:=Nat.lt_of_mul_lt_mul_left h5
 omega
theorem Apl (hU:U=UL+p*(u2+4294967296*top)) (hV:V=VL+p*(v2+4294967296*v1)) (hl:UL<p) (hq:q*v1+r=top) (h:r*4294967296+u2<q*v2) (gi:0<V):U/V<q:=by
 rw[Fb gi];have e:q*V=q*VL+p*(q*v2+4294967296*(q*v1)):=by rw[hV];grind
 have h1:p*(u2+4294967296*top)+p<=p*(q*v2+4294967296*(q*v1)):=by
  rw[<-We];exact Sb p D'
 omega
theorem Apk (h:U<4294967296*V) (hq:4294967296<=q) (gi:0<V):U/V<q:=by
 have:U/V<4294967296:=(Fb gi).2 h
 omega
theorem AeD (hU:U=UL+p*(u2+4294967296*top)) (hV:V=VL+p*(v2+4294967296*v1)) (Lo:VL<p) (h1:2147483648<=v1) (hq:q*v1+r=top) (h:q*v2<=r*4294967296+u2) (hqB:q<4294967296):q<=U/V+1:=by
 have gi:0<V:=by
  have:p*4294967296<=p*(v2+4294967296*v1):=Sb p D'
  omega
 by_cases h0:q=0
 ·subst h0;exact Nat.zero_le _
 have e:q*V=q*VL+p*(q*v2+4294967296*(q*v1)):=by rw[hV];grind
 have h2:p*(q*v2+4294967296*(q*v1))<=p*(u2+4294967296*top):=Sb p D';have h3:q*VL<V:=by
  have a1:q*VL<=4294967296*VL:=zR _ D';have a2:p*4294967296<=p*(v2+4294967296*v1):=Sb p D';omega
 have h4:(q-1)*V<U+1:=by
  have:(q-1)*V+V=q*V:=by
   have:q=q-1+1:=D'
   rw[<-Nat.succ_mul,Nat.succ_eq_add_one,<-this]
  omega
 have h5:q-1<=U/V:=(Hc gi).2 D';omega
end
theorem Ac9 {U V U' q:Nat} (gi:0<V) (h1:U/V<=q) (h:U'+q*V=U):q=U/V/\U'=U%V:=by
 have h2:q*V<=U:=D'
 have h3:q<=U/V:=(Hc gi).2 h2;have h4:q=U/V:=D'
 have:=vf U V
 rw[Vd,<-h4]at this;exact ⟨h4,D'⟩
theorem Ac8 {U V U' q P:Nat} (gi:0<V) (h2:q<=U/V+1) (Pq:U'<P) (h:U'+q*V=U+P):q-1=U/V/\1<=q/\U'+V=U%V+P:=by
 have h3:U/V*V<=U:=Ke U V;have h4:U/V<q:=by
  rcases Ve (U/V) q with h|h
  ·exact h
  ·have:q*V<=U/V*V:=zR _ h
   omega
 have h6:=vf U V;rw[Vd]at h6;generalize U/V=Q at *;generalize U%V=R at *;obtain rfl:q=Q+1:=D'
 rw[ec,Sf]at h;exact ⟨D',D',D'⟩
theorem uQ {u pl bw:Nat} (hu:u<4294967296) (hp:pl<4294967296) (hb:bw<=1):IH (IH u pl) bw%4294967296+pl+bw=u+4294967296*(IH (IH u pl) bw/9223372036854775808)/\IH (IH u pl) bw/9223372036854775808<=1:=by
 rw[iM,iM];omega
theorem AsD {d e bw:Nat} (hu:d<4294967296) (hp:e<4294967296) (hb:bw<=1):IH (IH d bw) e%4294967296+e+bw=d+4294967296*(IH (IH d bw) e/9223372036854775808)/\IH (IH d bw) e/9223372036854775808<=1:=by
 rw[iM,iM];omega
theorem AsC {d bw:Nat} (hu:d<4294967296) (hb:bw<=1):IH d bw%4294967296+bw=d+4294967296*(IH d bw/9223372036854775808)/\IH d bw/9223372036854775808<=1:=by
 rw[iM];omega
theorem Ag4 {V Y X p D e bw jb d:Nat} (h:V+Y=X+p*bw) (hd:D+e+bw=d+4294967296*jb):V+p*D+(Y+p*e)=X+p*d+p*4294967296*jb:=by
 have h2:p*D+p*e+p*bw=p*d+p*4294967296*jb:=by
  rw[<-fc,<-fc,hd,fc,Oc]
 omega
theorem kE {a b:Nat} (ha:a<4294967296) (hb:b<4294967296):a*b<=18446744065119617025 :=
 ef (show a<=4294967295 by omega) (show b<=4294967295 by omega)
theorem Adb {X Y s:Nat} (hs:0<s):X*s/(Y*s)=X/Y/\X*s%(Y*s)/s=X%Y:=by
 refine ⟨Nat.mul_div_mul_right X Y hs,?_⟩;rw[Ue,Nat.mul_div_cancel _ hs]
end Go.j4

namespace Go.j4
@[irreducible] def ZV (d s : Nat) : Nat := d * 2 ^ s % 4294967296
@[irreducible] def gX (d s : Nat) : Nat := d * 2 ^ s / 4294967296
theorem Abf (d s:Nat):ZV d s=d*2^s%4294967296:=by unfold ZV;rfl
theorem gY (d s:Nat):gX d s=d*2^s/4294967296:=by unfold gX;rfl
theorem dQ {s:Nat} (hs:s<=32):4294967296=2^s*2^(32-s):=by
 rw[<-oc,show s+(32-s)=32 by omega]
theorem Ar8 (d s:Nat):ZV d s+4294967296*gX d s=d*2^s:=by
 rw[Abf,gY];exact Hd _ _
theorem Agx {d s:Nat} (hs:s<=32):ZV d s=2^s*(d%2^(32-s)):=by
 rw[Abf,dQ hs,Vd d,Nat.mul_mod_mul_left]
theorem Agw {d s:Nat} (hs:s<=32):gX d s=d/2^(32-s):=by
 rw[gY,dQ hs,Vd d,Nat.mul_div_mul_left _ _ (Cb s)]
theorem gZ {d s:Nat} (hd:d<4294967296) (hs:s<=32):ZV d s%2^s=0/\gX d s<2^s/\ZV d s+2^s<=4294967296/\d*2^s<=18446744073709551615:=by
 refine ⟨by rw[Agx hs,Nat.mul_mod_right],?_,?_,?_⟩
 ·rw[Agw hs,Fb (Cb _),<-oc,show s+(32-s)=32 by omega];exact hd
 ·rw[Agx hs]
  have h1:d%2^(32-s)+1<=2^(32-s):=Nf _ (Cb _);have h2:=Sb (2^s) h1;rw[fc,Nat.mul_one,<-dQ hs]at h2;exact h2
 ·have h1:2^s<=2^32:=Cc D' hs
  have h2:d*2^s<=4294967295*4294967296:=ef D' h1;omega
theorem nU {s:Nat} (hs:s<=32):2^s<=4294967296:=(Cc D' hs:2^s<=2^32)
theorem Aff {V X p lo s d:Nat} (h:V+p*lo=X*2^s):V+p*(ZV d s+lo)+p*4294967296*gX d s=(X+p*d)*2^s:=by
 have h1:=Ar8 d s;have h2:p*(ZV d s+lo)+p*4294967296*gX d s=p*lo+p*(d*2^s):=by
  rw[<-h1];grind
 rw[ec,<-h,Oc p d];omega
theorem Zc {d V s:Nat} (hs:s<=32):(d+4294967296*V)/2^s=d/2^s+V%2^s*2^(32-s)+4294967296*(V/2^s):=by
 have e:4294967296*V=2^s*(2^(32-s)*V):=by rw[<-Oc,<-dQ hs]
 rw[e,Nat.add_mul_div_left _ _ (Cb s)];have h:=Hd V (2^s);have h2:2^(32-s)*V=V%2^s*2^(32-s)+4294967296*(V/2^s):=by
  have h3:2^(32-s)*V=2^(32-s)*(V%2^s+2^s*(V/2^s)):=by rw[h]
  rw[h3,dQ hs];grind
 omega
theorem Afk {d V s:Nat} (hs:s<=32):(d+4294967296*V)%2^s=d%2^s:=by
 have e:4294967296*V=2^s*(2^(32-s)*V):=by rw[<-Oc,<-dQ hs]
 rw[e,Nat.add_mul_mod_self_left]
theorem Aqz {d s:Nat} (hs:s<=32):d*2^(32-s)%4294967296=d%2^s*2^(32-s):=by
 have e:4294967296=2^s*2^(32-s):=dQ hs;rw[e,Ue]
theorem Afj {d V s:Nat} (hd:d<4294967296) (hs:s<=32):d/2^s<2^(32-s)/\V%2^s*2^(32-s)%2^(32-s)=0/\V%2^s*2^(32-s)+2^(32-s)<=4294967296:=by
 refine ⟨?_,Nat.mul_mod_left _ _,?_⟩
 ·rw[Fb (Cb _),<-oc,show 32-s+s=32 by omega];exact hd
 ·have h1:V%2^s+1<=2^s:=Nf _ (Cb _)
  have h2:=zR (2^(32-s)) h1;rw[ec,Sf,<-dQ hs]at h2;exact h2
def u7 (x:Nat):Nat:=if x=0 then 0 else x.log2+1
theorem Acu {x:Nat} (h:x≠0):2^(u7 x-1)<=x/\x<2^u7 x/\1<=u7 x:=by
 unfold u7;rw[if_neg h];exact ⟨Ae h,Be,D'⟩
theorem qN {x k:Nat} (h:x<2^k):u7 x<=k:=by
 by_cases h0:x=0
 ·subst h0;unfold u7;simp
 ·obtain ⟨h1,_,h3⟩:=Acu h0
  have h2:2^(u7 x-1)<2^k:=D'
  have:=(Nat.pow_lt_pow_iff_right D').1 h2
  omega
theorem lU {x:Nat} (n:Nat) (h:2^n<=x):u7 (x/2^n)+n=u7 x:=by
 have hp:=Cb n;have hx:x≠0:=D'
 have hq:x/2^n≠0:=by have:=Nat.div_pos h hp;omega
 unfold u7;rw[if_neg hx,if_neg hq];have:(x/2^n).log2+n=x.log2:=by
  symm
  rw[Nat.log2_eq_iff hx];have h1:=Ae hq;have h2:x/2^n<2^((x/2^n).log2+1):=Be;rw[Hc hp,<-oc]at h1;rw[Fb hp,<-oc]at h2;exact ⟨h1,by rw[show (x/2^n).log2+n+1=(x/2^n).log2+1+n by omega];exact h2⟩
 omega
theorem Zd {x:Nat} (h0:x≠0) (hx:x<4294967296):u7 x<=32/\1<=u7 x/\2147483648<=x*2^(32-u7 x)/\x*2^(32-u7 x)<4294967296:=by
 obtain ⟨h1,h2,h3⟩:=Acu h0;have hk:u7 x<=32:=qN (k:=32) hx;refine ⟨hk,h3,?_,?_⟩
 ·have:=zR (2^(32-u7 x)) h1
  rw[<-oc,show u7 x-1+(32-u7 x)=31 by omega]at this;exact this
 ·have:=Nat.mul_lt_mul_of_pos_right h2 (Cb (32-u7 x))
  rw[<-oc,show u7 x+(32-u7 x)=32 by omega]at this;exact this
def vL (a b c d:Int):Prop:=(0<=a/\b<=0/\c<=0/\0<=d)\/(a<=0/\0<=b/\0<=c/\d<=0)
structure dX (P Q a b c d p q:Int):Prop where
 hp:p=a*P+b*Q
 hq:q=c*P+d*Q
 sg:vL a b c d
 pa:0<=p+a
 pb:0<=p+b
 qc:0<=q+c
 qd:0<=q+d
theorem dX.start {P Q:Int} (hP:0<=P) (hQ:0<=Q):dX P Q 1 0 0 1 P Q :=
 ⟨D',D',Or.inl D',D',D',D',D'⟩
def lI (P Q a b c d:Int):Prop := ∀ x y K e1 e2:Int,0<K->x=K*P+e1->y=K*Q+e2->0<=e1->e1<=K->0<=e2->e2<=K ->
 0<=c*x+d*y/\c*x+d*y<a*x+b*y/\a*x+b*y<=y/\Ad (a*x+b*y) (c*x+d*y)=Ad x y
def iU (P Q a b c d:Int):Prop := ∀ x y K e1 e2:Int,0<K->x=K*P+e1->y=K*Q+e2->0<=e1->e1<=K->0<=e2->e2<=K ->
 c*x+d*y<=y/\Ad (a*x+b*y) (c*x+d*y)=Ad x y
theorem iU.start (P Q:Int):iU P Q 1 0 0 1:=by
 intro x y K e1 e2 _ _ _ _ _ _ _;simp
theorem lI.half {P Q a b c d:Int} (h:lI P Q a b c d):iU P Q a b c d:=λ x y K e1 e2 h1 h2 h3 h4 h5 h6 h7=>by
 obtain ⟨g1,g2,g3,g4⟩:=h x y K e1 e2 h1 h2 h3 h4 h5 h6 h7;exact ⟨D',g4⟩
theorem Ao6 (X Y f:Int):Ad Y (X-f*Y)=Ad X Y:=by
 rw[Int.gcd_comm X Y];exact Int.gcd_sub_mul_right_right Y X f
theorem dX.step {P Q a b c d p q f:Int} (h:dX P Q a b c d p q) (hc:q+c≠0) (hd:q+d≠0) (h1:f=(p+a)/(q+c)) (h2:f=(p+b)/(q+d)) :
  dX P Q c d (a-f*c) (b-f*d) q (p-f*q)/\0<=f/\p-f*q<q/\(iU P Q a b c d->lI P Q c d (a-f*c) (b-f*d)):=by
 have c0:0<q+c:=by have:=h.qc;omega
 have d0:0<q+d:=by have:=h.qd;omega
 have f0:0<=f:=by rw[h1];exact Int.ediv_nonneg h.pa h.qc
 have m1:p-f*q+(a-f*c)=(p+a)%(q+c):=by
  have:=Se (p+a) (q+c)
  rw[<-h1]at this;grind
 have m2:p-f*q+(b-f*d)=(p+b)%(q+d):=by
  have:=Se (p+b) (q+d)
  rw[<-h2]at this;grind
 have n1:0<=p-f*q+(a-f*c):=by rw[m1];exact ff _ hc
 have n2:0<=p-f*q+(b-f*d):=by rw[m2];exact ff _ hd
 have n3:p-f*q+(a-f*c)<q+c:=by rw[m1];exact De _ c0
 have n4:p-f*q+(b-f*d)<q+d:=by rw[m2];exact De _ d0
 have Jy:p-f*q=(a-f*c)*P+(b-f*d)*Q:=by rw[h.hp,h.hq];grind
 have Ce:vL c d (a-f*c) (b-f*d):=by
  rcases h.sg with ⟨s1,s2,s3,s4⟩|⟨s1,s2,s3,s4⟩
  ·have t1:f*c<=0:=cd f0 s3
   have t2:0<=f*d:=uc f0 s4;exact Or.inr D'
  ·have t1:0<=f*c:=uc f0 s3
   have t2:f*d<=0:=cd f0 s4;exact Or.inl D'
 have n7:p-f*q<q:=by
  rcases Ce with ⟨s1,s2,s3,s4⟩|⟨s1,s2,s3,s4⟩
  ·omega
  ·omega
 refine ⟨⟨h.hq,Jy,Ce,h.qc,h.qd,n1,n2⟩,f0,n7,λ hh => ?_⟩;intro x y K e1 e2 hK hx hy a1 a2 b1 b2;obtain ⟨k1,k2⟩:=hh x y K e1 e2 hK hx hy a1 a2 b1 b2;have eY:c*x+d*y=K*q+c*e1+d*e2:=by rw[hx,hy,h.hq];grind
 have eX:(a-f*c)*x+(b-f*d)*y=K*(p-f*q)+(a-f*c)*e1+(b-f*d)*e2:=by rw[hx,hy,Jy];grind
 have eS:(a-f*c)*x+(b-f*d)*y=(a*x+b*y)-f*(c*x+d*y):=v_
 generalize hE:a-f*c=E at *;generalize hG:b-f*d=G at *;generalize Gd:p-f*q=q2 at *;have key:0<=E*x+G*y/\E*x+G*y<c*x+d*y:=by
  rw[eX,eY];rcases Ce with ⟨s1,s2,s3,s4⟩|⟨s1,s2,s3,s4⟩
  ·-- c≥0,d<=0,E<=0,G≥0
   have t1:E*K<=E*e1:=Sd s3 a2;have t2:0<=G*e2:=uc s4 b1;have t3:0<=K*(q2+E):=uc D' n1;have t4:(G-d)*e2<=(G-d)*K:=Qd b2 D';have t5:(E-c)*e1<=0:=td D' a1;have t6:0<K*((q+d)-(q2+G)):=Qf hK D';constructor
   ·grind
   ·grind
  ·have t1:G*K<=G*e2:=Sd s4 b2
   have t2:0<=E*e1:=uc s3 a1;have t3:0<=K*(q2+G):=uc D' n2;have t4:(E-c)*e1<=(E-c)*K:=Qd a2 D';have t5:(G-d)*e2<=0:=td D' b1;have t6:0<K*((q+c)-(q2+E)):=Qf hK D';constructor
   ·grind
   ·grind
 refine ⟨key.1,key.2,k1,?_⟩;rw[<-k2,eS];exact Ao6 _ _ _
end Go.j4







































namespace Go.j4
open Go.RowKit
theorem M8 (b o n:Nat):(⟨b,o,none⟩:Addr).add n=⟨b,o+n,none⟩:=by
 unfold Addr.add;split<;>simp_all
inductive Rd (w:World) (R:Bool->Nat->Prop):AV->Value->Prop
 | int (k:IntKind) (n:Int):Rd w R (.int k n) (.int k n)
 | bool (b:Bool):Rd w R (.bool b) (.bool b)
 | str (s:ByteArray):Rd w R (.iz (.string s)) (.string s)
 | vz:Rd w R (.iz .nilFunc) .nilFunc
 | sj (l:Bool) (a:Option Addr) (cap:Nat):Rd w R (.sl l []) (.slice a 0 cap)
 | emp (b:Bool) (a:Option Addr) (cap:Nat) (h:a.isNone=b):Rd w R (.iz (.bool b)) (.slice a 0 cap)
 | sl (l:Bool) (es:c_) (b o a9 cap:Nat) (u:Nat->Nat->Value) (n6:es≠[]) (hp:0<a9) (hR:R l b) (fk:es.length<=cap) (hz : ∀ e∈es,e.length=a9)
   (hc : ∀ i e,es[i]? = some e -> ∀ j c,e[j]? = some c->w.cell? ⟨b,o+(i*a9+j),none⟩=some (u i j))
   (hr : ∀ i e,es[i]? = some e -> ∀ j c,e[j]? = some c->Rd w R c (u i j)) :
   Rd w R (.sl l es) (.slice (some ⟨b,o,none⟩) es.length cap)
theorem Rd.one {w:World} {R:Bool->Nat->Prop} {a:AV} {v:Value} (h:Rd w R a v):v.oneCell'=true:=by
 cases h<;>rfl
theorem eI {w:World} {a:Addr} {u:Value} (h:w.cell? a=some u):a.block<w.heap.size:=by
 unfold World.cell? at h;split at h
 ·rename_i hh
  exact (Wa.1 hh).1
 ·cases h
theorem mY {es:c_} {a9:Nat} (n6:es≠[]) (hp:0<a9) (hz : ∀ e∈es,e.length=a9) : ∃ e c,es[0]? = some e/\e[0]? = some c:=by
 cases es with
 | nil=>exact absurd rfl n6
 | cons e r =>
  have:=hz e p_
  cases e with
  | nil=>simp at this;omega
  | cons c q=>exact ⟨c::q,c,rfl,rfl⟩
theorem Rd.mono {w w':World} {R R':Bool->Nat->Prop} (hR : ∀ l b,b<w.heap.size->R l b->R' l b)
  (hw : ∀ l b,b<w.heap.size->R l b->w'.heap[b]? = w.heap[b]?) {a:AV} {v:Value} (h:Rd w R a v):Rd w' R' a v:=by
 induction h with
 | int k n=>exact .int k n
 | bool b=>exact .bool b
 | str s=>exact .str s
 | vz=>exact .vz
 | sj l a cap=>exact .sj l a cap
 | emp b a cap h=>exact .emp b a cap h
 | sl l es b o a9 cap u n6 hp h1 fk hz hc hr ih =>
  obtain ⟨e,c,he,qf⟩:=mY n6 hp hz;have hb:b<w.heap.size:=eI (hc 0 e he 0 c qf);refine .sl l es b o a9 cap u n6 hp (hR l b hb h1) fk hz (λ i e he j c Hn => ?_) ih;rw[World.cell?_of_block (w:=w) (hw l b hb h1)];exact hc i e he j c Hn
structure M where
 ν:Nat->Nat->Option Nat
 own:BF
 w:World
section
variable (B:Nat) (S:Nat->Prop)
def safe (m:M) (l:Bool) (b:Nat):Prop :=
 (S b/\b<B)\/(B<=b /\ ∀ s t,(m.own.get s t).isSome=true->m.ν s t≠some b)\/(l=true/\b<B)
inductive CC (m:M):AV->Value->Prop
 | rd {a:AV} {v:Value} (h:Rd m.w (safe B S m) a v):CC m a v
 | nil:CC m .nil (.slice none 0 0)
 | row (s t z off len:Nat) (a:Option Addr) (cap:Nat) (ht:t<m.own.j8 s) (jt:0<z) (wu:len<=cap) (ha:0<len->a.isSome=true)
   (h : ∀ b,m.own.get s t=some b->b.a9=z/\((len=0/\cap=0) \/ ∃ g arr e,m.ν s t=some g/\a=some ⟨g,off*z,none⟩/\m.w.heap[g]? = some (.cells arr e (0,0))/\(off+cap)*z<=arr.size)) :
   CC m (.row s t z off len) (.slice a len cap)
 | ptr (s t i j:Nat) (a:Addr) (ht:t<m.own.j8 s) (h : ∀ b,m.own.get s t=some b -> ∃ g,m.ν s t=some g/\a=⟨g,i*b.a9+j,none⟩):CC m (.ptr s t i j) (.pointer (some a))
 | af (cs:d_) (b o:Nat) (u:Nat->Value) (l:Bool) (hR:cs≠[]->safe B S m l b) (hc : ∀ j c,cs[j]? = some c->m.w.cell? ⟨b,o+j,none⟩=some (u j)) (hr : ∀ j c,cs[j]? = some c->Rd m.w (safe B S m) c (u j)) :
   CC m (.af cs) (.pointer (some ⟨b,o,none⟩))
def CL (m:M) (cs:d_) (vs:List Value):Prop:=cs.length=vs.length /\ ∀ (j:Nat) (c:AV) (v:Value),cs[j]? = some c->vs[j]? = some v->CC B S m c v
inductive CA (m:M):AV->Value->Prop
 | one {a:AV} {v:Value} (h:CC B S m a v):CA m a v
 | agg (cs:d_) (vs:List Value) (h:CL B S m cs vs):CA m (.agg cs) (.agg vs.toArray)
 | fn (p:Bool) (f g:Nat) (cs:d_) (vs:List Value) (hp:p=true->cs=[]) (h:CL B S m cs vs):CA m (.fn p f g cs) (.func (.func g) #[] vs.toArray)
 | Cm (f g:Nat) (cs:d_) (vs:List Value) (hp:cs≠[]) (h:CL B S m cs vs):CA m (.fn true f g cs) (.func (.func g) #[.agg vs.toArray] #[])
inductive CV (m:M):AV->Value->Prop
 | any (v:Value):CV m .any v
 | ca {a:AV} {v:Value} (h:CA B S m a v):CV m a v
 | e9 (as:d_) (vs:List Value) (hl:as.length=vs.length) (h : ∀ (j:Nat) (c:AV) (v:Value),as[j]? = some c->vs[j]? = some v->CA B S m c v):CV m (.e9 as) (.tuple vs.toArray)
def AiJ (m:M) (s t:Nat) (b:HU):Prop :=
 (∀ e∈b.es,e.length=b.a9)/\match m.ν s t with
  | none=>b.es=[]
  | some g=>B<=g /\ ∃ arr e,m.w.heap[g]? = some (.cells arr e (0,0)) /\
    ∀ i cs,b.es[i]? = some cs -> ∀ j c,cs[j]? = some c -> ∃ u,arr[i*b.a9+j]? = some u/\CC B S m c u
structure DR (w0:World) (m:M):Prop where
 below:Below B w0 m.w
 size:B<=m.w.heap.size
 fresh : ∀ s t,m.own.j8 s<=t->m.own.get s t=none
 g8 : ∀ s t b,m.own.get s t=some b->AiJ B S m s t b
 inj : ∀ s t s' t' b b' g,m.own.get s t=some b->m.own.get s' t'=some b'->m.ν s t=some g->m.ν s' t'=some g->s=s'/\t=t'
structure GY (m m':M):Prop where
 size:m.w.heap.size<=m'.w.heap.size
 Fc : ∀ b,b<m.w.heap.size->safe B S m true b->m'.w.heap[b]? = m.w.heap[b]?
 Kt : ∀ l b,b<m.w.heap.size->safe B S m l b->safe B S m' l b
 j8 : ∀ s,m.own.j8 s<=m'.own.j8 s
 name : ∀ s t b',t<m.own.j8 s->m'.own.get s t=some b' -> ∃ b,m.own.get s t=some b/\b'.a9=b.a9/\m'.ν s t=m.ν s t /\
   ∀ g arr e,m.ν s t=some g->m.w.heap[g]? = some (.cells arr e (0,0)) -> ∃ cg,m'.w.heap[g]? = some (.cells cg e (0,0))/\cg.size=arr.size
end
section
variable {B:Nat} {S:Nat->Prop}
theorem Xh {m:M} {l:Bool} {b:Nat} (h:safe B S m l b):safe B S m true b:=by
 rcases h with h|h|⟨_,h⟩
 ·exact .inl h
 ·exact .inr (.inl h)
 ·exact .inr (.inr ⟨rfl,h⟩)
theorem GY.rd {m m':M} (h:GY B S m m') {a:AV} {v:Value} (hr:Rd m.w (safe B S m) a v):Rd m'.w (safe B S m') a v :=
 hr.mono h.Kt (λ_ b hb hs=>h.Fc b hb (Xh hs))
theorem GY.cc {m m':M} (h:GY B S m m') {a:AV} {v:Value} (hc:CC B S m a v):CC B S m' a v:=by
 cases hc with
 | rd hr=>exact .rd (h.rd hr)
 | nil=>exact .nil
 | row s t z off len a cap ht jt wu ha hb =>
  refine .row s t z off len a cap (xc ht (h.j8 s)) jt wu ha λ b' m9 => ?_
  obtain ⟨b,h1,h2,h3,h4⟩:=h.name s t b' ht m9;obtain ⟨hz,gn⟩:=hb b h1;refine ⟨h2.trans hz,?_⟩;rcases gn with h0|⟨g,arr,e,hg,ve,hh,hle⟩
  ·exact .inl h0
  ·obtain ⟨cg,ha',Cd⟩:=h4 g arr e hg hh
   exact .inr ⟨g,cg,e,h3.trans hg,ve,ha',Cd ▸ hle⟩
 | ptr s t i j a ht hb =>
  refine .ptr s t i j a (xc ht (h.j8 s)) λ b' m9 => ?_
  obtain ⟨b,h1,h2,h3,_⟩:=h.name s t b' ht m9;obtain ⟨g,hg,ve⟩:=hb b h1;exact ⟨g,h3.trans hg,h2 ▸ ve⟩
 | af cs b o u l hR hc hr =>
  have n7:cs≠[]->b<m.w.heap.size:=λ n6=>by
   cases cs with
   | nil=>exact absurd rfl n6
   | cons c r=>exact eI (hc 0 c rfl)
  refine .af cs b o u l (λ n6=>h.Kt l b (n7 n6) (hR n6)) (λ j c hj => ?_) (λ j c hj=>h.rd (hr j c hj));have n6:cs≠[]:=λ e=>by subst e;simp at hj
  rw[World.cell?_of_block (w:=m.w) (h.Fc b (n7 n6) (Xh (hR n6)))];exact hc j c hj
theorem GY.cl {m m':M} (h:GY B S m m') {cs:d_} {vs:List Value} (hc:CL B S m cs vs):CL B S m' cs vs :=
 ⟨hc.1,λ j c v h1 h2=>h.cc (hc.2 j c v h1 h2)⟩
theorem GY.ca {m m':M} (h:GY B S m m') {a:AV} {v:Value} (hc:CA B S m a v):CA B S m' a v:=by
 cases hc with
 | one hc=>exact .one (h.cc hc)
 | agg cs vs hc=>exact .agg cs vs (h.cl hc)
 | fn p f g cs vs hp hc=>exact .fn p f g cs vs hp (h.cl hc)
 | Cm f g cs vs hp hc=>exact .Cm f g cs vs hp (h.cl hc)
theorem GY.cv {m m':M} (h:GY B S m m') {a:AV} {v:Value} (hc:CV B S m a v):CV B S m' a v:=by
 cases hc with
 | any v=>exact .any v
 | ca hc=>exact .ca (h.ca hc)
 | e9 as vs hl hc=>exact .e9 as vs hl λ j c v h1 h2=>h.ca (hc j c v h1 h2)
theorem GY.refl (m:M):GY B S m m :=
 ⟨Sa _,λ_ _ _=>rfl,λ_ _ _ h=>h,λ_=>Sa _,λ_ _ b' _ h=>⟨b',h,rfl,rfl,λ_ arr _ _ h=>⟨arr,h,rfl⟩⟩⟩
theorem GY.trans {m m' m'':M} (h:GY B S m m') (k:GY B S m' m''):GY B S m m'' where
 size:=Ud h.size k.size
 Fc b hb hs:=(k.Fc b (xc hb h.size) (h.Kt true b hb hs)).trans (h.Fc b hb hs)
 Kt l b hb hs:=k.Kt l b (xc hb h.size) (h.Kt l b hb hs)
 j8 s:=Ud (h.j8 s) (k.j8 s)
 name s t b'' ht AtS:=by
  obtain ⟨b',h1,h2,h3,h4⟩:=k.name s t b'' (xc ht (h.j8 s)) AtS;obtain ⟨b,g1,g2,g3,g4⟩:=h.name s t b' ht h1;refine ⟨b,g1,h2.trans g2,h3.trans g3,λ g arr e hg ha => ?_⟩;obtain ⟨cg,ha',Cd⟩:=g4 g arr e hg ha;obtain ⟨Re,AtN,AuS⟩:=h4 g cg e (g3.trans hg) ha';exact ⟨Re,AtN,AuS.trans Cd⟩
theorem CC.one {m:M} {a:AV} {v:Value} (h:CC B S m a v):v.oneCell'=true:=by
 cases h with
 | rd h=>exact h.one
 | _=>rfl
end
end Go.j4

namespace Go.j4
open Go.RowKit
section
variable {B:Nat} {S:Nat->Prop} {w0:World}
def live (m:M) (s t:Nat):Prop := ∃ b,m.own.get s t=some b
theorem DR.ge {m:M} (h:DR B S w0 m) {s t g:Nat} (hl:live m s t) (hg:m.ν s t=some g):B<=g /\ ∃ arr e,m.w.heap[g]? = some (.cells arr e (0,0)):=by
 obtain ⟨b,hb⟩:=hl;obtain ⟨_,h2⟩:=h.g8 s t b hb;rw[hg]at h2;obtain ⟨h3,arr,e,h4,_⟩:=h2;exact ⟨h3,arr,e,h4⟩
theorem fP {m m':M} (hm:DR B S w0 m) (hs:m.w.heap.size<=m'.w.heap.size)
  (hk : ∀ b,b<m.w.heap.size->(∀ s t,live m s t->m.ν s t≠some b)->m'.w.heap[b]? = m.w.heap[b]?) (Mi : ∀ s,m.own.j8 s<=m'.own.j8 s)
  (Tn : ∀ s t b',t<m.own.j8 s->m'.own.get s t=some b' -> ∃ b,m.own.get s t=some b/\b'.a9=b.a9/\m'.ν s t=m.ν s t /\
   ∀ g arr e,m.ν s t=some g->m.w.heap[g]? = some (.cells arr e (0,0)) -> ∃ cg,m'.w.heap[g]? = some (.cells cg e (0,0))/\cg.size=arr.size)
  (vm : ∀ s t g,live m' s t->m'.ν s t=some g->g<m.w.heap.size -> ∃ s0 t0,live m s0 t0/\m.ν s0 t0=some g):GY B S m m':=by
 have Nm : ∀ b,safe B S m true b -> ∀ s t,live m s t->m.ν s t≠some b:=by
  intro b hb s t hl hg;have vi:=(hm.ge hl hg).1;rcases hb with ⟨_,h⟩|⟨_,h⟩|⟨_,h⟩
  ·omega
  ·obtain ⟨b',m9⟩:=hl
   exact h s t (by simp [m9]) hg
  ·omega
 refine ⟨hs,λ b hb Ej=>hk b hb (Nm b Ej),λ l b hb Ej => ?_,Mi,Tn⟩;rcases Ej with h|⟨h,hn⟩|h
 ·exact .inl h
 ·refine .inr (.inl ⟨h,λ s t hl hg => ?_⟩)
  obtain ⟨b',m9⟩:=Ed.1 hl;obtain ⟨s0,t0,⟨b0,Bg⟩,Fy⟩:=vm s t b ⟨b',m9⟩ hg hb;exact hn s0 t0 (by simp [Bg]) Fy
 ·exact .inr (.inr h)
theorem grow {m:M} (hm:DR B S w0 m) {w':World} (hb:Below m.w.heap.size m.w w') :
  DR B S w0 ⟨m.ν,m.own,w'⟩/\GY B S m ⟨m.ν,m.own,w'⟩:=by
 have he:GY B S m ⟨m.ν,m.own,w'⟩:=by
  refine fP hm hb.size (λ b m9 _=>hb.block b m9) (λ_=>Sa _) (λ s t b' _ m9=>⟨b',m9,rfl,rfl,λ g arr e hg ha=>⟨arr,?_,rfl⟩⟩) (λ s t g hl hg _=>⟨s,t,hl,hg⟩);have:g<m.w.heap.size:=(Wa.1 ha).1
  exact (hb.block g this).trans ha
 refine ⟨⟨hm.below.trans (hb.mono hm.size),Ud hm.size hb.size,hm.fresh,λ s t b hg => ?_,hm.inj⟩,he⟩;obtain ⟨h1,h2⟩:=hm.g8 s t b hg;refine ⟨h1,?_⟩;show match m.ν s t with|none=>_|some g=>_
 cases hν:m.ν s t with
 | none=>rw[hν]at h2;exact h2
 | some g =>
  rw[hν]at h2;obtain ⟨h3,arr,e,h4,h5⟩:=h2;refine ⟨h3,arr,e,?_,λ i cs hi j c hj => ?_⟩
  ·exact (hb.block g (Wa.1 h4).1).trans h4
  ·obtain ⟨u,hu,fe⟩:=h5 i cs hi j c hj
   exact ⟨u,hu,he.cc fe⟩
theorem K2 (o:BF) (s s' t':Nat) (b:HU):(o.put s ((o s).new b)).get s' t'=if s'=s/\t'=o.j8 s then some b else o.get s' t':=by
 unfold BF.get BF.put EV.new BF.j8;by_cases h:s'=s
 ·subst h
  by_cases h2:t'=(o s').j8<;>simp [h2]
 ·simp [h]
theorem V0 (o:BF) (s s':Nat) (b:HU):(o.put s ((o s).new b)).j8 s'=if s'=s then o.j8 s+1 else o.j8 s':=by
 unfold BF.j8 BF.put EV.new;by_cases h:s'=s<;>simp [h]
theorem nE (o:BF) (s t s' t':Nat) (b:Option HU):(o.put s ((o s).v9 t b)).get s' t'=if s'=s/\t'=t then b else o.get s' t':=by
 unfold BF.get BF.put EV.v9;by_cases h:s'=s
 ·subst h
  by_cases h2:t'=t<;>simp [h2]
 ·simp [h]
theorem AcV (o:BF) (s t s':Nat) (b:Option HU):(o.put s ((o s).v9 t b)).j8 s'=o.j8 s':=by
 unfold BF.j8 BF.put EV.v9;by_cases h:s'=s<;>simp [h]
def k6 (m:M) (s:Nat) (g:Option Nat):Nat->Nat->Option Nat:=λ s' t'=>if s'=s/\t'=m.own.j8 s then g else m.ν s' t'
theorem sX {m:M} (hm:DR B S w0 m) (s:Nat) : ¬ live m s (m.own.j8 s):=λ⟨b,hb⟩=>by
 rw[hm.fresh s _ (Sa _)]at hb;cases hb
theorem qM {m:M} (hm:DR B S w0 m) (s:Nat) (b:HU) (arr:Array Value) (e:TypeId) (hz : ∀ x∈b.es,x.length=b.a9)
  (hc : ∀ i cs,b.es[i]? = some cs -> ∀ j c,cs[j]? = some c -> ∃ u,arr[i*b.a9+j]? = some u/\CC B S m c u) :
  DR B S w0 ⟨k6 m s (some m.w.heap.size),m.own.put s ((m.own s).new b),m.w.alloc (.cells arr e)⟩ /\
  GY B S m ⟨k6 m s (some m.w.heap.size),m.own.put s ((m.own s).new b),m.w.alloc (.cells arr e)⟩:=by
 have cz:(m.w.alloc (.cells arr e)).heap.size=m.w.heap.size+1:=p_
 have hν : ∀ s' t',live m s' t'->k6 m s (some m.w.heap.size) s' t'=m.ν s' t':=λ s' t' hl=>by
  unfold k6;rw[if_neg];rintro ⟨rfl,rfl⟩
  exact sX hm _ hl
 have he:GY B S m ⟨k6 m s (some m.w.heap.size),m.own.put s ((m.own s).new b),m.w.alloc (.cells arr e)⟩:=by
  refine fP hm (by rw[cz];omega) (λ k hk _=>Below.heap_alloc _ _ _ hk) (λ s' => ?_) (λ s' t' b' ht m9 => ?_) (λ s' t' g hl hg n7 => ?_)
  ·rw[V0];split
   ·rename_i h;subst h;omega
   ·exact Sa _
  ·rw[K2]at m9
   rw[if_neg (by rintro ⟨rfl,rfl⟩;omega)]at m9;refine ⟨b',m9,rfl,hν s' t' ⟨b',m9⟩,λ g ar e' hg ha=>⟨ar,?_,rfl⟩⟩;exact (Below.heap_alloc _ _ _ (Wa.1 ha).1).trans ha
  ·obtain ⟨b',m9⟩:=hl
   have ag:=m9;rw[K2]at m9;by_cases h:s'=s/\t'=m.own.j8 s
   ·simp only[k6,if_pos h,yc]at hg
    omega
   ·rw[if_neg h]at m9
    exact ⟨s',t',⟨b',m9⟩,by rw[<-hν s' t' ⟨b',m9⟩];exact hg⟩
 refine ⟨⟨hm.below.alloc hm.size _,by rw[cz];have:=hm.size;omega,λ s' t' ht => ?_,λ s' t' b' m9 => ?_,λ s1 t1 s2 t2 b1 b2 g h1 h2 g1 g2 => ?_⟩,he⟩
 ·rw[V0]at ht
  rw[K2,if_neg]
  ·refine hm.fresh s' t' ?_
   split at ht
   ·rename_i h;subst h;omega
   ·exact ht
  ·rintro ⟨rfl,rfl⟩
   simp at ht;omega
 ·rw[K2]at m9
  by_cases h:s'=s/\t'=m.own.j8 s
  ·rw[if_pos h]at m9
   obtain rfl:b=b':=by simpa using m9
   refine ⟨hz,?_⟩;show match k6 m s (some m.w.heap.size) s' t' with|none=>_|some g=>_
   rw[show k6 m s (some m.w.heap.size) s' t'=some m.w.heap.size by simp [k6,h]];refine ⟨hm.size,arr,e,heap_alloc_new _ _,λ i cs hi j c hj => ?_⟩;obtain ⟨u,hu,fe⟩:=hc i cs hi j c hj;exact ⟨u,hu,he.cc fe⟩
  ·rw[if_neg h]at m9
   obtain ⟨h1,h2⟩:=hm.g8 s' t' b' m9;refine ⟨h1,?_⟩;show match k6 m s (some m.w.heap.size) s' t' with|none=>_|some g=>_
   rw[hν s' t' ⟨b',m9⟩];cases hv:m.ν s' t' with
   | none=>rw[hv]at h2;exact h2
   | some g =>
    rw[hv]at h2;obtain ⟨h3,ar,e',h4,h5⟩:=h2;refine ⟨h3,ar,e',(Below.heap_alloc _ _ _ (Wa.1 h4).1).trans h4,λ i cs hi j c hj => ?_⟩;obtain ⟨u,hu,fe⟩:=h5 i cs hi j c hj;exact ⟨u,hu,he.cc fe⟩
 ·rw[K2]at h1 h2
  have lt : ∀ s' t' b',m.own.get s' t'=some b'->k6 m s (some m.w.heap.size) s' t'=some g->g<m.w.heap.size:=λ s' t' b' hb hg=>by
   rw[hν s' t' ⟨b',hb⟩]at hg;obtain ⟨_,ar,e',h4⟩:=hm.ge ⟨b',hb⟩ hg;exact (Wa.1 h4).1
  have at_ : ∀ s' t',s'=s/\t'=m.own.j8 s->k6 m s (some m.w.heap.size) s' t'=some g->g=m.w.heap.size:=λ s' t' h hg=>by
   simp only[k6,if_pos h,yc]at hg;exact hg.symm
  by_cases p1:s1=s/\t1=m.own.j8 s<;>by_cases p2:s2=s/\t2=m.own.j8 s
  ·exact ⟨p1.1.trans p2.1.symm,p1.2.trans p2.2.symm⟩
  ·rw[if_neg p2]at h2
   have:=lt s2 t2 b2 h2 g2
   have:=at_ s1 t1 p1 g1
   omega
  ·rw[if_neg p1]at h1
   have:=lt s1 t1 b1 h1 g1
   have:=at_ s2 t2 p2 g2
   omega
  ·rw[if_neg p1]at h1
   rw[if_neg p2]at h2;exact hm.inj s1 t1 s2 t2 b1 b2 g h1 h2 (by rw[<-hν s1 t1 ⟨b1,h1⟩];exact g1) (by rw[<-hν s2 t2 ⟨b2,h2⟩];exact g2)
theorem Ahs {m:M} (hm:DR B S w0 m) (s a9:Nat) :
  DR B S w0 ⟨k6 m s none,m.own.put s ((m.own s).new ⟨a9,[]⟩),m.w⟩/\GY B S m ⟨k6 m s none,m.own.put s ((m.own s).new ⟨a9,[]⟩),m.w⟩:=by
 have hν : ∀ s' t',live m s' t'->k6 m s none s' t'=m.ν s' t':=λ s' t' hl=>by
  unfold k6;rw[if_neg];rintro ⟨rfl,rfl⟩
  exact sX hm _ hl
 have he:GY B S m ⟨k6 m s none,m.own.put s ((m.own s).new ⟨a9,[]⟩),m.w⟩:=by
  refine fP hm (Sa _) (λ k hk _=>rfl) (λ s' => ?_) (λ s' t' b' ht m9 => ?_) (λ s' t' g hl hg n7 => ?_)
  ·rw[V0];split
   ·rename_i h;subst h;omega
   ·exact Sa _
  ·rw[K2]at m9
   rw[if_neg (by rintro ⟨rfl,rfl⟩;omega)]at m9;exact ⟨b',m9,rfl,hν s' t' ⟨b',m9⟩,λ g ar e' hg ha=>⟨ar,ha,rfl⟩⟩
  ·obtain ⟨b',m9⟩:=hl
   rw[K2]at m9;by_cases h:s'=s/\t'=m.own.j8 s
   ·simp [k6,if_pos h]at hg
   ·rw[if_neg h]at m9
    exact ⟨s',t',⟨b',m9⟩,by rw[<-hν s' t' ⟨b',m9⟩];exact hg⟩
 refine ⟨⟨hm.below,hm.size,λ s' t' ht => ?_,λ s' t' b' m9 => ?_,λ s1 t1 s2 t2 b1 b2 g h1 h2 g1 g2 => ?_⟩,he⟩
 ·rw[V0]at ht
  rw[K2,if_neg]
  ·refine hm.fresh s' t' ?_
   split at ht
   ·rename_i h;subst h;omega
   ·exact ht
  ·rintro ⟨rfl,rfl⟩
   simp at ht;omega
 ·rw[K2]at m9
  by_cases h:s'=s/\t'=m.own.j8 s
  ·rw[if_pos h]at m9
   obtain rfl:(⟨a9,[]⟩:HU)=b':=by simpa using m9
   refine ⟨p_,?_⟩;show match k6 m s none s' t' with|none=>_|some g=>_
   rw[show k6 m s none s' t'=none by simp [k6,h]]
  ·rw[if_neg h]at m9
   obtain ⟨h1,h2⟩:=hm.g8 s' t' b' m9;refine ⟨h1,?_⟩;show match k6 m s none s' t' with|none=>_|some g=>_
   rw[hν s' t' ⟨b',m9⟩];cases hv:m.ν s' t' with
   | none=>rw[hv]at h2;exact h2
   | some g =>
    rw[hv]at h2;obtain ⟨h3,ar,e',h4,h5⟩:=h2;refine ⟨h3,ar,e',h4,λ i cs hi j c hj => ?_⟩;obtain ⟨u,hu,fe⟩:=h5 i cs hi j c hj;exact ⟨u,hu,he.cc fe⟩
 ·rw[K2]at h1 h2
  by_cases p1:s1=s/\t1=m.own.j8 s
  ·simp [k6,if_pos p1]at g1
  ·by_cases p2:s2=s/\t2=m.own.j8 s
   ·simp [k6,if_pos p2]at g2
   ·rw[if_neg p1]at h1
    rw[if_neg p2]at h2;exact hm.inj s1 t1 s2 t2 b1 b2 g h1 h2 (by rw[<-hν s1 t1 ⟨b1,h1⟩];exact g1) (by rw[<-hν s2 t2 ⟨b2,h2⟩];exact g2)
theorem AsU {m:M} (hm:DR B S w0 m) (s t:Nat) (b b':HU) (hb:m.own.get s t=some b) (g:Nat) (hg:m.ν s t=some g) (arr cg:Array Value) (e:TypeId)
  (ha:m.w.heap[g]? = some (.cells arr e (0,0))) (hz':b'.a9=b.a9) (hz : ∀ x∈b'.es,x.length=b'.a9) (cz:cg.size=arr.size)
  (hc : ∀ i cs,b'.es[i]? = some cs -> ∀ j c,cs[j]? = some c -> ∃ u,cg[i*b'.a9+j]? = some u/\CC B S m c u) (w':World) (qt:Below B w0 w') (Kd:w'.heap.size=m.w.heap.size)
  (hk : ∀ k,k≠g->w'.heap[k]? = m.w.heap[k]?) (Dt:w'.heap[g]? = some (.cells cg e (0,0))) :
  DR B S w0 ⟨m.ν,m.own.put s ((m.own s).v9 t (some b')),w'⟩/\GY B S m ⟨m.ν,m.own.put s ((m.own s).v9 t (some b')),w'⟩:=by
 have n7:t<m.own.j8 s:=by
  rcases Ve t (m.own.j8 s) with h|h
  ·exact h
  ·rw[hm.fresh s t h]at hb;cases hb
 have he:GY B S m ⟨m.ν,m.own.put s ((m.own s).v9 t (some b')),w'⟩:=by
  refine fP hm (by rw[Kd];exact Sa _) (λ k ql hn=>hk k (λ e=>hn s t ⟨b,hb⟩ (e ▸ hg))) (λ s'=>by rw[AcV];exact Sa _) (λ s' t' b2 ht ag => ?_) (λ s' t' g' hl lq _ => ?_)
  ·rw[nE]at ag
   by_cases h:s'=s/\t'=t
   ·obtain ⟨rfl,rfl⟩:=h
    rw[if_pos ⟨rfl,rfl⟩]at ag;obtain rfl:b'=b2:=by simpa using ag
    refine ⟨b,hb,hz',rfl,λ g2 ar e' ta Lt => ?_⟩;obtain rfl:g=g2:=by rw[hg]at ta;simpa using ta
    rw[ha]at Lt;obtain ⟨rfl,rfl⟩:arr=ar/\e=e':=by simpa using Lt
    exact ⟨cg,Dt,cz⟩
   ·rw[if_neg h]at ag
    refine ⟨b2,ag,rfl,rfl,λ g2 ar e' ta Lt=>⟨ar,?_,rfl⟩⟩;rw[<-Lt];exact hk g2 (λ e2=>h (by
     subst e2;exact hm.inj s' t' s t b2 b g2 ag hb ta hg))
  ·obtain ⟨b2,ag⟩:=hl
   rw[nE]at ag;by_cases h:s'=s/\t'=t
   ·obtain ⟨rfl,rfl⟩:=h
    exact ⟨s',t',⟨b,hb⟩,lq⟩
   ·rw[if_neg h]at ag
    exact ⟨s',t',⟨b2,ag⟩,lq⟩
 refine ⟨⟨qt,by rw[Kd];exact hm.size,λ s' t' ht => ?_,λ s' t' b2 ag => ?_,λ s1 t1 s2 t2 b1 b2 g1 h1 h2 e1 e2 => ?_⟩,he⟩
 ·rw[AcV]at ht
  rw[nE,if_neg (by rintro ⟨rfl,rfl⟩;omega)];exact hm.fresh s' t' ht
 ·rw[nE]at ag
  by_cases h:s'=s/\t'=t
  ·obtain ⟨rfl,rfl⟩:=h
   rw[if_pos ⟨rfl,rfl⟩]at ag;obtain rfl:b'=b2:=by simpa using ag
   refine ⟨hz,?_⟩;show match m.ν s' t' with|none=>_|some g=>_
   rw[hg];refine ⟨(hm.ge ⟨b,hb⟩ hg).1,cg,e,Dt,λ i cs hi j c hj => ?_⟩;obtain ⟨u,hu,fe⟩:=hc i cs hi j c hj;exact ⟨u,hu,he.cc fe⟩
  ·rw[if_neg h]at ag
   obtain ⟨h1,h2⟩:=hm.g8 s' t' b2 ag;refine ⟨h1,?_⟩;show match m.ν s' t' with|none=>_|some g=>_
   cases hv:m.ν s' t' with
   | none=>rw[hv]at h2;exact h2
   | some g2 =>
    rw[hv]at h2;obtain ⟨h3,ar,e',h4,h5⟩:=h2;refine ⟨h3,ar,e',?_,λ i cs hi j c hj => ?_⟩
    ·rw[<-h4]
     exact hk g2 (λ e2=>h (by
      subst e2;exact hm.inj s' t' s t b2 b g2 ag hb hv hg))
    ·obtain ⟨u,hu,fe⟩:=h5 i cs hi j c hj
     exact ⟨u,hu,he.cc fe⟩
 ·have old : ∀ s' t' b2,(m.own.put s ((m.own s).v9 t (some b'))).get s' t'=some b2 -> ∃ b3,m.own.get s' t'=some b3:=λ s' t' b2 h=>by
   rw[nE]at h;by_cases h':s'=s/\t'=t
   ·obtain ⟨rfl,rfl⟩:=h';exact ⟨b,hb⟩
   ·rw[if_neg h']at h;exact ⟨b2,h⟩
  obtain ⟨c1,k1⟩:=old s1 t1 b1 h1;obtain ⟨c2,k2⟩:=old s2 t2 b2 h2;exact hm.inj s1 t1 s2 t2 c1 c2 g1 k1 k2 e1 e2
theorem fX (o:BF) (s t s' t':Nat) (b:HU):(o.put s (((o s).v9 t none).new b)).get s' t'=if s'=s/\t'=o.j8 s then some b else if s'=s/\t'=t then none else o.get s' t':=by
 unfold BF.get BF.put EV.new EV.v9 BF.j8;by_cases h:s'=s
 ·subst h
  by_cases h2:t'=(o s').j8<;>by_cases h3:t'=t<;>simp [h2,h3]
 ·simp [h]
theorem qZ (o:BF) (s t s':Nat) (b:HU):(o.put s (((o s).v9 t none).new b)).j8 s'=if s'=s then o.j8 s+1 else o.j8 s':=by
 unfold BF.j8 BF.put EV.new EV.v9;by_cases h:s'=s<;>simp [h]
theorem Xj {m:M} (hm:DR B S w0 m) (s t:Nat) (b b':HU) (hb:m.own.get s t=some b) (ki:Option Nat) (w':World) (qt:Below B w0 w') (cz:m.w.heap.size<=w'.heap.size)
  (hk : ∀ k,k<m.w.heap.size->m.ν s t≠some k->w'.heap[k]? = m.w.heap[k]?) (hz : ∀ x∈b'.es,x.length=b'.a9)
  (yf:ki=none->b'.es=[])
  (El : ∀ g,ki=some g->B<=g/\(m.w.heap.size<=g\/m.ν s t=some g) /\ ∃ arr e,w'.heap[g]? = some (.cells arr e (0,0)) /\
   ∀ i cs,b'.es[i]? = some cs -> ∀ j c,cs[j]? = some c -> ∃ u,arr[i*b'.a9+j]? = some u/\CC B S m c u) :
  DR B S w0 ⟨k6 m s ki,m.own.put s (((m.own s).v9 t none).new b'),w'⟩/\GY B S m ⟨k6 m s ki,m.own.put s (((m.own s).v9 t none).new b'),w'⟩:=by
 have n7:t<m.own.j8 s:=by
  rcases Ve t (m.own.j8 s) with h|h
  ·exact h
  ·rw[hm.fresh s t h]at hb;cases hb
 have hν : ∀ s' t',live m s' t'->k6 m s ki s' t'=m.ν s' t':=λ s' t' hl=>by
  unfold k6;rw[if_neg];rintro ⟨rfl,rfl⟩
  exact sX hm _ hl
 have he:GY B S m ⟨k6 m s ki,m.own.put s (((m.own s).v9 t none).new b'),w'⟩:=by
  refine fP hm cz (λ k ql hn=>hk k ql (hn s t ⟨b,hb⟩)) (λ s' => ?_) (λ s' t' b2 ht ag => ?_) (λ s' t' g' hl lq Dw => ?_)
  ·rw[qZ];split
   ·rename_i h;subst h;omega
   ·exact Sa _
  ·rw[fX]at ag
   rw[if_neg (by rintro ⟨rfl,rfl⟩;omega)]at ag;by_cases h:s'=s/\t'=t
   ·rw[if_pos h]at ag;cases ag
   ·rw[if_neg h]at ag
    refine ⟨b2,ag,rfl,hν s' t' ⟨b2,ag⟩,λ g2 ar e' ta Lt=>⟨ar,?_,rfl⟩⟩;rw[<-Lt];exact hk g2 (Wa.1 Lt).1 (λ e2=>h (hm.inj s' t' s t b2 b g2 ag hb ta e2))
  ·obtain ⟨b2,ag⟩:=hl
   rw[fX]at ag;by_cases h0:s'=s/\t'=m.own.j8 s
   ·simp only[k6,if_pos h0]at lq
    obtain ⟨_,h2,_⟩:=El g' lq;rcases h2 with h2|h2
    ·omega
    ·exact ⟨s,t,⟨b,hb⟩,h2⟩
   ·rw[if_neg h0]at ag
    by_cases h:s'=s/\t'=t
    ·rw[if_pos h]at ag;cases ag
    ·rw[if_neg h]at ag
     exact ⟨s',t',⟨b2,ag⟩,by rw[<-hν s' t' ⟨b2,ag⟩];exact lq⟩
 refine ⟨⟨qt,Ud hm.size cz,λ s' t' ht => ?_,λ s' t' b2 ag => ?_,λ s1 t1 s2 t2 b1 b2 g1 h1 h2 e1 e2 => ?_⟩,he⟩
 ·rw[qZ]at ht
  have zq:m.own.j8 s'<=t' /\ ¬ (s'=s/\t'=m.own.j8 s):=by
   by_cases h:s'=s
   ·subst h
    simp at ht;exact ⟨D',D'⟩
   ·simp [h]at ht
    exact ⟨ht,λ h'=>h h'.1⟩
  rw[fX,if_neg zq.2];split
  ·rfl
  ·exact hm.fresh s' t' zq.1
 ·rw[fX]at ag
  by_cases h0:s'=s/\t'=m.own.j8 s
  ·rw[if_pos h0]at ag
   obtain rfl:b'=b2:=by simpa using ag
   refine ⟨hz,?_⟩;show match k6 m s ki s' t' with|none=>_|some g=>_
   rw[show k6 m s ki s' t'=ki by simp [k6,h0]];cases ki with
   | none=>exact yf rfl
   | some g =>
    obtain ⟨h1,_,arr,e,h4,h5⟩:=El g rfl;refine ⟨h1,arr,e,h4,λ i cs hi j c hj => ?_⟩;obtain ⟨u,hu,fe⟩:=h5 i cs hi j c hj;exact ⟨u,hu,he.cc fe⟩
  ·rw[if_neg h0]at ag
   by_cases h:s'=s/\t'=t
   ·rw[if_pos h]at ag;cases ag
   ·rw[if_neg h]at ag
    obtain ⟨h1,h2⟩:=hm.g8 s' t' b2 ag;refine ⟨h1,?_⟩;show match k6 m s ki s' t' with|none=>_|some g=>_
    rw[hν s' t' ⟨b2,ag⟩];cases hv:m.ν s' t' with
    | none=>rw[hv]at h2;exact h2
    | some g2 =>
     rw[hv]at h2;obtain ⟨h3,ar,e',h4,h5⟩:=h2;refine ⟨h3,ar,e',?_,λ i cs hi j c hj => ?_⟩
     ·rw[<-h4]
      exact hk g2 (Wa.1 h4).1 (λ e2=>h (hm.inj s' t' s t b2 b g2 ag hb hv e2))
     ·obtain ⟨u,hu,fe⟩:=h5 i cs hi j c hj
      exact ⟨u,hu,he.cc fe⟩
 ·rw[fX]at h1 h2
  have old : ∀ s' t' b2,(if s'=s/\t'=t then none else m.own.get s' t')=some b2->m.own.get s' t'=some b2 /\ ¬ (s'=s/\t'=t):=λ s' t' b2 h=>by
   by_cases h':s'=s/\t'=t
   ·rw[if_pos h']at h;cases h
   ·rw[if_neg h']at h;exact ⟨h,h'⟩
  have xo : ∀ s' t' b2,m.own.get s' t'=some b2 -> ¬ (s'=s/\t'=t)->k6 m s ki s' t'=some g1->ki=some g1->False:=λ s' t' b2 ag n6 e1 e2=>by
   rw[hν s' t' ⟨b2,ag⟩]at e1;obtain ⟨_,h2,_⟩:=El g1 e2;obtain ⟨_,ar,e',h4⟩:=hm.ge ⟨b2,ag⟩ e1;have:=(Wa.1 h4).1
   rcases h2 with h2|h2
   ·omega
   ·exact n6 (hm.inj s' t' s t b2 b g1 ag hb e1 h2)
  have at_ : ∀ s' t',s'=s/\t'=m.own.j8 s->k6 m s ki s' t'=some g1->ki=some g1:=λ s' t' h hg=>by simpa [k6,if_pos h] using hg
  by_cases p1:s1=s/\t1=m.own.j8 s<;>by_cases p2:s2=s/\t2=m.own.j8 s
  ·exact ⟨p1.1.trans p2.1.symm,p1.2.trans p2.2.symm⟩
  ·rw[if_neg p2]at h2
   obtain ⟨k2,n2⟩:=old s2 t2 b2 h2;exact (xo s2 t2 b2 k2 n2 e2 (at_ s1 t1 p1 e1)).elim
  ·rw[if_neg p1]at h1
   obtain ⟨k1,n1⟩:=old s1 t1 b1 h1;exact (xo s1 t1 b1 k1 n1 e1 (at_ s2 t2 p2 e2)).elim
  ·rw[if_neg p1]at h1
   rw[if_neg p2]at h2;obtain ⟨k1,n1⟩:=old s1 t1 b1 h1;obtain ⟨k2,n2⟩:=old s2 t2 b2 h2;exact hm.inj s1 t1 s2 t2 b1 b2 g1 k1 k2 (by rw[<-hν s1 t1 ⟨b1,k1⟩];exact e1) (by rw[<-hν s2 t2 ⟨b2,k2⟩];exact e2)
theorem AeA (o:BF) (l:a_) (s t:Nat):(o.drop l).get s t=if s∈l then none else o.get s t:=by
 induction l with
 | nil=>simp [BF.drop]
 | cons x r ih =>
  unfold BF.get at *;by_cases h:s=x
  ·subst h;simp [BF.drop,BF.put]
  ·simp only[BF.drop,BF.put,if_neg h,Uf]
   rw[ih];by_cases h2:s∈r<;>simp [h,h2]
theorem AcU (o:BF) (l:a_) (s:Nat):(o.drop l).j8 s=o.j8 s:=by
 induction l with
 | nil=>simp [BF.drop]
 | cons x r ih =>
  unfold BF.j8 at *;by_cases h:s=x
  ·subst h;simp [BF.drop,BF.put]
  ·simp [BF.drop,BF.put,h,ih]
theorem AmZ {m:M} (hm:DR B S w0 m) (l:a_):DR B S w0 ⟨m.ν,m.own.drop l,m.w⟩/\GY B S m ⟨m.ν,m.own.drop l,m.w⟩:=by
 have old : ∀ s t b,(m.own.drop l).get s t=some b->m.own.get s t=some b:=λ s t b h=>by
  rw[AeA]at h;split at h
  ·cases h
  ·exact h
 have he:GY B S m ⟨m.ν,m.own.drop l,m.w⟩:=by
  refine fP hm (Sa _) (λ_ _ _=>rfl) (λ s=>by rw[AcU];exact Sa _) (λ s t b' _ m9=>⟨b',old s t b' m9,rfl,rfl,λ_ ar _ _ ha=>⟨ar,ha,rfl⟩⟩) (λ s t g hl hg _ => ?_);obtain ⟨b,hb⟩:=hl;exact ⟨s,t,⟨b,old s t b hb⟩,hg⟩
 refine ⟨⟨hm.below,hm.size,λ s t ht => ?_,λ s t b hb => ?_,λ s1 t1 s2 t2 b1 b2 g h1 h2=>hm.inj s1 t1 s2 t2 b1 b2 g (old _ _ _ h1) (old _ _ _ h2)⟩,he⟩
 ·rw[AcU]at ht
  rw[AeA];split
  ·rfl
  ·exact hm.fresh s t ht
 ·obtain ⟨h1,h2⟩:=hm.g8 s t b (old s t b hb)
  refine ⟨h1,?_⟩;show match m.ν s t with|none=>_|some g=>_
  cases hv:m.ν s t with
  | none=>rw[hv]at h2;exact h2
  | some g =>
   rw[hv]at h2;obtain ⟨h3,ar,e',h4,h5⟩:=h2;refine ⟨h3,ar,e',h4,λ i cs hi j c hj => ?_⟩;obtain ⟨u,hu,fe⟩:=h5 i cs hi j c hj;exact ⟨u,hu,he.cc fe⟩
end
end Go.j4

namespace Go.j4
section
variable {P:Program} {num:Nat->Nat} {op:Op}
theorem Aqe {y:BM} (h:C5 P num op (.w9 y)=true) : ∃ x,(op = .move x\/op = .assign x)/\EI x y=true:=by
 cases op with
 | move x=>exact ⟨x,.inl rfl,h⟩
 | assign x=>exact ⟨x,.inr rfl,h⟩
 | _=>exact na h
theorem Aqk {s z:Nat} (h:C5 P num op (.bu s z)=true):(op = .move (.const (.slice none 0 0))\/op = .assign (.const (.slice none 0 0)))/\z≠0:=by
 simp only[C5,ka,bne_iff_ne]at h;refine ⟨?_,h.1⟩;have h2:=h.2;split at h2<;>simp_all
theorem Aqf {c' a' b':BM} (h:C5 P num op (.pick c' a' b')=true) : ∃ c a b,op = .pick c a b/\EI c c'=true/\EI a a'=true/\EI b b'=true:=by
 cases op with
 | pick c a b=>simp only[C5,ka]at h;exact ⟨c,a,b,rfl,h.1.1,h.1.2,h.2⟩
 | _=>exact na h
theorem ApX {f:BinOp} {x' y':BM} (h:C5 P num op (.bin f x' y')=true) : ∃ t x y u,op = .binOp f t x y u/\EI x x'=true/\EI y y'=true:=by
 cases op with
 | binOp f' t x y u =>
  simp only[C5,ka,beq_iff_eq]at h;exact ⟨t,x,y,u,by rw[h.1.1],h.1.2,h.2⟩
 | _=>exact na h
theorem ApW {ne:Bool} {x' y':BM} (h:C5 P num op (.beq ne x' y')=true) : ∃ t x y u,op = .binOp (if ne then .neq else .eql) t x y u/\P.underlying t=some .bool/\EI x x'=true/\EI y y'=true:=by
 cases op with
 | binOp f' t x y u =>
  simp only[C5,ka]at h;obtain ⟨⟨⟨h1,h2⟩,h3⟩,h4⟩:=h;refine ⟨t,x,y,u,?_,?_,h3,h4⟩
  ·cases ne<;>simp_all
  ·split at h2<;>simp_all
 | _=>exact na h
theorem Aqj {f:UnOp} {x':BM} (h:C5 P num op (.un f x')=true) : ∃ t x,op = .unOp f t x/\EI x x'=true:=by
 cases op with
 | unOp f' t x =>
  simp only[C5,ka,beq_iff_eq]at h;exact ⟨t,x,by rw[h.1],h.2⟩
 | _=>exact na h
theorem Ap6 {k:IntKind} {x':BM} (h:C5 P num op (.conv k x')=true) : ∃ s d x ds,op = .convert s d x/\P.underlying s=some ds/\P.underlying d=some (.int k)/\EI x x'=true:=by
 cases op with
 | convert s d x =>
  simp only[C5,ka]at h;obtain ⟨⟨h1,h2⟩,h3⟩:=h;obtain ⟨ds,Mo⟩:=Ed.1 h1;refine ⟨s,d,x,ds,rfl,Mo,?_,h3⟩;split at h2<;>simp_all
 | _=>exact na h
theorem ApY {s:Nat} {x':BM} (h:C5 P num op (.box s x')=true) : ∃ t x,op = .box t x/\EI x x'=true:=by
 cases op with
 | box t x=>exact ⟨t,x,rfl,h⟩
 | _=>exact na h
theorem ApU {s:Nat} {z:d_} (h:C5 P num op (.alloc s z)=true) : ∃ t,op = .alloc t/\iO P t z=true:=by
 cases op with
 | alloc t=>exact ⟨t,rfl,h⟩
 | _=>exact na h
theorem Ap0 {z:d_} {kx:List (Nat × Nat × BM)} (h:C5 P num op (.build z kx)=true) : ∃ t ps,op = .build t ps/\iO P t z=true/\wE P t ps.toList kx=true:=by
 cases op with
 | build t ps=>simp only[C5,ka]at h;exact ⟨t,ps,rfl,h.1,h.2⟩
 | _=>exact na h
theorem ZX {t:TypeId} {f:TypeId->Bool} (h:RK P t f=true) : ∃ e,P.underlying t=some (.slice e)/\f e=true:=by
 unfold RK at h;split at h
 ·rename_i e he;exact ⟨e,he,h⟩
 ·cases h
theorem WH {t:TypeId} {n:Nat} (h:QF P t n=true) : ∃ i,P.info? t=some i/\i.size=n:=by
 unfold QF at h;split at h
 ·rename_i i hi;exact ⟨i,hi,by simpa using h⟩
 ·cases h
theorem wF {t:TypeId} {n:Nat} (h:lW P t n=true) : ∃ i,P.info? t=some i/\i.bytes=n:=by
 unfold lW at h;split at h
 ·rename_i i hi;exact ⟨i,hi,by simpa using h⟩
 ·cases h
theorem Zs {t:TypeId} {l:d_} (h:iO P t l=true) : ∃ i z,P.info? t=some i/\i.zero=some z/\Y5 z.cells.toList l=true:=by
 unfold iO at h;split at h
 ·rename_i i hi
  split at h
  ·rename_i z hz;exact ⟨i,z,hi,hz,h⟩
  ·cases h
 ·cases h
theorem vW {t:TypeId} {b:Bool} (h:(eF P t == some b)=true) : ∀ w,(isAgg t).run P w = .ok b w:=by
 intro w;have h':eF P t=some b:=by simpa using h
 unfold eF at h';unfold isAgg;cases hu:P.underlying t with
 | none=>rw[hu]at h';cases h'
 | some d =>
  rw[hu]at h';rw[Sem.run_bind,run_underlying hu];cases d<;>simp_all<;>rfl
theorem Zt {e:TypeId} {n:Nat} (h:(match P.info? e with|some i=>(match i.zero with|some z=>z.cells.size == n|none=>false)|none=>false)=true) : ∃ i z,P.info? e=some i/\i.zero=some z/\z.cells.size=n:=by
 split at h
 ·rename_i i hi
  split at h
  ·rename_i z hz;exact ⟨i,z,hi,hz,by simpa using h⟩
  ·cases h
 ·cases h
theorem ApZ {s a9:Nat} {kx:List BM} (h:C5 P num op (.c8 s a9 kx)=true) : ∃ t n ps e i,op = .buildSlice t n ps/\P.underlying t=some (.slice e)/\P.info? e=some i/\i.size=a9/\a9≠0/\n=kx.length/\n*a9<=16777216/\fI 0 ps.toList kx=true/\(n=0 \/ ∃ z,i.zero=some z/\z.cells.size=a9):=by
 cases op with
 | buildSlice t n ps =>
  simp only[C5,ka,decide_eq_true_eq,bne_iff_ne,beq_iff_eq,Bool.or_eq_true]at h;obtain ⟨⟨⟨⟨⟨h1,h2⟩,h3⟩,h4⟩,h5⟩,h6⟩:=h;obtain ⟨e,he,h1⟩:=ZX h1;obtain ⟨i,hi,hs⟩:=WH h1;refine ⟨t,n,ps,e,i,rfl,he,hi,hs,h2,h3,h4,h5,h6.imp id λ h6 => ?_⟩;obtain ⟨e',qu,h6⟩:=ZX h6;rw[he]at qu;obtain rfl:e=e':=by simpa using qu
  obtain ⟨i',z,v5,hz,Cd⟩:=Zt h6;rw[hi]at v5;obtain rfl:i=i':=by simpa using v5
  exact ⟨z,hz,Cd⟩
 | _=>exact na h
theorem AeT {x':BM} {off:Nat} (h:C5 P num op (.dj x' off)=true) : ∃ t x f fs fd i,op = .fieldAddr t x f/\EI x x'=true/\P.underlying t=some (.struct fs)/\fs[f]? = some fd/\fd.offset=off/\P.info? fd.type=some i/\i.size≠0:=by
 cases op with
 | fieldAddr t x f =>
  simp only[C5,ka]at h;obtain ⟨h1,h2⟩:=h;split at h2
  ·rename_i fs pt
   split at h2
   ·rename_i fd Vz
    simp only[ka,beq_iff_eq]at h2;obtain ⟨h3,h4⟩:=h2;split at h4
    ·rename_i i hi
     exact ⟨t,x,f,fs,fd,i,rfl,h1,pt,Vz,h3,hi,by simpa using h4⟩
    ·cases h4
   ·cases h2
  ·cases h2
 | _=>exact na h
theorem Ap8 {x':BM} {off n:Nat} {agg:Bool} (h:C5 P num op (.zf x' off n agg)=true) : ∃ t x f fs fd i,op = .field t x f/\EI x x'=true/\P.underlying t=some (.struct fs)/\fs[f]? = some fd/\fd.offset=off/\P.info? fd.type=some i/\i.size=n/\(∀ w,(isAgg fd.type).run P w = .ok agg w)/\n≠0:=by
 cases op with
 | field t x f =>
  simp only[C5,ka]at h;obtain ⟨⟨h1,h2⟩,h3⟩:=h;unfold Aen at h2;unfold Aeo at h3;split at h2
  ·rename_i fs pt
   split at h2
   ·rename_i fd Vz
    simp only[ka,beq_iff_eq,bne_iff_ne]at h2;obtain ⟨⟨h4,h5⟩,h6⟩:=h2;obtain ⟨i,hi,hs⟩:=WH h5;rw[pt]at h3;simp only[Vz]at h3;exact ⟨t,x,f,fs,fd,i,rfl,h1,pt,Vz,h4,hi,hs,vW h3,h6⟩
   ·cases h2
  ·cases h2
 | _=>exact na h
theorem sJ {arr:Option Nat} {a9:Nat} {x' i':BM} (h:C5 P num op (.cp arr a9 x' i')=true) : ∃ t x i e inf,op = .indexAddr t x i/\EI x x'=true/\EI i i'=true/\P.info? e=some inf/\inf.size=a9 /\
  ((∃ len,arr=some len/\P.underlying t=some (.array len e)/\1<len)\/(arr=none/\P.underlying t=some (.slice e)/\a9≠0)):=by
 cases op with
 | indexAddr t x i =>
  simp only[C5,ka]at h;obtain ⟨⟨h1,h2⟩,h3⟩:=h;split at h3
  ·rename_i len e Ci hu
   simp only[ka,beq_iff_eq,decide_eq_true_eq]at h3;obtain ⟨⟨h4,h5⟩,h6⟩:=h3;obtain ⟨inf,hi,hs⟩:=WH h5;exact ⟨t,x,i,e,inf,rfl,h1,h2,hi,hs,.inl ⟨len,by rw[h4],hu,h6⟩⟩
  ·rename_i e hu
   simp only[ka,bne_iff_ne]at h3;obtain ⟨inf,hi,hs⟩:=WH h3.1;exact ⟨t,x,i,e,inf,rfl,h1,h2,hi,hs,.inr ⟨rfl,hu,h3.2⟩⟩
  ·cases h3
 | _=>exact na h
theorem AeU {agg:Bool} {n:Nat} {x':BM} (h:C5 P num op (.ld agg n x')=true) : ∃ t x,op = .load t x/\EI x x'=true/\(∀ w,(isAgg t).run P w = .ok agg w)/\(if agg then ∃ i,P.info? t=some i/\i.size=n else n=1):=by
 cases op with
 | load t x =>
  simp only[C5,ka]at h;obtain ⟨⟨h1,h2⟩,h3⟩:=h;refine ⟨t,x,rfl,h1,vW h2,?_⟩;cases agg
  ·simpa using h3
  ·exact WH (by simpa using h3)
 | _=>exact na h
theorem Aqh {n:Nat} {x' v':BM} (h:C5 P num op (.st n x' v')=true) : ∃ t x v i,op = .store t x v/\EI x x'=true/\EI v v'=true/\P.info? t=some i/\i.size=n:=by
 cases op with
 | store t x v =>
  simp only[C5,ka]at h;obtain ⟨⟨h1,h2⟩,h3⟩:=h;obtain ⟨i,hi,hs⟩:=WH h3;exact ⟨t,x,v,i,rfl,h1,h2,hi,hs⟩
 | _=>exact na h
theorem Aqb {s a9 bytes:Nat} {zero:d_} {l' c':BM} (h:C5 P num op (.mk s a9 bytes zero l' c')=true) : ∃ t l c e i z,op = .makeSlice t l c/\EI l l'=true/\EI c c'=true/\P.underlying t=some (.slice e)/\P.info? e=some i/\i.size=a9/\i.bytes=bytes/\i.zero=some z/\Y5 z.cells.toList zero=true/\a9≠0:=by
 cases op with
 | makeSlice t l c =>
  simp only[C5,ka,bne_iff_ne]at h;obtain ⟨⟨⟨h1,h2⟩,h3⟩,h4⟩:=h;obtain ⟨e,he,h3⟩:=ZX h3;simp only[ka]at h3;obtain ⟨⟨h5,h6⟩,h7⟩:=h3;obtain ⟨i,hi,hs⟩:=WH h5;obtain ⟨i2,zm,Aj⟩:=wF h6;obtain ⟨i3,z,Hr,hz,oo⟩:=Zs h7;rw[hi]at zm Hr;obtain rfl:i=i2:=by simpa using zm
  obtain rfl:i=i3:=by simpa using Hr
  exact ⟨t,l,c,e,i,z,rfl,h1,h2,he,hi,hs,Aj,hz,oo,h4⟩
 | _=>exact na h
theorem Yq {a9:Nat} {x':BM} {zx v5:Option BM} (h:C5 P num op (.pn a9 x' zx v5)=true) : ∃ t x lo hi e i,op = .slice t x lo hi none/\EI x x'=true/\W2 lo zx=true/\W2 hi v5=true/\P.underlying t=some (.slice e)/\P.info? e=some i/\i.size=a9/\a9≠0:=by
 cases op with
 | slice t x lo hi mx =>
  cases mx with
  | some _=>exact na h
  | none =>
   simp only[C5,ka,bne_iff_ne]at h;obtain ⟨⟨⟨⟨h1,h2⟩,h3⟩,h4⟩,h5⟩:=h;obtain ⟨e,he,h4⟩:=ZX h4;obtain ⟨i,v5,hs⟩:=WH h4;exact ⟨t,x,lo,hi,e,i,rfl,h1,h2,h3,he,v5,hs,h5⟩
 | _=>exact na h
theorem Ap7 {x':BM} {i:Nat} (h:C5 P num op (.ext x' i)=true) : ∃ x,op = .extract x i/\EI x x'=true:=by
 cases op with
 | extract x j =>
  simp only[C5,ka,beq_iff_eq]at h;exact ⟨x,by rw[h.2],h.1⟩
 | _=>exact na h
theorem uU {α:Type} {xs:Array α} {x y:α} (h:xs.toList=[x,y]):xs = #[x,y]:=by cases xs;simp_all
theorem uT {α:Type} {xs:Array α} {x:α} (h:xs.toList=[x]):xs = #[x]:=by cases xs;simp_all
theorem Aqa {x':BM} (h:C5 P num op (.len x')=true) : ∃ x t e,op = .call ⟨.builtin .len,#[x],#[t]⟩/\EI x x'=true/\P.underlying t=some (.slice e):=by
 cases op with
 | call c =>
  obtain ⟨cl,xs,ts⟩:=c;cases cl with
  | builtin b =>
   cases b<;>first|exact na h|skip
   simp only[C5]at h;split at h
   ·rename_i x t hx ht
    simp only[ka]at h;obtain ⟨e,he,_⟩:=ZX h.2;exact ⟨x,t,e,by rw[uT hx,uT ht],h.1,he⟩
   ·cases h
  | value f=>cases f<;>exact na h
  | invoke=>exact na h
 | _=>exact na h
theorem AeV {mx:Bool} {q7:List BM} (h:C5 P num op (.mm mx q7)=true) : ∃ xs ts,op = .call ⟨.builtin (if mx then .max else .min),xs,ts⟩/\H4 xs.toList q7=true:=by
 cases op with
 | call c =>
  obtain ⟨cl,xs,ts⟩:=c;cases cl with
  | builtin b =>
   cases b<;>first|exact na h|skip
   all_goals
    simp only[C5,ka]at h;refine ⟨xs,ts,?_,h.2⟩;cases mx<;>simp_all
  | value f=>cases f<;>exact na h
  | invoke=>exact na h
 | _=>exact na h
theorem AeS {s a9 bytes:Nat} {x' y':BM} (h:C5 P num op (.app s a9 bytes x' y')=true) : ∃ x y t e i z tx ex,op = .call ⟨.builtin .append,#[x,y],#[t,tx]⟩/\EI x x'=true/\EI y y'=true/\P.underlying t=some (.slice e)/\P.info? e=some i/\i.size=a9/\i.bytes=bytes/\i.zero=some z/\z.cells.size=a9/\a9≠0/\P.underlying tx=some (.slice ex):=by
 cases op with
 | call c =>
  obtain ⟨cl,xs,ts⟩:=c;cases cl with
  | builtin b =>
   cases b<;>first|exact na h|skip
   simp only[C5]at h;split at h
   ·rename_i x y t u hx ht
    simp only[ka,beq_iff_eq,bne_iff_ne]at h;obtain ⟨⟨⟨⟨h1,h2⟩,h3⟩,h4⟩,h5⟩:=h;obtain ⟨e,he,h3⟩:=ZX h3;simp only[ka]at h3;obtain ⟨⟨h6,h7⟩,h8⟩:=h3;obtain ⟨i,hi,hs⟩:=WH h6;obtain ⟨i2,zm,Aj⟩:=wF h7;obtain ⟨i3,z,Hr,hz,oo⟩:=Zt h8;rw[hi]at zm Hr;obtain rfl:i=i2:=by simpa using zm
    obtain rfl:i=i3:=by simpa using Hr
    obtain ⟨ex,hex,_⟩:=ZX h5;exact ⟨x,y,t,e,i,z,u,ex,by rw[uU hx,uU ht],h1,h2,he,hi,hs,Aj,hz,oo,h4,hex⟩
   ·cases h
  | value f=>cases f<;>exact na h
  | invoke=>exact na h
 | _=>exact na h
theorem Ym {f:Nat} {q7:List BM} (h:C5 P num op (.call f q7)=true) : ∃ xs ts,op = .call ⟨.value (.func (num f)),xs,ts⟩/\H4 xs.toList q7=true:=by
 cases op with
 | call c =>
  obtain ⟨cl,xs,ts⟩:=c;cases cl with
  | builtin b=>cases b<;>exact na h
  | value g =>
   cases g with
   | func g =>
    simp only[C5,ka,beq_iff_eq]at h;exact ⟨xs,ts,by rw[h.1],h.2⟩
   | _=>exact na h
  | invoke=>exact na h
 | _=>exact na h
theorem Ap1 {f:Nat} {q7:List BM} (h:C5 P num op (.j5 f q7)=true) : ∃ xs ts,op = .call ⟨.value (.func (num f)),xs,ts⟩/\H4 xs.toList q7=true:=by
 cases op with
 | call c =>
  obtain ⟨cl,xs,ts⟩:=c;cases cl with
  | builtin b=>cases b<;>exact na h
  | value g =>
   cases g with
   | func g =>
    simp only[C5,ka,beq_iff_eq]at h;exact ⟨xs,ts,by rw[h.1],h.2⟩
   | _=>exact na h
  | invoke=>exact na h
 | _=>exact na h
theorem Ap2 {f:Nat} {q7:List BM} (h:C5 P num op (.l7 f q7)=true):C5 P num op (.call f q7)=true:=by
 cases op<;>exact h
theorem ApT {ne:Bool} {n:Nat} {x' y':BM} (h:C5 P num op (.Bu ne n x' y')=true) : ∃ t x y u,op = .binOp (if ne then .neq else .eql) t x y u/\zH P t n=true/\EI x x'=true/\EI y y'=true:=by
 cases op with
 | binOp f' t x y u =>
  simp only[C5,ka]at h;obtain ⟨⟨⟨h1,h2⟩,h3⟩,h4⟩:=h;refine ⟨t,x,y,u,?_,h2,h3,h4⟩;cases ne<;>simp_all
 | _=>exact na h
theorem Ap5 {x':BM} (h:C5 P num op (.mj x')=true) : ∃ x t e,op = .call ⟨.builtin .cap,#[x],#[t]⟩/\EI x x'=true/\P.underlying t=some (.slice e):=by
 cases op with
 | call c =>
  obtain ⟨cl,xs,ts⟩:=c;cases cl with
  | builtin b =>
   cases b<;>first|exact na h|skip
   simp only[C5]at h;split at h
   ·rename_i x t hx ht
    simp only[ka]at h;obtain ⟨e,he,_⟩:=ZX h.2;exact ⟨x,t,e,by rw[uT hx,uT ht],h.1,he⟩
   ·cases h
  | value f=>cases f<;>exact na h
  | invoke=>exact na h
 | _=>exact na h
theorem ApV {s a9 bytes:Nat} {x' y':BM} (h:C5 P num op (.yx s a9 bytes x' y')=true) : ∃ x y t e i z tx k,op = .call ⟨.builtin .append,#[x,y],#[t,tx]⟩/\EI x x'=true/\EI y y'=true/\P.underlying t=some (.slice e)/\P.info? e=some i/\i.size=a9/\i.bytes=bytes/\i.zero=some z/\z.cells.size=a9/\a9≠0/\P.underlying tx=some (.int k):=by
 cases op with
 | call c =>
  obtain ⟨cl,xs,ts⟩:=c;cases cl with
  | builtin b =>
   cases b<;>first|exact na h|skip
   simp only[C5]at h;split at h
   ·rename_i x y t u hx ht
    simp only[ka,bne_iff_ne]at h;obtain ⟨⟨⟨⟨h1,h2⟩,h3⟩,h4⟩,h5⟩:=h;obtain ⟨e,he,h3⟩:=ZX h3;simp only[ka]at h3;obtain ⟨⟨h6,h7⟩,h8⟩:=h3;obtain ⟨i,hi,hs⟩:=WH h6;obtain ⟨i2,zm,Aj⟩:=wF h7;obtain ⟨i3,z,Hr,hz,oo⟩:=Zt h8;rw[hi]at zm Hr;obtain rfl:i=i2:=by simpa using zm
    obtain rfl:i=i3:=by simpa using Hr
    split at h5
    ·rename_i k hk
     exact ⟨x,y,t,e,i,z,u,k,by rw[uU hx,uU ht],h1,h2,he,hi,hs,Aj,hz,oo,h4,hk⟩
    ·cases h5
   ·cases h
  | value f=>cases f<;>exact na h
  | invoke=>exact na h
 | _=>exact na h
theorem Ap4 {s f:Nat} {q7:List BM} (h:C5 P num op (.iy s f q7)=true):C5 P num op (.j5 f q7)=true:=by
 cases op<;>exact h
theorem Ap3 {s f:Nat} {q7:List BM} (h:C5 P num op (.bf s f q7)=true):C5 P num op (.call f q7)=true:=by
 cases op<;>exact h
theorem Aqi {s n:Nat} {x' v':BM} (h:C5 P num op (.ym s n x' v')=true):C5 P num op (.st n x' v')=true:=by
 cases op<;>exact h
theorem Ap9 {ne:Bool} {x':BM} (h:C5 P num op (.Cg ne x')=true) : ∃ t x u e,op = .binOp (if ne then .neq else .eql) t x (.const (.slice none 0 0)) u/\P.underlying t=some (.slice e)/\EI x x'=true:=by
 cases op with
 | binOp f' t x y u =>
  simp only[C5]at h;split at h
  ·rename_i heq
   simp only[Op.binOp.injEq]at heq;obtain ⟨rfl,rfl,rfl,rfl,rfl⟩:=heq;simp only[ka]at h;obtain ⟨⟨h1,h2⟩,h3⟩:=h;unfold RK at h2;split at h2
   ·rename_i e he
    refine ⟨t,x,u,e,?_,he,h3⟩;cases ne
    ·simp only[Bool.false_eq_true,if_false,beq_iff_eq]at h1;rw[h1];rfl
    ·simp only[if_true,beq_iff_eq]at h1;rw[h1];rfl
   ·cases h2
  ·cases h
 | _=>exact na h
theorem Aqg {tb:a_} {i':BM} (h:C5 P num op (.oz tb i')=true) : ∃ t s i,op = .index t (.const (.string s)) i/\P.underlying t=some .string/\s.data.toList.map (λ b=>b.toNat)=tb/\EI i i'=true:=by
 cases op with
 | index t x i =>
  simp only[C5]at h;split at h
  ·rename_i heq
   simp only[Op.index.injEq]at heq;obtain ⟨rfl,rfl,rfl⟩:=heq;simp only[ka,beq_iff_eq]at h;obtain ⟨⟨h1,h2⟩,h3⟩:=h;exact ⟨_,_,_,rfl,by split at h1<;>simp_all,h2,h3⟩
  ·cases h
 | _=>exact na h
theorem Aqd {p:Bool} {f:Nat} {q7:List BM} (h:C5 P num op (.Au p f q7)=true) : ∃ first xs,op = .makeFunc (.func (num f)) first xs/\first = #[]/\H4 xs.toList q7=true:=by
 cases op with
 | makeFunc g first xs =>
  cases g with
  | func g =>
   simp only[C5,ka,beq_iff_eq]at h;obtain ⟨⟨rfl,h2⟩,h3⟩:=h;refine ⟨first,xs,rfl,?_,h3⟩;obtain ⟨l⟩:=first
   simp at h2;rw[h2]
  | _=>exact na h
 | _=>exact na h
theorem Aqc {f:Nat} {x':BM} (h:C5 P num op (.Bo f x')=true) : ∃ x,op = .makeFunc (.func (num f)) #[x] #[]/\EI x x'=true:=by
 cases op with
 | makeFunc g first xs =>
  cases g with
  | func g =>
   obtain ⟨l⟩:=first
   obtain ⟨l2⟩:=xs;simp only[C5,ka,beq_iff_eq]at h;obtain ⟨⟨rfl,h2⟩,h3⟩:=h;match l,l2,h2,h3 with
   | [x],[],h2,_=>exact ⟨x,rfl,h2⟩
  | _=>exact na h
 | _=>exact na h
theorem Yo {x':BM} {q7:List BM} (h:C5 P num op (.q6 x' q7)=true) : ∃ x xs ts,op = .call ⟨.value x,xs,ts⟩/\EI x x'=true/\H4 xs.toList q7=true:=by
 cases op with
 | call c =>
  obtain ⟨cl,xs,ts⟩:=c;cases cl with
  | builtin b=>cases b<;>exact na h
  | value g =>
   simp only[C5,ka]at h;exact ⟨g,xs,ts,rfl,h.1,h.2⟩
  | invoke=>exact na h
 | _=>exact na h
end
end Go.j4

namespace Go.j4
open Go.RowKit
def ET.dm:ET->BF->BF
 | .val _,o=>o
 | .new s b _,o=>o.put s ((o s).new b)
 | .Iz s b _,o=>o.put s ((o s).new b)
 | .kb _ o',_=>o'
 | .Kx s _ o',o=>o'.put s (o s)
 | .v9 s x,o=>o.put s x
 | .Gw s x _,o=>o.put s x
def ET.valOf:ET->BF->AV
 | .val v,_=>v
 | .new s _ v,o=>v (o.j8 s)
 | .Iz s _ v,o=>v (o.j8 s)
 | .kb v _,_=>v
 | .Kx _ v _,_=>v
 | .v9 _ _,_ => .e9 []
 | .Gw _ _ v,_=>v
section
variable {B:Nat} {S:Nat->Prop} {w0:World} {m:M}
theorem NE {k:IntKind} {n:Int} {v:Value} (h:CV B S m (.int k n) v):v = .int k n:=by
 cases h with
 | ca h=>cases h with
  | one h=>cases h with
   | rd h=>cases h;rfl
theorem eT {b:Bool} {v:Value} (h:CV B S m (.bool b) v):v = .bool b:=by
 cases h with
 | ca h=>cases h with
  | one h=>cases h with
   | rd h=>cases h;rfl
theorem rC {cs:d_} {v:Value} (h:CV B S m (.agg cs) v) : ∃ vs:List Value,v = .agg vs.toArray/\CL B S m cs vs:=by
 cases h with
 | ca h=>cases h with
  | one h=>cases h with
   | rd h=>cases h
  | agg _ vs h=>exact ⟨vs,rfl,h⟩
theorem wZ {cs:d_} {v:Value} (h:CV B S m (.e9 cs) v) : ∃ vs:List Value,v = .tuple vs.toArray/\cs.length=vs.length /\ ∀ (j:Nat) (c:AV) (u:Value),cs[j]? = some c->vs[j]? = some u->CA B S m c u:=by
 cases h with
 | ca h=>cases h with
  | one h=>cases h with
   | rd h=>cases h
 | e9 _ vs hl h=>exact ⟨vs,rfl,hl,h⟩
theorem ZL (k:IntKind) (n:Int):CV B S m (.int k n) (.int k n):= .ca (.one (.rd (.int k n)))
theorem nH (b:Bool):CV B S m (.bool b) (.bool b):= .ca (.one (.rd (.bool b)))
theorem Afp:CV B S m (.e9 []) undef := .e9 [] [] rfl (λ j c v h=>by simp at h)
theorem rE {a:AV} {cs:d_} {v:Value} (h:CV B S m a v) (hc:cellsOf a=some cs):CL B S m cs v.cells.toList:=by
 cases h with
 | any v=>simp [cellsOf]at hc
 | e9=>simp [cellsOf]at hc
 | ca h=>cases h with
  | agg lf vs h =>
   obtain rfl:lf=cs:=by simpa [cellsOf] using hc
   simpa [Value.cells] using h
  | fn=>simp [cellsOf]at hc
  | Cm=>simp [cellsOf]at hc
  | one h =>
   have h1:v.cells.toList=[v]:=by
    cases h with
    | rd h=>cases h<;>rfl
    | _=>rfl
   have h2:cs=[a]:=by
    cases h with
    | rd h=>cases h<;>simp [cellsOf]at hc<;>exact hc.symm
    | _=>simp [cellsOf]at hc;exact hc.symm
   rw[h1,h2];refine ⟨rfl,λ j c u hj hu => ?_⟩;cases j with
   | zero=>simp at hj hu;subst hj hu;exact h
   | succ j=>simp at hj
theorem AkY {cs:d_} {vs:List Value} (h:CL B S m cs vs) : ∀ v∈vs,v.oneCell'=true:=by
 intro v hv;obtain ⟨j,hj,rfl⟩:=List.getElem_of_mem hv;have Px:j<cs.length:=by rw[h.1];exact hj
 exact (h.2 j cs[j] vs[j] (zE Px) (zE hj)).one
theorem AkZ {cs:d_} {vs:List Value} (h:CL B S m cs vs) (off n:Nat):CL B S m ((cs.drop off).take n) ((vs.drop off).take n):=by
 refine ⟨by simp [h.1],λ j c v hj hv => ?_⟩;rw[Qc]at hj hv;split at hj
 ·rename_i n7
  rw[if_pos n7]at hv;rw[xd]at hj hv;exact h.2 _ c v hj hv
 ·cases hj
theorem AdF {v:Value} {a:AV} (h:rT v a=true):CC B S m a v:=by
 unfold rT at h;split at h
 ·simp only[ka,beq_iff_eq]at h
  obtain ⟨rfl,rfl⟩:=h;exact .rd (.int _ _)
 ·obtain rfl:_=_:=by simpa using h
  exact .rd (.bool _)
 ·exact .nil
 ·rename_i s s'
  obtain rfl:s=s':=by
   have h':s.data.toList=s'.data.toList:=by simpa using h
   obtain ⟨⟨l⟩⟩:=s;obtain ⟨⟨l'⟩⟩:=s';simp only at h';rw[h']
  exact .rd (.str _)
 ·exact .rd .vz
 ·cases h
theorem jN : ∀ {vs:List Value} {cs:d_},Y5 vs cs=true->CL B S m cs vs
 | [],[],_=>⟨rfl,λ j c v h=>by simp at h⟩
 | v::r,c::l,h=>by
  simp only[Y5,ka]at h;have ih:=jN (vs:=r) (cs:=l) h.2;refine ⟨by simp [ih.1],λ j c' v' hj hv => ?_⟩;cases j with
  | zero=>simp at hj hv;subst hj hv;exact AdF h.1
  | succ j=>exact ih.2 j c' v' (by simpa using hj) (by simpa using hv)
 | [],_::_,h=>by simp [Y5]at h
 | _::_,[],h=>by simp [Y5]at h
theorem And {v:Value} {a:AV} (h:yH v a=true):CV B S m a v:=by
 unfold yH at h;split at h
 ·rename_i cs l
  have:=jN (B:=B) (S:=S) (m:=m) h
  exact .ca (by simpa using CA.agg l cs.toList this)
 ·exact .ca (.one (AdF h))
def E9 (B:Nat) (S:Nat->Prop) (m:M) (ρ:BM->AV) (e:Operand->Value):Prop := ∀ x y,EI x y=true->CV B S m (ρ y) (e x)
theorem Ar0 {T:Nat->AV} {a:Act} {ρ:BM->AV} (hρt : ∀ n,ρ (.t n)=T n) (hρc : ∀ v,ρ (.c v)=v) (h : ∀ i,CV B S m (T i) (a.tmps.getD i undef)):E9 B S m ρ a.eval:=by
 intro x y yi;unfold EI at yi;split at yi
 ·obtain rfl:_=_:=by simpa using yi
  rw[hρt];exact h _
 ·rw[hρc]
  exact And yi
 ·obtain rfl:_=_:=by simpa using yi
  rw[hρc];exact .ca (.fn _ _ _ [] [] (λ_=>rfl) ⟨rfl,λ j c v h=>by simp at h⟩)
 ·cases yi
variable {P:Program} {num:Nat->Nat} {o:Oper} {a:Act} {ρ:BM->AV} {K:Act->World->Prop} {Q:Exit->Act->World->Prop}
theorem YO {w w':World} {u:Value} (h:(execOp a.eval o).run P w = .ok (.value u) w') (hk:K (a.put o.dst u) w'):o.wp P a w K Q:=by
 unfold Oper.wp;rw[h];exact hk
theorem Atd {w w':World} (h:(execOp a.eval o).run P w = .ok .skip w') (hk:K (a.put o.dst undef) w'):o.wp P a w K Q:=by
 unfold Oper.wp;rw[h];exact hk
def FE (B:Nat) (S:Nat->Prop) (w0:World) (P:Program) (o:Oper) (a:Act) (m:M) (E:ET):Prop :=
 ∀ (K:Act->World->Prop) (Q:Exit->Act->World->Prop),(∀ u m',m'.own=E.dm m.own->DR B S w0 m'->GY B S m m'->CV B S m' (E.valOf m.own) u->K (a.put o.dst u) m'.w)->o.wp P a m.w K Q
theorem HY (hm:DR B S w0 m) {v:AV} {u:Value} (h:(execOp a.eval o).run P m.w = .ok (.value u) m.w) (hc:CV B S m v u):FE B S w0 P o a m (.val v) :=
 λ K Q hK=>YO h (hK u m rfl hm (GY.refl m) hc)
theorem AmH (hm:DR B S w0 m) (hs:E9 B S m ρ a.eval) {y:BM} (h:C5 P num o.op (.w9 y)=true):FE B S w0 P o a m (.val (ρ y)):=by
 obtain ⟨x,hx,he⟩:=Aqe h;refine HY hm (u:=a.eval x) ?_ (hs x y he);rcases hx with hx|hx<;>simp [execOp,hx]
theorem AmN (hm:DR B S w0 m) {s z:Nat} (h:C5 P num o.op (.bu s z)=true):FE B S w0 P o a m (.Iz s ⟨z,[]⟩ (λ t => .row s t z 0 0)):=by
 obtain ⟨hx,hz⟩:=Aqk h;intro K Q hK;obtain ⟨h1,h2⟩:=Ahs hm s z;refine YO (u := .slice none 0 0) (w':=m.w) ?_ (hK _ ⟨k6 m s none,m.own.put s ((m.own s).new ⟨z,[]⟩),m.w⟩ rfl h1 h2 ?_)
 ·rcases hx with hx|hx<;>simp [execOp,hx,Act.eval]
 ·refine .ca (.one (.row s (m.own.j8 s) z 0 0 none 0 ?_ D' (Sa _) (λ h=>D') λ b hb => ?_))
  ·show _<BF.j8 _ s
   rw[V0];simp
  ·change BF.get _ s _=some b at hb
   rw[K2,if_pos ⟨rfl,rfl⟩]at hb;obtain rfl:(⟨z,[]⟩:HU)=b:=by simpa using hb
   exact ⟨rfl,.inl ⟨rfl,rfl⟩⟩
theorem Adg (hm:DR B S w0 m) (hs:E9 B S m ρ a.eval) {c' a' b':BM} (h:C5 P num o.op (.pick c' a' b')=true) {t:Bool} (hc:ρ c' = .bool t) :
  FE B S w0 P o a m (.val (if t then ρ a' else ρ b')):=by
 obtain ⟨c,x,y,m7,h1,h2,h3⟩:=Aqf h;have dh:=eT (hc ▸ hs c c' h1);refine HY hm (u:=if t then a.eval x else a.eval y) ?_ ?_
 ·cases t<;>simp [execOp,m7,dh,asBool]
 ·cases t
  ·exact hs y b' h3
  ·exact hs x a' h2
theorem ArV (f:BinOp) (t:TypeId) (k k':IntKind) (x y:Int) (v:AV) (h:G5 f k x k' y=some v) (w:World) : ∃ u,(binOp f t (.int k x) (.int k' y)).run P w = .ok u w/\((∃ n,v = .int k n/\u = .int k n) \/ ∃ b,v = .bool b/\u = .bool b):=by
 cases f<;>simp only[G5]at h;case shl =>
  split at h
  ·cases h
  ·rename_i hy;simp at h;subst h
   exact ⟨_,by simp [binOp,Op.shift,hy],.inl ⟨_,rfl,rfl⟩⟩
 case shr =>
  split at h
  ·cases h
  ·rename_i hy;simp at h;subst h
   exact ⟨_,by simp [binOp,Op.shift,hy],.inl ⟨_,rfl,rfl⟩⟩
 case quo =>
  split at h
  ·rename_i hy;obtain ⟨rfl,hy⟩:=hy;simp at h;subst h
   exact ⟨_,by simp [binOp,Op.intDiv,hy],.inl ⟨_,rfl,rfl⟩⟩
  ·cases h
 case rem =>
  split at h
  ·rename_i hy;obtain ⟨rfl,hy⟩:=hy;simp at h;subst h
   exact ⟨_,by simp [binOp,Op.intDiv,hy],.inl ⟨_,rfl,rfl⟩⟩
  ·cases h
 case and|or|xor|andNot =>
  all_goals
   split at h
   ·rename_i hk;subst hk;obtain rfl:=Ab h
    exact ⟨_,by simp only[binOp,ne_eq,not_true_eq_false,if_false];rfl,.inl ⟨_,rfl,rfl⟩⟩
   ·cases h
 case add|sub|mul =>
  all_goals
   split at h
   ·rename_i hk;subst hk;obtain rfl:=Ab h
    exact ⟨_,by simp [binOp,Op.intArith],.inl ⟨_,rfl,rfl⟩⟩
   ·cases h
 all_goals
  split at h
  ·rename_i hk;subst hk;obtain rfl:=Ab h
   exact ⟨_,by simp [binOp,Op.intCmp],.inr ⟨_,rfl,rfl⟩⟩
  ·cases h
theorem ArP (f:BinOp) (t:TypeId) (x y:Operand) (k k':IntKind) (n n':Int) (w:World):(eqGuard f t x y (.int k n) (.int k' n')).run P w = .ok () w:=by
 unfold eqGuard;cases f<;>simp
theorem ArQ (f:BinOp) (t:TypeId) (x y:Operand) (b b':Bool) (w:World):(eqGuard f t x y (.bool b) (.bool b')).run P w = .ok () w:=by
 unfold eqGuard;cases f<;>simp
theorem Amf (hm:DR B S w0 m) (hs:E9 B S m ρ a.eval) {f:BinOp} {x' y':BM} (h:C5 P num o.op (.bin f x' y')=true) {k k':IntKind} {n n':Int} {v:AV} (hx:ρ x' = .int k n) (hy:ρ y' = .int k' n') (hv:G5 f k n k' n'=some v) :
  FE B S w0 P o a m (.val v):=by
 obtain ⟨t,x,y,u,m7,h1,h2⟩:=ApX h;have ex:=NE (hx ▸ hs x x' h1);have ey:=NE (hy ▸ hs y y' h2);obtain ⟨r,hr,gn⟩:=ArV (P:=P) f t k k' n n' v hv m.w;refine HY hm (u:=r) ?_ ?_
 ·simp [execOp,m7,ex,ey,ArP,hr]
 ·rcases gn with ⟨q,rfl,rfl⟩|⟨q,rfl,rfl⟩
  ·exact ZL _ _
  ·exact nH _
theorem ArS (t:TypeId) (b b':Bool) (hu:P.underlying t=some .bool) (w:World):(Op.equal t (.bool b) (.bool b')).run P w = .ok (b == b') w:=by
 have h : ∀ d:Nat,(Op.equalIn (d+1) t (.bool b) (.bool b')).run P w = .ok (b == b') w:=λ d=>by
  unfold Op.equalIn;rw[Sem.run_bind,run_underlying hu];rfl
 exact h 9999
theorem Ame (hm:DR B S w0 m) (hs:E9 B S m ρ a.eval) {ne:Bool} {x' y':BM} (h:C5 P num o.op (.beq ne x' y')=true) {b b':Bool} (hx:ρ x' = .bool b) (hy:ρ y' = .bool b') :
  FE B S w0 P o a m (.val (.bool (if ne then !(b == b') else b == b'))):=by
 obtain ⟨t,x,y,u,m7,hu,h1,h2⟩:=ApW h;have ex:=eT (hx ▸ hs x x' h1);have ey:=eT (hy ▸ hs y y' h2);refine HY hm (u := .bool (if ne then !(b == b') else b == b')) ?_ (nH _);cases ne<;>simp [execOp,m7,ex,ey,ArQ,binOp,ArS t b b' hu]
theorem Aeq : ∀ {fs:List Field} {k n:Nat},fieldsI P k fs n=true->k<=n
 | [],k,n,h=>by simp only[fieldsI,beq_iff_eq]at h;omega
 | f::fs,k,n,h=>by
  simp only[fieldsI,ka]at h;have:=Aeq h.2
  omega
theorem Agn (d:Nat) (a b:List Int) (w:World) : ∀ {fs:List Field} {k:Nat},fieldsI P k fs a.length=true->b.length=a.length ->
  (Op.eqFields (d+1) (a.map (Value.int .i64)).toArray (b.map (Value.int .i64)).toArray fs).run P w = .ok (decide (a.drop k=b.drop k)) w
 | [],k,h,hl=>by
  simp only[fieldsI,beq_iff_eq]at h;rw[oe D',oe D'];simp [Op.eqFields]
 | f::fs,k,h,hl=>by
  simp only[fieldsI,ka,bne_iff_ne,beq_iff_eq]at h;obtain ⟨⟨⟨h1,h2⟩,h3⟩,h4⟩:=h;have hk:=Aeq h4;have hp:P.plainKey f.type=true:=by unfold Program.plainKey;split at h3<;>simp_all
  obtain ⟨kd,hu⟩ : ∃ kd,P.underlying f.type=some (.int kd):=by split at h3<;>simp_all
  have e1:(a.map (Value.int .i64)).toArray[f.offset]? = some (.int .i64 (a[k]' D')):=by rw[h2];simp [zE (show k<a.length by omega)]
  have e2:(b.map (Value.int .i64)).toArray[f.offset]? = some (.int .i64 (b[k]' D')):=by rw[h2];simp [zE (show k<b.length by omega)]
  have ih:=Agn d a b w h4 hl;have hd:(a.drop k=b.drop k)↔(a[k]' D'=b[k]' D'/\a.drop (k+1)=b.drop (k+1)):=by
   rw[Pc (show k<a.length by omega),Pc (show k<b.length by omega),List.cons.injEq]
  simp only[Op.eqFields,ne_eq,h1,not_false_eq_true,if_true,Sem.run_bind,run_part_plain w hp e1,run_part_plain w hp e2,Result.andThen_ok,run_equalIn_int w d f.type .i64 kd _ _ hu,Sem.run_ite];by_cases tz:a[k]' D'=b[k]' D'
  ·simp [tz,ih,hd]
  ·simp [tz,hd]
theorem Yk : ∀ {cs:d_} {a:List Int} {vs:List Value},NN cs=some a->CL B S m cs vs->vs=a.map (Value.int .i64)
 | [],a,vs,h,hc=>by
  simp only[NN,yc]at h;subst h;have:=hc.1
  exact pc (by simpa using this.symm)
 | c::r,a,vs,h,hc=>by
  cases vs with
  | nil=>have:=hc.1;simp at this
  | cons v vs =>
   cases c with
   | int k n =>
    cases k<;>simp only[NN]at h<;>first|cases h|skip
    cases hr:NN r with
    | none=>rw[hr]at h;cases h
    | some b =>
     rw[hr]at h;simp only[Je,yc]at h;subst h;have h0:=NE (.ca (.one (hc.2 0 _ v rfl rfl)));have ih:=Yk (vs:=vs) hr ⟨by have:=hc.1;simpa using this,λ j c v h1 h2=>hc.2 (j+1) c v h1 h2⟩;rw[h0,ih];rfl
   | _=>simp only[NN]at h;cases h
theorem Al9 (hm:DR B S w0 m) (hs:E9 B S m ρ a.eval) {ne:Bool} {n:Nat} {x' y':BM} (h:C5 P num o.op (.Bu ne n x' y')=true) {cs ds:d_} (hx:ρ x' = .agg cs) (hy:ρ y' = .agg ds) {p q:List Int} (hp:NN cs=some p) (hq:NN ds=some q) (hn:p.length=n/\q.length=n) :
  FE B S w0 P o a m (.val (.bool (if ne then !(decide (p=q)) else decide (p=q)))):=by
 obtain ⟨t,x,y,u,m7,jk,h1,h2⟩:=ApT h;obtain ⟨vx,ex,cx⟩:=rC (hx ▸ hs x x' h1);obtain ⟨vy,ey,cy⟩:=rC (hy ▸ hs y y' h2);obtain rfl:=Yk hp cx;obtain rfl:=Yk hq cy;obtain ⟨rfl,Cs⟩:=hn;simp only[zH,ka,Bool.not_eq_true']at jk;obtain ⟨⟨hf,m4⟩,hg⟩:=jk;obtain ⟨fs,hu,pt⟩ : ∃ fs,P.underlying t=some (.struct fs)/\fieldsI P 0 fs.toList p.length=true:=by
  split at hf
  ·exact ⟨_,G',hf⟩
  ·cases hf
 have hfo:P.fieldsOf t=fs:=by simp [Program.fieldsOf,hu]
 have hr:=run_equalIn_struct m.w 9999 t (p.map (Value.int .i64)).toArray (q.map (Value.int .i64)).toArray (by rw[hfo];exact hu) m4;rw[hfo,Agn 9998 p q m.w pt Cs,uf,uf]at hr;refine HY hm (u := .bool (if ne then !(decide (p=q)) else decide (p=q))) ?_ (nH _);cases ne
 ·simp [execOp,m7,ex,ey,run_eqGuard_agg m.w _ t x y _ _ hg,run_eql_struct,hr]
 ·simp [execOp,m7,ex,ey,run_eqGuard_agg m.w _ t x y _ _ hg,run_neq_struct,hr]
theorem AmM (hm:DR B S w0 m) (hs:E9 B S m ρ a.eval) {f:UnOp} {x':BM} (h:C5 P num o.op (.un f x')=true) {v:AV} (hv:dR f (ρ x')=some v):FE B S w0 P o a m (.val v):=by
 obtain ⟨t,x,m7,h1⟩:=Aqj h;have hx:=hs x x' h1;unfold dR at hv;split at hv
 ·rename_i k n hk
  have ex:=NE (hk ▸ hx);split at hv
  ·obtain rfl:_=v:=by simpa using hv
   exact HY hm (by simp [execOp,m7,ex,Op.unary,Op.intArith]) (ZL _ _)
  ·obtain rfl:_=v:=by simpa using hv
   exact HY hm (by simp only[execOp,m7,ex,Op.unary];rfl) (ZL _ _)
  ·cases hv
 ·rename_i b hk
  have ex:=eT (hk ▸ hx);split at hv
  ·obtain rfl:_=v:=by simpa using hv
   exact HY hm (by simp [execOp,m7,ex,Op.unary]) (nH _)
  ·cases hv
 ·cases hv
theorem Amq (hm:DR B S w0 m) (hs:E9 B S m ρ a.eval) {k:IntKind} {x':BM} (h:C5 P num o.op (.conv k x')=true) {k':IntKind} {n:Int} (hx:ρ x' = .int k' n):FE B S w0 P o a m (.val (.int k (k.wrap n))):=by
 obtain ⟨s,d,x,ds,m7,Mo,hd,h1⟩:=Ap6 h;have ex:=NE (hx ▸ hs x x' h1);refine HY hm (u := .int k (k.wrap n)) ?_ (ZL _ _);simp [execOp,m7,ex,convert,run_underlying Mo,run_underlying hd,Conv.intToInt]
theorem ArT (t:TypeId) (a:Option Addr) (n c:Nat) {e:TypeId} (hu:P.underlying t=some (.slice e)) (w:World):(Op.equal t (.slice a n c) (.slice none 0 0)).run P w = .ok a.isNone w:=by
 have h : ∀ d:Nat,(Op.equalIn (d+1) t (.slice a n c) (.slice none 0 0)).run P w = .ok a.isNone w:=λ d=>by
  unfold Op.equalIn;rw[Sem.run_bind,run_underlying hu];cases a<;>rfl
 exact h 9999
theorem ArR (f:BinOp) (t:TypeId) (x y:Operand) (a b:Option Addr) (n c n' c':Nat) (w:World):(eqGuard f t x y (.slice a n c) (.slice b n' c')).run P w = .ok () w:=by
 unfold eqGuard;cases f<;>simp
theorem rN (hm:DR B S w0 m) (hs:E9 B S m ρ a.eval) {ne:Bool} {x':BM} (h:C5 P num o.op (.Cg ne x')=true) {b:Bool} (hx : ∀ v,CV B S m (ρ x') v -> ∃ ad n c,v = .slice ad n c/\ad.isNone=b) :
  FE B S w0 P o a m (.val (.bool (xor b ne))):=by
 obtain ⟨t,x,u,e,m7,hu,h1⟩:=Ap9 h;obtain ⟨ad,n,c,ex,hb⟩:=hx _ (hs x x' h1);refine HY hm (u := .bool (xor b ne)) ?_ (nH _);have e0:a.eval (.const (.slice none 0 0)) = .slice none 0 0:=rfl;cases ne<;>cases b<;>simp [execOp,m7,ex,e0,ArR,binOp,ArT t ad n c hu,hb]
theorem aH {v:Value} (h:CV B S m .nil v):v = .slice none 0 0:=by
 cases h with
 | ca h=>cases h with
  | one h=>cases h with
   | rd h=>cases h
   | nil=>rfl
theorem AcZ {b:Bool} {v:Value} (h:CV B S m (.iz (.bool b)) v) : ∃ ad c,v = .slice ad 0 c/\ad.isNone=b:=by
 cases h with
 | ca h=>cases h with
  | one h=>cases h with
   | rd h=>cases h with
    | emp b a cap h=>exact ⟨a,cap,rfl,h⟩
theorem AlK {l:Bool} {e:d_} {es:c_} {v:Value} (h:CV B S m (.sl l (e::es)) v) : ∃ ad n c,v = .slice ad n c/\ad.isNone=false:=by
 cases h with
 | ca h=>cases h with
  | one h=>cases h with
   | rd h=>cases h with
    | sl=>exact ⟨_,_,_,rfl,rfl⟩
theorem AlJ {s t z off n:Nat} {v:Value} (h:CV B S m (.row s t z off (n+1)) v) : ∃ ad n c,v = .slice ad n c/\ad.isNone=false:=by
 cases h with
 | ca h=>cases h with
  | one h=>cases h with
   | rd h=>cases h
   | row _ _ _ _ _ a cap _ _ _ ha=>exact ⟨_,_,_,rfl,by have:=ha D';cases a<;>simp_all⟩
theorem AmI (hm:DR B S w0 m) (hs:E9 B S m ρ a.eval) {tb:a_} {x':BM} (h:C5 P num o.op (.oz tb x')=true) {k:IntKind} {n:Int} {v:Nat} (hx:ρ x' = .int k n) (h0:0<=n) (hv:tb[n.toNat]? = some v) :
  FE B S w0 P o a m (.val (.int .u8 v)):=by
 obtain ⟨t,s,i,m7,hu,Gg,h1⟩:=Aqg h;have ex:=NE (hx ▸ hs i x' h1);have hb : ∃ b:UInt8,s[n.toNat]? = some b/\b.toNat=v:=by
  rw[<-Gg,List.getElem?_map]at hv;cases hg:s.data.toList[n.toNat]? with
  | none=>simp [hg]at hv
  | some b =>
   simp only[hg,Je,yc]at hv;refine ⟨b,?_,hv⟩;have n7:n.toNat<s.size:=by
    have:=(zS hg).1
    simpa using this
   rw[getElem?_pos s n.toNat n7];congr 1;have:=(zS hg).2
   rw[<-this];rfl
 obtain ⟨b,Dk,ag⟩:=hb;refine HY hm (u := .int .u8 v) ?_ (ZL _ _);have e0:a.eval (.const (.string s)) = .string s:=rfl;simp [execOp,m7,ex,e0,Instr.index,asIntOf,run_underlying hu,h0,Dk,ag]
theorem Aq9 {x c:AV} {v:Value} (h:CV B S m x v) (hc:LT x=some c):CC B S m c v:=by
 cases h with
 | any=>simp [LT]at hc
 | e9=>simp [LT]at hc
 | ca h=>cases h with
  | agg=>simp [LT]at hc
  | fn=>simp [LT]at hc
  | Cm=>simp [LT]at hc
  | one h =>
   have:c=x:=by
    cases h with
    | rd h=>cases h<;>simp [LT]at hc<;>exact hc.symm
    | _=>simp [LT]at hc;exact hc.symm
   subst this;exact h
theorem AdE (hs:E9 B S m ρ a.eval) : ∀ {xs:List Operand} {q7:List BM} {cs:d_},H4 xs q7=true->q7.mapM (λ x=>LT (ρ x))=some cs->CL B S m cs (xs.map a.eval)
 | [],[],cs,_,h=>by
  simp at h;subst h;exact ⟨rfl,λ j c v h=>by simp at h⟩
 | x::r,y::l,cs,h,hc=>by
  simp only[H4,ka]at h;simp only[Dd,Gc,Td]at hc;cases h1:LT (ρ y) with
  | none=>simp [h1]at hc
  | some c =>
   cases h2:l.mapM (λ x=>LT (ρ x)) with
   | none=>simp [h1,h2]at hc
   | some lf =>
    simp [h1,h2]at hc;subst hc;have ih:=AdE hs h.2 h2;refine ⟨by simpa using ih.1,λ j c' v hj hv => ?_⟩;cases j with
    | zero =>
     simp at hj hv;subst hj hv;exact Aq9 (hs x y h.1) h1
    | succ j=>exact ih.2 j c' v (by simpa using hj) (by simpa using hv)
 | [],_::_,_,h,_=>by simp [H4]at h
 | _::_,[],_,h,_=>by simp [H4]at h
theorem AmD (hm:DR B S w0 m) (hs:E9 B S m ρ a.eval) {p:Bool} {f:Nat} {q7:List BM} (h:C5 P num o.op (.Au p f q7)=true) {cs:d_} (hc:q7.mapM (λ x=>LT (ρ x))=some cs) :
  FE B S w0 P o a m (.val (.fn (p&&cs.isEmpty) f (num f) cs)):=by
 obtain ⟨first,xs,m7,rfl,he⟩:=Aqd h;have q5:=AdE hs he hc;have od:(xs.map a.eval)=(xs.toList.map a.eval).toArray:=by cases xs;simp
 refine HY hm (u := .func (.func (num f)) #[] (xs.toList.map a.eval).toArray) ?_ (.ca (.fn (p&&cs.isEmpty) f (num f) cs _ (λ h=>by simpa using (ka _ _ ▸ h:p=true/\cs.isEmpty=true).2) q5));simp [execOp,m7,Instr.makeFunc,od]
end
end Go.j4

namespace Go.j4
open Go.RowKit
section
variable {B:Nat} {S:Nat->Prop} {w0:World} {m:M}
variable {P:Program} {num:Nat->Nat} {o:Oper} {a:Act} {ρ:BM->AV}
theorem jI {cs:d_} {vs:List Value} (h:CL B S m cs vs) {j:Nat} {c:AV} (hj:cs[j]? = some c) : ∃ u,vs[j]? = some u/\CC B S m c u:=by
 have n7:j<cs.length:=(zS hj).1;have Dw:j<vs.length:=by rw[<-h.1];exact n7
 exact ⟨vs[j],zE Dw,h.2 j c _ hj (zE Dw)⟩
theorem Aq1 {s:Nat} {b:HU} {w':World} {g:Nat}:CV B S ⟨k6 m s (some g),m.own.put s ((m.own s).new b),w'⟩ (.ptr s (m.own.j8 s) 0 0) (.pointer (some ⟨g,0,none⟩)):=by
 refine .ca (.one (.ptr s (m.own.j8 s) 0 0 ⟨g,0,none⟩ ?_ λ b' m9=>⟨g,?_,p_⟩))
 ·show _<BF.j8 _ s
  rw[V0];simp
 ·simp [k6]
theorem Ade (hm:DR B S w0 m) (s:Nat) (cs:d_) (vs:Array Value) (e:TypeId) (hc:CL B S m cs vs.toList) (h:(execOp a.eval o).run P m.w = .ok (.value (.pointer (some ⟨m.w.heap.size,0,none⟩))) (m.w.alloc (.cells vs e))) :
  FE B S w0 P o a m (.new s ⟨cs.length,[cs]⟩ (λ t => .ptr s t 0 0)):=by
 intro K Q hK;obtain ⟨h1,h2⟩:=qM hm s ⟨cs.length,[cs]⟩ vs e p_ (λ i lf hi j c hj=>by
  cases i with
  | zero =>
   obtain rfl:cs=lf:=by simpa using hi
   obtain ⟨u,hu,fe⟩:=jI hc hj;exact ⟨u,by simpa using hu,fe⟩
  | succ i=>simp at hi)
 exact YO h (hK _ ⟨k6 m s (some m.w.heap.size),m.own.put s ((m.own s).new ⟨cs.length,[cs]⟩),m.w.alloc (.cells vs e)⟩ rfl h1 h2 Aq1)
theorem Amg (hm:DR B S w0 m) (hs:E9 B S m ρ a.eval) {s:Nat} {x':BM} (h:C5 P num o.op (.box s x')=true) {cs:d_} (hc:cellsOf (ρ x')=some cs) :
  FE B S w0 P o a m (.new s ⟨cs.length,[cs]⟩ (λ t => .ptr s t 0 0)):=by
 obtain ⟨t,x,m7,h1⟩:=ApY h;exact Ade hm s cs (a.eval x).cells t (rE (hs x x' h1) hc) (by simp [execOp,m7,Instr.box,newVar,newRow])
theorem Ama (hm:DR B S w0 m) {s:Nat} {z:d_} (h:C5 P num o.op (.alloc s z)=true):FE B S w0 P o a m (.new s ⟨z.length,[z]⟩ (λ t => .ptr s t 0 0)):=by
 obtain ⟨t,m7,h1⟩:=ApU h;obtain ⟨i,v,hi,hz,he⟩:=Zs h1;exact Ade hm s z v.cells t (jN he) (by simp [execOp,m7,Instr.alloc,zeroValue,typeInfo,hi,hz,newVar,newRow])
theorem zL (off:Nat) : ∀ (vs:List Value) (k:Nat) (cells:Array Value),off+k+vs.length<=cells.size ->
  ((vs.zipIdx k).foldl (λ cs (x:Value × Nat)=>cs.setIfInBounds (off+x.2) x.1) cells).toList=cells.toList.take (off+k)++vs++cells.toList.drop (off+k+vs.length)
 | [],k,cells,_=>p_
 | v::r,k,cells,h=>by
  simp only[Ub]at h;rw[List.zipIdx_cons,List.foldl_cons,zL off r (k+1) _ W_];simp only[Array.toList_setIfInBounds,Ub];apply Ge;intro q;have e1:(cells.toList.set (off+k) v).drop (off+(k+1)+r.length)=cells.toList.drop (off+k+(r.length+1)):=by
   rw[show off+(k+1)+r.length=off+k+(r.length+1) by omega];exact Oe D'
  have e2:(cells.toList.set (off+k) v).take (off+(k+1))=cells.toList.take (off+k)++[v]:=by
   rw[show off+(k+1)=off+k+1 by omega,List.take_succ_eq_append_getElem W_];simp [yd]
  rw[e1,e2];simp
theorem zD (place:Nat->Option (Nat × Nat)) (hs:E9 B S m ρ a.eval) : ∀ (ps:List (Nat × Operand)) (kx:List (Nat × Nat × BM)) (cs lf:d_) (vs:Array Value),gH place ps kx=true->CL B S m cs vs.toList ->
  fill cs (kx.map λ p=>(p.1,p.2.1,ρ p.2.2))=some lf -> ∃ iq,Instr.fill place vs (ps.map λ p=>(p.1,a.eval p.2))=some iq/\CL B S m lf iq.toList
 | [],[],cs,lf,vs,_,hc,hf=>by
  simp [fill]at hf;subst hf;exact ⟨vs,rfl,hc⟩
 | (i,x)::r,(off,n,y)::l,cs,lf,vs,hp,hc,hf=>by
  simp only[gH,ka,beq_iff_eq]at hp;obtain ⟨⟨Uc,Jx⟩,hp3⟩:=hp;simp only[ue,fill]at hf;cases hcell:cellsOf (ρ y) with
  | none=>simp [hcell]at hf
  | some us =>
   simp only[hcell]at hf;split at hf
   ·rename_i hn
    obtain ⟨hn1,vk⟩:=hn;have my:=rE (hs x y Jx) hcell;have cz:(a.eval x).cells.size=n:=by rw[<-hn1,my.1];simp
    have Np:off+(a.eval x).cells.size<=vs.size:=by rw[cz];have:=hc.1;simp at this;omega
    have Dq:=zL off (a.eval x).cells.toList 0 vs (by simpa using Np);have pf:Instr.fill place vs (((i,x)::r).map λ p=>(p.1,a.eval p.2))=Instr.fill place ((a.eval x).cells.zipIdx.foldl (λ cs (c,j)=>cs.setIfInBounds (off+j) c) vs) (r.map λ p=>(p.1,a.eval p.2)):=by
     simp only[ue,Instr.fill,Uc];rw[if_neg W_]
    rw[pf];refine zD place hs r l (splice cs off us) lf _ hp3 ?_ hf;have hz:((a.eval x).cells.zipIdx.foldl (λ cs (c,j)=>cs.setIfInBounds (off+j) c) vs).toList=vs.toList.take off++(a.eval x).cells.toList++vs.toList.drop (off+(a.eval x).cells.toList.length):=by
     rw[<-Le];simpa using Dq
    rw[hz];unfold splice;refine ⟨?_,λ j c v hj hv => ?_⟩
    ·have:=hc.1;have:=my.1;simp at *;omega
    ·have rf:=hc.1
     have lv:=my.1;simp only[Vc]at rf lv;rw[Te]at hj hv;simp only[List.length_append,Gb,Vc]at hj hv;rw[Te]at hj hv;simp only[Gb,Vc]at hj hv;have ti:min off cs.length=off:=D'
     have pd:min off vs.size=off:=D'
     rw[ti]at hj;rw[pd]at hv;rw[<-lv]at hv;split at hj
     ·rename_i h1
      rw[if_pos h1]at hv;split at hj
      ·rename_i h2
       rw[if_pos h2]at hv;rw[Qc]at hj hv;rw[if_pos h2]at hj hv;exact hc.2 j c v hj hv
      ·rename_i h2
       rw[if_neg h2]at hv;exact my.2 _ c v hj hv
     ·rename_i h1
      rw[if_neg h1]at hv;rw[xd]at hj hv;exact hc.2 _ c v hj hv
   ·cases hf
 | [],_::_,_,_,_,hp,_,_=>by simp [gH]at hp
 | _::_,[],_,_,_,hp,_,_=>by simp [gH]at hp
theorem Ami (hm:DR B S w0 m) (hs:E9 B S m ρ a.eval) {z:d_} {kx:List (Nat × Nat × BM)} (h:C5 P num o.op (.build z kx)=true) {cs:d_} (hf:fill z (kx.map λ p=>(p.1,p.2.1,ρ p.2.2))=some cs) :
  FE B S w0 P o a m (.val (.agg cs)):=by
 obtain ⟨t,ps,m7,h1,h2⟩:=Ap0 h;obtain ⟨i,v,hi,hz,he⟩:=Zs h1;have key : ∃ iq,P.built t (ps.map λ p=>(p.1,a.eval p.2)).toList=some iq/\CL B S m cs iq.toList:=by
  unfold wE at h2;unfold Program.built;split at h2
  ·rename_i fs hu
   split at h2
   ·rename_i places hp
    obtain ⟨iq,h3,h4⟩:=zD _ hs ps.toList kx z cs v.cells h2 (jN he) hf;refine ⟨iq,?_,h4⟩;simp only[hi,hu,hz,hp,Nc];exact h3
   ·cases h2
  ·rename_i n e hu
   split at h2
   ·rename_i ie hie
    obtain ⟨iq,h3,h4⟩:=zD _ hs ps.toList kx z cs v.cells h2 (jN he) hf;refine ⟨iq,?_,h4⟩;simp only[hi,hu,hz,hie,Nc];exact h3
   ·cases h2
  ·cases h2
 obtain ⟨iq,h3,h4⟩:=key;refine HY hm (u := .agg iq) ?_ (.ca (by simpa using CA.agg cs iq.toList h4));simp only[execOp,m7,Sem.run_bind];rw[run_build m.w t _ iq h3];rfl
theorem Aes (size:Nat) (hs:E9 B S m ρ a.eval) : ∀ (ps:List (Nat × Operand)) (kx:List BM) (k:Nat) (es:c_) (vs:Array Value),fI k ps kx=true->kx.mapM (λ x=>cellsOf (ρ x))=some es->(∀ e∈es,e.length=size)->vs.size=(k+kx.length)*size ->
  ∃ iq,Instr.fill (λ i=>some (i*size,size)) vs (ps.map λ p=>(p.1,a.eval p.2))=some iq/\iq.size=vs.size/\(∀ q,q<k*size->iq[q]? = vs[q]?) /\ ∀ i cs,es[i]? = some cs -> ∀ j c,cs[j]? = some c -> ∃ u,iq[(k+i)*size+j]? = some u/\CC B S m c u
 | [],[],k,es,vs,_,qw,_,_=>by
  simp at qw;subst qw;exact ⟨vs,rfl,rfl,λ_ _=>rfl,λ i cs hi=>by simp at hi⟩
 | (i,x)::r,y::l,k,es,vs,he,qw,hz,hv=>by
  simp only[fI,ka,beq_iff_eq]at he;obtain ⟨⟨rfl,h1⟩,h2⟩:=he;simp only[Dd,Gc,Td]at qw;cases hcell:cellsOf (ρ y) with
  | none=>simp [hcell]at qw
  | some us =>
   cases jz:l.mapM (λ x=>cellsOf (ρ x)) with
   | none=>simp [hcell,jz]at qw
   | some es' =>
    simp [hcell,jz]at qw;subst qw;have my:=rE (hs x y h1) hcell;have hus:us.length=size:=hz us p_;have cz:(a.eval x).cells.size=size:=by rw[<-hus,my.1];simp
    simp only[Ub]at hv;have hle:i*size+size<=vs.size:=by rw[hv,show i+(l.length+1)=i+1+l.length by omega,ec,ec];omega
    have Dq:=zL (i*size) (a.eval x).cells.toList 0 vs (by simp [cz];omega);generalize Uw:(a.eval x).cells.zipIdx.foldl (λ cs (c,j)=>cs.setIfInBounds (i*size+j) c) vs=Qy;have nj:Qy.toList=vs.toList.take (i*size)++(a.eval x).cells.toList++vs.toList.drop (i*size+size):=by
     rw[<-Uw,<-Le];simpa [cz] using Dq
    have Qj:Qy.size=vs.size:=by
     have:=congrArg List.length nj
     simp [cz]at this;omega
    obtain ⟨iq,h3,h4,h5,h6⟩:=Aes size hs r l (i+1) es' Qy h2 jz (λ e he=>hz e (by simp [he])) (by rw[Qj,hv];congr 1;omega);refine ⟨iq,?_,h4.trans Qj,λ q hq => ?_,λ i' cs v5 j c hj => ?_⟩
    ·simp only[ue,Instr.fill]
     rw[if_neg (by simp [cz];omega),Uw];exact h3
    ·rw[h5 q (by rw[ec];omega)]
     have:Qy.toList[q]? = vs.toList[q]? := by
      rw[nj,Ee,ze W_,Qc,if_pos hq]
     simpa using this
    ·cases i' with
     | zero =>
      obtain rfl:us=cs:=by simpa using v5
      obtain ⟨u,hu,fe⟩:=jI my hj;have jy:j<size:=by rw[<-hus];exact (zS hj).1
      refine ⟨u,?_,fe⟩;rw[Nat.add_zero,h5 _ (by rw[ec];omega)];have:Qy.toList[i*size+j]? = some u:=by
       rw[nj,Ee,List.getElem?_append_right W_];simp only[Gb,Vc,show min (i*size) vs.size=i*size by omega,show i*size+j-i*size=j by omega];rw[ze (by simp [cz];omega)];exact hu
      simpa using this
     | succ i' =>
      obtain ⟨u,hu,fe⟩:=h6 i' cs (by simpa using v5) j c hj;exact ⟨u,by rw[show i+(i'+1)=i+1+i' by omega];exact hu,fe⟩
 | [],_::_,_,_,_,he,_,_,_=>by simp [fI]at he
 | _::_,[],_,_,_,he,_,_,_=>by simp [fI]at he
theorem Xo {s z n cap:Nat} {es:c_} {w':World} {g:Nat} {arr:Array Value} {e:TypeId} (hz:0<z) (hn:n<=cap) (hg:w'.heap[g]? = some (.cells arr e (0,0))) (hc:cap*z<=arr.size) :
  CV B S ⟨k6 m s (some g),m.own.put s ((m.own s).new ⟨z,es⟩),w'⟩ (.row s (m.own.j8 s) z 0 n) (.slice (some ⟨g,0,none⟩) n cap):=by
 refine .ca (.one (.row s (m.own.j8 s) z 0 n _ cap ?_ hz hn (λ_=>rfl) λ b' m9=>⟨?_,.inr ⟨g,arr,e,?_,p_,hg,by simpa using hc⟩⟩))
 ·show _<BF.j8 _ s
  rw[V0];simp
 ·change BF.get _ s _=some b' at m9
  rw[K2,if_pos ⟨rfl,rfl⟩]at m9;obtain rfl:(⟨z,es⟩:HU)=b':=by simpa using m9
  rfl
 ·simp [k6]
theorem Adj (hm:DR B S w0 m) (s z n cap:Nat) (es:c_) (vs:Array Value) (e:TypeId) (jt:0<z) (hn:n<=cap) (cz:cap*z<=vs.size) (hz : ∀ x∈es,x.length=z)
  (hc : ∀ i cs,es[i]? = some cs -> ∀ j c,cs[j]? = some c -> ∃ u,vs[i*z+j]? = some u/\CC B S m c u)
  (h:(execOp a.eval o).run P m.w = .ok (.value (.slice (some ⟨m.w.heap.size,0,none⟩) n cap)) (m.w.alloc (.cells vs e))) :
  FE B S w0 P o a m (.new s ⟨z,es⟩ (λ t => .row s t z 0 n)):=by
 intro K Q hK;obtain ⟨h1,h2⟩:=qM hm s ⟨z,es⟩ vs e hz hc;exact YO h (hK _ ⟨k6 m s (some m.w.heap.size),m.own.put s ((m.own s).new ⟨z,es⟩),m.w.alloc (.cells vs e)⟩ rfl h1 h2 (Xo jt hn (heap_alloc_new _ _) cz))
theorem Amh (hm:DR B S w0 m) (hs:E9 B S m ρ a.eval) {s a9:Nat} {kx:List BM} (h:C5 P num o.op (.c8 s a9 kx)=true) {es:c_} (qw:kx.mapM (λ x=>cellsOf (ρ x))=some es) (hz : ∀ e∈es,e.length=a9) :
  FE B S w0 P o a m (.new s ⟨a9,es⟩ (λ t => .row s t a9 0 es.length)):=by
 obtain ⟨t,n,ps,e,i,m7,hu,hi,cz,h0,hn,AuW,lg,hzero⟩:=ApZ h;have hlen:es.length=n:=by
  rw[hn];clear h lg hzero hn;induction kx generalizing es with
  | nil=>simp at qw;subst qw;rfl
  | cons y l ih =>
   simp only[Dd,Gc,Td]at qw;cases hcell:cellsOf (ρ y) with
   | none=>simp [hcell]at qw
   | some us =>
    cases jz:l.mapM (λ x=>cellsOf (ρ x)) with
    | none=>simp [hcell,jz]at qw
    | some es' =>
     simp [hcell,jz]at qw;subst qw;simp [ih jz (λ e he=>hz e (by simp [he]))]
 obtain ⟨zc,Ko⟩ : ∃ zc:Array Value,(n*a9=0/\zc = #[])\/(¬ n*a9=0 /\ ∃ z,i.zero=some z/\zc=z.cells):=by
  by_cases n6:n*a9=0
  ·exact ⟨#[],.inl ⟨n6,rfl⟩⟩
  ·rcases hzero with Hb|⟨z,nj,ru⟩
   ·simp [Hb]at n6
   ·exact ⟨z.cells,.inr ⟨n6,z,nj,rfl⟩⟩
 have Vf:((Array.range (n*a9)).map (zc[· % zc.size]!)).size=n*a9:=p_
 obtain ⟨iq,h3,h4,_,h6⟩:=Aes a9 hs ps.toList kx 0 es _ lg qw hz (by rw[Vf,hn];simp);have w5:(execOp a.eval o).run P m.w = .ok (.value (.slice (some ⟨m.w.heap.size,0,none⟩) n n)) (m.w.alloc (.cells iq e)):=by
  simp only[execOp,m7,Instr.buildSlice,Sem.run_bind,run_underlying hu,Result.andThen_ok,sizeOf,typeInfo,run_program,hi,Sem.run_pure,cz];simp only[show ¬ (n*a9>2^24) from D',if_false,Sem.run_bind,Sem.run_pure,Result.andThen_ok];rcases Ko with ⟨Hb,rfl⟩|⟨Hb,z,nj,rfl⟩
  ·simp only[Hb,if_true,Sem.run_bind,Sem.run_pure,Result.andThen_ok,Nc]
   rw[Hb]at h3;rw[h3];rfl
  ·simp only[Hb,if_false,Sem.run_bind,Sem.run_pure,Result.andThen_ok,Nc,zeroValue,typeInfo,run_program,hi,nj]
   rw[h3];rfl
 rw[hlen];exact Adj hm s a9 n n es iq e (ud h0) (Sa _) (by rw[h4,Vf];exact Sa _) hz (λ i cs v5 j c hj=>by simpa using h6 i cs v5 j c hj) w5
end
end Go.j4
