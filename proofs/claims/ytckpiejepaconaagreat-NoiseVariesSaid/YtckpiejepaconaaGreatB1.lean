/-
  The abstract machine: data without memory. AV: a value; slices that are only read are lists ('sl'), rows and boxes of the call's own are named by a site and a stamp.
  Nothing here speaks of a program; EngSound ties it to the model.
-/
import Derived.Calls
import Derived.Below
import Derived.Laws.CopyRow
import Derived.Laws.Cells
import Derived.Laws.MakeOwn
import Derived.Laws.AppendOwn
import Derived.Deep.AppendSrc
import Derived.Deep.Draws
import Derived.ArgAppend
set_option linter.unusedSimpArgs false
set_option linter.unusedVariables false
set_option linter.unnecessarySimpa false
open Array renaming getElem?_eq_some_iff->za
open BitVec renaming ofInt->sa
open Int renaming mul_nonneg->ga,mul_nonpos_of_nonpos_of_nonneg->Ka,mul_nonpos_of_nonneg_of_nonpos->Ja,mul_le_mul_of_nonpos_left->Ea,mul_le_mul_of_nonneg_left->Da,gcd->zb,emod_add_mul_ediv->eb,emod_lt_of_pos->Nb,emod_nonneg->Jb,mul_pos->Db
open List renaming replicate->ya,length_cons->oa,length_take->ea,eq_nil_of_length_eq_zero->Ga,getElem?_cons_succ->ub,getElem?_set_self->qb,take_set_of_le->Rb,take_add_one->Ob,mem_cons->Hb,range'->Fb
open Nat renaming le_refl->xa,mul_le_mul_left->va,div_lt_iff_lt_mul->ua,two_pow_pos->qa,lt_of_lt_of_le->ja,pow_add->da,mul_add->Ra,min_eq_left->Qa,mul_assoc->Pa,le_div_iff_mul_le->Na,pow_le_pow_right->Ma,mul_comm->Ia,le_trans->Ha,strongRecOn->Ca,mod_add_div->Ba,pow_succ->ob,mul_succ->nb,lt_or_ge->gb,mul_mod_mul_right->fb,add_mul->db,div_mul_le_self->Qb,pos_of_ne_zero->Pb,lt_log2_self->Mb,log2_self_le->Lb,div_add_mod->Kb,mul_le_mul->Ib,one_mul->Eb,mod_lt->Ab
open Option renaming some.inj->Oa,some.injEq->La
open Prod renaming mk.injEq->yb
namespace Go.c6
theorem O' {p:Prop} (h:p:=by omega):p:=h
theorem V' {p:Prop} (h:p:=by assumption):p:=h
theorem Y' {p:Prop} (h:p:=by decide):p:=h
theorem Z' {p:Prop} (h:p:=by simp):p:=h
theorem A' {p:Prop} (h:p:=by grind):p:=h
theorem B' {p:Prop} (h:p:=by (conv=>whnf);exact ⟨rfl,rfl,rfl⟩):p:=h
theorem D' {p:Prop} (h:p:=by intro e;cases e):p:=h
theorem E' {p:Prop} (h:p:=by rw[List.length_map];omega):p:=h
theorem F' {p:Prop} (h:p:=by rw[List.length_take];omega):p:=h
theorem G' {p:Prop} (h:p:=by simp;omega):p:=h
theorem H' {α:Type} (l:List α) (i:Nat) (h:i<l.length:=by omega) : ∃ x,l[i]? = some x:=⟨_,List.getElem?_eq_getElem h⟩
abbrev J':=List (List Rat)
abbrev K':=List Rat
abbrev N':=List Nat
theorem zE {α : Type} {l : List α} {i : Nat} (h : i < l.length) : l[i]? = some l[i] :=
 List.getElem?_eq_getElem h
theorem zS {α : Type} {l : List α} {i : Nat} {a : α} (h : l[i]? = some a) : ∃ h : i < l.length, l[i] = a :=
 List.getElem?_eq_some_iff.1 h
theorem zM {α : Type} {l : List α} {i : Nat} {a : α} (h : l[i]? = some a) : a ∈ l :=
 List.mem_of_getElem? h
theorem zR {m n : Nat} (k : Nat) (h : m <= n) : m * k <= n * k :=
 Nat.mul_le_mul_right k h
theorem zT {α : Type} {l : List α} {i : Nat} (h : l.length <= i) : l.take i = l :=
 List.take_of_length_le h
end Go.c6
namespace Go.c6
inductive AV where
 | int (k:IntKind) (n:Int)
 | bool (b:Bool)
 | sl (l:Bool) (es:List (List AV))
 | row (s t z off len:Nat)
 | nil
 | ptr (s t i j:Nat)
 | s9 (cs:List AV)
 | agg (cs:List AV)
 | c5 (vs:List AV)
 | cp (v:Value)
 | fn (p:Bool) (f g:Nat) (cs:List AV)
 | any
 deriving Inhabited
abbrev P':=Option (Nat × List (List AV))
abbrev o_:=List (List AV)
abbrev u_:=List AV
inductive AU where
 | t (n:Nat)
 | c (v:AV)
 deriving Inhabited
structure EP where
 a8:Nat
 es:o_
structure CO where
 g7:Nat
 c9:Nat->Option EP
def AJ:=Nat->CO
def AJ.emp:AJ:=λ_=>⟨0,λ_=>none⟩
def AJ.put (o:AJ) (s:Nat) (x:CO):AJ:=λ s'=>if s'=s then x else o s'
def AJ.get (o:AJ) (s t:Nat):Option EP:=(o s).c9 t
def AJ.g7 (o:AJ) (s:Nat):Nat:=(o s).g7
def CO.q6 (x:CO) (t:Nat) (b:Option EP):CO:=⟨x.g7,λ t'=>if t'=t then b else x.c9 t'⟩
def CO.new (x:CO) (b:EP):CO:=⟨x.g7+1,λ t'=>if t'=x.g7 then some b else x.c9 t'⟩
theorem AJ.j7 (o:AJ) (s:Nat) (x:CO):o.put s x s=x:=by simp [AJ.put]
theorem AJ.gv (o:AJ) (s s':Nat) (x:CO) (h:s'≠s):o.put s x s'=o s':=by simp [AJ.put,h]
theorem AJ.tj (o:AJ) (s:Nat) (x y:CO):(o.put s x).put s y=o.put s y:=by
 funext s';by_cases h:s'=s<;>simp [AJ.put,h]
inductive EI where
 | m5 (x:AU)
 | v5 (s a8:Nat)
 | pick (c a b:AU)
 | bin (op:BinOp) (x y:AU)
 | beq (ne:Bool) (x y:AU)
 | un (op:UnOp) (x:AU)
 | conv (k:IntKind) (x:AU)
 | box (s:Nat) (x:AU)
 | alloc (s:Nat) (zero:u_)
 | build (zero:u_) (parts:List (Nat × Nat × AU))
 | a7 (s a8:Nat) (parts:List AU)
 | j4 (x:AU) (off:Nat)
 | pn (x:AU) (off n:Nat) (agg:Bool)
 | u6 (arr:Option Nat) (a8:Nat) (x i:AU)
 | ld (agg:Bool) (n:Nat) (x:AU)
 | st (n:Nat) (x v:AU)
 | mk (s a8 bytes:Nat) (zero:u_) (l c:AU)
 | di (a8:Nat) (x:AU) (lo hi:Option AU)
 | ext (x:AU) (i:Nat)
 | len (x:AU)
 | mm (max:Bool) (xs:List AU)
 | app (s a8 bytes:Nat) (x y:AU)
 | call (f:Nat) (xs:List AU)
 | c7 (f:Nat) (xs:List AU)
 | uq (ne:Bool) (x:AU)
 | gx (tb:N') (x:AU)
 | ri (p:Bool) (f:Nat) (xs:List AU)
 | m9 (x:AU) (xs:List AU)
 | vm (agg:Bool) (n:Nat) (x:AU)
 | ti (f:Nat) (x:AU)
 | j6 (f:Nat) (xs:List AU)
 | pe (s n:Nat) (x v:AU)
 | n7 (s f:Nat) (xs:List AU)
 | tk (ne:Bool) (n:Nat) (x y:AU)
 | fx (x:AU)
 | pg (s a8 bytes:Nat) (x y:AU)
 | cg (s f:Nat) (xs:List AU)
 | bad
 deriving Inhabited
structure AI where
 dst:Option Nat
 op:EI
 guard:Option (Nat × Bool):=none
 b7:N':=[]
 deriving Inhabited
inductive BK where
 | skip
 | ops (l:List AI) (draw:Bool)
 | dr (c:BK) (ts ss:N')
 | scope (c:BK)
 | seq (a b:BK)
 | cond (c:AU) (a b:BK)
 | block (id:Nat) (c:BK)
 | loop (c:BK)
 | exit (id:Nat)
 | ret
 deriving Inhabited
inductive KW where
 | tmp (t:Nat)
 | cell (t:Nat) (agg:Bool) (n:Nat)
 deriving Inhabited
structure AFn where
 ay:Nat
 body:BK
 res:List KW
 ry:Bool
abbrev Tm:=List (Nat × AV)
def e9:Tm->Nat->AV
 | [],_ => .any
 | (i,v)::r,j=>if j=i then v else e9 r j
def kb:Tm->Nat->AV->Tm
 | [],j,u=>[(j,u)]
 | (i,v)::r,j,u=>if j=i then (i,u)::r else if j<i then (j,u)::(i,v)::r else (i,v)::kb r j u
def af:Tm->N'->Tm
 | [],_=>[]
 | (i,v)::r,l=>if l.contains i then af r l else (i,v)::af r l
theorem cH (m:Tm) (i:Nat) (v:AV) (j:Nat):e9 (kb m i v) j=if j=i then v else e9 m j:=by
 induction m with
 | nil=>by_cases h:j=i<;>simp [kb,e9,h]
 | cons x r ih =>
  obtain ⟨a,u⟩:=x;by_cases h:i=a
  ·subst h
   by_cases h2:j=i<;>simp [kb,e9,h2]
  ·by_cases j9:i<a
   ·by_cases h2:j=i<;>simp [kb,e9,h,j9,h2]
   ·by_cases h2:j=a
    ·subst h2
     have : ¬ j=i:=λ e=>h e.symm
     simp [kb,e9,h,j9,this]
    ·simp [kb,e9,h,j9,h2,ih]
structure St where
 tm:Tm
 own:AJ
def St.ev (st:St):AU->AV
 | .t n=>e9 st.tm n
 | .c v=>v
inductive CI where
 | val (v:AV)
 | new (s:Nat) (b:EP) (v:Nat->AV)
 | Bf (s:Nat) (b:EP) (v:Nat->AV)
 | dw (v:AV) (own:AJ)
 | q6 (s:Nat) (x:CO)
 | zw (s:Nat) (x:CO) (v:AV)
 | Cu (s:Nat) (v:AV) (own:AJ)
def cellsOf:AV->Option (u_)
 | .agg cs=>some cs
 | .fn _ _ _ _=>none
 | .c5 _=>none
 | .any=>none
 | v=>some [v]
def LB (agg:Bool) (cs:u_):Option AV :=
 if agg then some (.agg cs) else match cs with|[c]=>some c|_=>none
def part (cs:u_) (off n:Nat):Option (u_) :=
 if off+n<=cs.length then some ((cs.drop off).take n) else none
def splice (cs:u_) (off:Nat) (vs:u_):u_:=cs.take off++vs++cs.drop (off+vs.length)
def fill (cells:u_):List (Nat × Nat × AV)->Option (u_)
 | []=>some cells
 | (off,n,v)::r=>match cellsOf v with
  | some vs=>if vs.length=n/\off+n<=cells.length then fill (splice cells off vs) r else none
  | none=>none
def DP (op:BinOp) (k:IntKind) (a:Int) (k':IntKind) (b:Int):Option AV :=
 match op with
 | .shl=>if b<0 then none else some (.int k (k.wrap (a*2^(min b.toNat k.bits))))
 | .shr=>if b<0 then none else some (.int k (a.fdiv (2^(min b.toNat k.bits))))
 | .add=>if k=k' then some (.int k (k.wrap (a+b))) else none
 | .sub=>if k=k' then some (.int k (k.wrap (a-b))) else none
 | .mul=>if k=k' then some (.int k (k.wrap (a*b))) else none
 | .quo=>if k=k'/\b≠0 then some (.int k (k.wrap (a.tdiv b))) else none
 | .rem=>if k=k'/\b≠0 then some (.int k (a.tmod b)) else none
 | .and=>if k=k' then some (.int k (k.wrap (sa k.bits a &&& sa k.bits b).toNat)) else none
 | .or=>if k=k' then some (.int k (k.wrap (sa k.bits a ||| sa k.bits b).toNat)) else none
 | .xor=>if k=k' then some (.int k (k.wrap (sa k.bits a ^^^ sa k.bits b).toNat)) else none
 | .andNot=>if k=k' then some (.int k (k.wrap (sa k.bits a &&& ~~~ sa k.bits b).toNat)) else none
 | .eql=>if k=k' then some (.bool (a == b)) else none
 | .neq=>if k=k' then some (.bool (a != b)) else none
 | .lss=>if k=k' then some (.bool (decide (a<b))) else none
 | .leq=>if k=k' then some (.bool (decide (a<=b))) else none
 | .gtr=>if k=k' then some (.bool (decide (a>b))) else none
 | .geq=>if k=k' then some (.bool (decide (a≥b))) else none
def VM (op:UnOp):AV->Option AV
 | .int k n=>match op with
  | .neg=>some (.int k (k.wrap (0-n)))
  | .xor=>some (.int k (k.wrap (sa k.bits (if k.signed then -1 else k.max) ^^^ sa k.bits n).toNat))
  | _=>none
 | .bool b=>match op with
  | .not=>some (.bool (!b))
  | _=>none
 | _=>none
def Q5 (max:Bool):AV->AV->Option AV
 | .int k a,.int _ b=>some (.int k (if max then (if b>a then b else a) else (if b<a then b else a)))
 | _,_=>none
def L6 (max:Bool):AV->u_->Option AV
 | v,[]=>some v
 | v,u::r=>match Q5 max v u with|some x=>L6 max x r|none=>none
def AJ.m7 (o:AJ):N'->AJ
 | []=>o
 | s::r=>λ s'=>if s'=s then ⟨0,λ_=>none⟩ else o.m7 r s'
def AJ.rh (own:AJ) (s t i j n:Nat):Option (u_) :=
 match own.get s t with
 | some b=>match b.es[i]? with
  | some cs=>part cs j n
  | none=>none
 | none=>none
def AJ.na (own:AJ) (s t i j:Nat) (vs:u_):Option AJ :=
 match own.get s t with
 | some b=>match b.es[i]? with
  | some cs=>if j+vs.length<=cs.length then some (own.put s ((own s).q6 t (some ⟨b.a8,b.es.set i (splice cs j vs)⟩))) else none
  | none=>none
 | none=>none
def FO (own:AJ):AV->Option (o_)
 | .sl _ es=>some es
 | .nil=>some []
 | .cp (.bool _)=>some []
 | .row s t z off len=>match own.get s t with
  | some b=>if off+len<=b.es.length/\b.a8=z then some ((b.es.drop off).take len) else none
  | none=>none
 | _=>none
def QZ:AV->Option Nat
 | .sl _ es=>some es.length
 | .nil=>some 0
 | .row _ _ _ _ len=>some len
 | _=>none
def snap (own:AJ) (l:Bool):Nat->AV->Option AV
 | _,.int k n=>some (.int k n)
 | _,.bool b=>some (.bool b)
 | _,.sl l' es=>some (.sl l' es)
 | _,.nil=>some (.sl false [])
 | _,.cp v=>some (.cp v)
 | d+1,.row s t z off len=>match FO own (.row s t z off len) with
  | some es=>(es.mapM (λ cs:u_=>cs.mapM (snap own l d))).map (AV.sl l)
  | none=>none
 | _,_=>none
def DE (own:AJ) (l:Bool):AV->Option AV
 | .agg cs=>(cs.mapM (snap own l 6)).map AV.agg
 | v=>snap own l 6 v
def P2 (own:AJ) (l:Bool):AV->Option AV
 | .nil=>some .nil
 | v=>DE own l v
def VF (own:AJ) (l:Bool):AV->Option AV
 | .c5 cs=>(cs.mapM (DE own l)).map AV.c5
 | v=>DE own l v
mutual
def A3:AV->Prop
 | .int _ _=>True
 | .bool _=>True
 | .cp _=>True
 | .sl l es=>l=false/\EZ es
 | .agg cs=>B7 cs
 | .c5 cs=>B7 cs
 | _=>False
def B7:u_->Prop
 | []=>True
 | c::r=>A3 c/\B7 r
def EZ:o_->Prop
 | []=>True
 | c::r=>B7 c/\EZ r
end
def DX:Nat:=140737488355328
structure Cl where
 pure:Nat->u_->Option AV
 fe:Nat->u_->AJ->Option (AV × AJ)
 num:Nat->Nat
noncomputable def dM (C:Cl) (f:Nat) (vs:u_) (s:Nat) (q:CO):Option (AV × CO) :=
 open Classical in if h : ∃ p : AV × CO, ∀ o : AJ, o s = q -> C.fe f vs o = some (p.1, o.put s p.2) then some h.choose else none
theorem dN {C:Cl} {f:Nat} {vs:u_} {s:Nat} {q:CO} {p:AV × CO}:dM C f vs s q=some p ↔ ∀ o:AJ,o s=q->C.fe f vs o=some (p.1,o.put s p.2):=by
 unfold dM;constructor
 ·intro h
  split at h
  ·rename_i hx
   obtain rfl:=Oa h;exact hx.choose_spec
  ·cases h
 ·intro h
  rw[dif_pos ⟨p,h⟩];have h1:=(⟨p,h⟩ : ∃ p:AV × CO,∀ o:AJ,o s=q->C.fe f vs o=some (p.1,o.put s p.2)).choose_spec (λ_=>q) rfl;have h2:=h (λ_=>q) rfl;have h3:=Oa (h2.symm.trans h1);refine congrArg some ?_;generalize (Exists.choose _:AV × CO)=p' at h3;obtain ⟨a,b⟩:=p;obtain ⟨a',b'⟩:=p';simp only[yb]at h3;obtain ⟨h4,h5⟩:=h3;have h6:b=b':=by
   have:=congrFun h5 s
   simpa [AJ.put] using this
  rw[h4,h6]
noncomputable def N9 (C:Cl) (f:Nat) (vs:u_) (s:Nat) (own:AJ):Option (AV × AJ) :=
 open Classical in if h : ∃ p : AV × AJ, ∀ o : AJ, (∀ q, q ≠ s -> o q = own q) -> C.fe f vs o = some (p.1, p.2.put s (o s)) then some (h.choose.1, h.choose.2.put s ⟨0, λ_ => none⟩) else none
theorem dL {C:Cl} {f:Nat} {vs:u_} {s:Nat} {own:AJ} {p:AV × AJ} (h:N9 C f vs s own=some p):p.2 s=⟨0,λ_=>none⟩ /\ ∀ o:AJ,(∀ q,q≠s->o q=own q)->C.fe f vs o=some (p.1,p.2.put s (o s)):=by
 unfold N9 at h;split at h
 ·rename_i hx
  obtain rfl:=Oa h;refine ⟨by simp [AJ.put],λ o h2 => ?_⟩;rw[hx.choose_spec o h2];congr 2;funext q
  simp only[AJ.put];split<;>rfl
 ·cases h
theorem dK {C:Cl} {f:Nat} {vs:u_} {s:Nat} {own:AJ} {p:AV × AJ} (hp:p.2 s=⟨0,λ_=>none⟩) (h : ∀ o:AJ,(∀ q,q≠s->o q=own q)->C.fe f vs o=some (p.1,p.2.put s (o s))):N9 C f vs s own=some p:=by
 have hex : ∃ p:AV × AJ,∀ o:AJ,(∀ q,q≠s->o q=own q)->C.fe f vs o=some (p.1,p.2.put s (o s)):=⟨p,h⟩;unfold N9;rw[dif_pos hex];have h1:=hex.choose_spec own λ_ _=>rfl
 have h2:=h own λ_ _=>rfl
 have h3:=Oa (h2.symm.trans h1);simp only[yb]at h3;refine congrArg some (Prod.ext h3.1.symm ?_);funext q
 have h4:=congrFun h3.2 q;simp only[AJ.put]at h4 ⊢;by_cases e:q=s
 ·subst e;simp [hp]
 ·simpa [e] using h4.symm
def ZE:AV->AV
 | .sl _ es => .sl false es
 | .nil => .sl false []
 | v=>v
def zu:AV->AV
 | .agg cs => .agg (cs.map ZE)
 | v=>ZE v
def aT:AV->AV
 | .sl _ es => .sl true es
 | v=>v
def Bc:AV->AV
 | .agg cs => .agg (cs.map aT)
 | v=>aT v
mutual
def IA:AV->AV
 | .sl _ es => .sl true (OR es)
 | v=>v
def NE:u_->u_
 | []=>[]
 | c::r=>IA c::NE r
def OR:o_->o_
 | []=>[]
 | c::r=>NE c::OR r
end
def JU:AV->AV
 | .agg cs => .agg (NE cs)
 | v=>IA v
def L4:AV->AV
 | .c5 vs => .c5 (vs.map JU)
 | v=>JU v
def cN:AV->Prop
 | .c5 _=>False
 | .fn _ _ _ _=>False
 | _=>True
def VT:AV->Prop
 | .c5 vs => ∀ v∈vs,cN v
 | v=>cN v
def HE:AV->Bool
 | .int _ _=>true | .bool _=>true | .sl _ _=>true | .nil=>true
 | _=>false
def dq:AV->Bool
 | .agg cs=>cs.all HE
 | v=>HE v
def Wi:AV->Bool
 | .int _ _=>true | .bool _=>true
 | _=>false
def ZN:AV->Prop
 | .int _ _=>True
 | .bool _=>True
 | .sl _ es => ∀ e∈es,∀ c∈e,Wi c=true
 | _=>False
def KY:AV->Prop
 | .agg cs => ∀ c∈cs,ZN c
 | v=>ZN v
open Classical in
noncomputable def NF (r:AV):AV:=if KY r then Bc r else L4 r
theorem oP {r:AV} (h:KY r):NF r=Bc r:=if_pos h
theorem oO {r:AV} (h : ¬ KY r):NF r=L4 r:=if_neg h
def I4:u_->Option (List Int)
 | []=>some []
 | .int .i64 n::r=>(I4 r).map (n :: ·)
 | _=>none
def HS:AV->Option AV
 | .agg _=>none
 | .fn _ _ _ _=>none
 | .c5 _=>none
 | .any=>none
 | v=>some v
open Classical in
noncomputable def N7 (x:Option (AV × AJ)):P':=match x with
 | some (.row s t z 0 n,o)=>match o.get s t with
  | some b=>if b.es.length=n/\EZ b.es then some (z,b.es) else none
  | none=>none
 | _=>none
theorem AeX {x:Option (AV × AJ)} {z:Nat} {es:o_} (h:N7 x=some (z,es)) : ∃ s t o b,x=some (.row s t z 0 es.length,o)/\o.get s t=some b/\b.es=es/\EZ es:=by
 unfold N7 at h;split at h
 ·split at h
  ·rename_i s t z' n o b hb
   split at h
   ·rename_i hc
    obtain ⟨rfl,hc⟩:=hc;simp only[La,yb]at h;obtain ⟨rfl,rfl⟩:=h;exact ⟨_,_,_,_,rfl,hb,rfl,hc⟩
   ·cases h
  ·cases h
 ·cases h
open Classical in
noncomputable def c8 (C:Cl) (b7:N') (ρ:AU->AV) (own:AJ):EI->Option CI
 | .m5 x=>some (.val (ρ x))
 | .v5 s a8=>some (.Bf s ⟨a8,[]⟩ (λ t => .row s t a8 0 0))
 | .pick c a b=>match ρ c with
  | .bool true=>some (.val (ρ a))
  | .bool false=>some (.val (ρ b))
  | _=>none
 | .bin op x y=>match ρ x,ρ y with
  | .int k a,.int k' b=>(DP op k a k' b).map .val
  | _,_=>none
 | .beq ne x y=>match ρ x,ρ y with
  | .bool a,.bool b=>some (.val (.bool (if ne then !(a == b) else a == b)))
  | _,_=>none
 | .un op x=>(VM op (ρ x)).map .val
 | .conv k x=>match ρ x with
  | .int _ n=>some (.val (.int k (k.wrap n)))
  | _=>none
 | .box s x=>match cellsOf (ρ x) with
  | some cs=>some (.new s ⟨cs.length,[cs]⟩ (λ t => .ptr s t 0 0))
  | none=>none
 | .alloc s zero=>some (.new s ⟨zero.length,[zero]⟩ (λ t => .ptr s t 0 0))
 | .build zero parts=>(fill zero (parts.map λ p=>(p.1,p.2.1,ρ p.2.2))).map (λ cs => .val (.agg cs))
 | .a7 s a8 parts=>match parts.mapM (λ x=>cellsOf (ρ x)) with
  | some es=>if ∀ e∈es,e.length=a8 then some (.new s ⟨a8,es⟩ (λ t => .row s t a8 0 es.length)) else none
  | none=>none
 | .j4 x off=>match ρ x with
  | .ptr s t i j=>some (.val (.ptr s t i (j+off)))
  | .s9 cs=>some (.val (.s9 (cs.drop off)))
  | _=>none
 | .pn x off n agg=>match ρ x with
  | .agg cs=>match part cs off n with
   | some ds=>(LB agg ds).map .val
   | none=>none
  | _=>none
 | .u6 arr a8 x i=>match ρ i with
  | .int _ n=>match arr,ρ x with
   | some len,.ptr s t i' j=>if 0<=n/\n<len then some (.val (.ptr s t i' (j+n.toNat*a8))) else none
   | some len,.s9 cs=>if 0<=n/\n<len then some (.val (.s9 (cs.drop (n.toNat*a8)))) else none
   | none,.row s t z off len=>if 0<=n/\n<len/\z=a8 then some (.val (.ptr s t (off+n.toNat) 0)) else none
   | none,.sl _ es=>if 0<=n then match es[n.toNat]? with
     | some cs=>if cs.length=a8 then some (.val (.s9 cs)) else none
     | none=>none
    else none
   | _,_=>none
  | _=>none
 | .ld agg n x=>match ρ x with
  | .ptr s t i j=>match (own.m7 b7).rh s t i j n with
   | some cs=>(LB agg cs).map .val
   | none=>none
  | .s9 cs=>match part cs 0 n with
   | some ds=>(LB agg ds).map .val
   | none=>none
  | _=>none
 | .vm agg n x=>match ρ x with
  | .s9 cs=>match part cs 0 n with
   | some ds=>(LB agg ds).map .val
   | none=>none
  | _=>none
 | .st n x v=>match ρ x,cellsOf (ρ v) with
  | .ptr s t i j,some vs=>if vs.length=n then (own.na s t i j vs).map (CI.dw (.c5 [])) else none
  | _,_=>none
 | .mk s a8 bytes zero l c=>match ρ l,ρ c with
  | .int _ a,.int _ b=>if 0<=a/\a<=b/\b*bytes<=DX/\b<=9223372036854775807/\zero.length=a8 then some (.new s ⟨a8,ya a.toNat zero⟩ (λ t => .row s t a8 0 a.toNat)) else none
  | _,_=>none
 | .di a8 x lo hi=>match ρ x with
  | .sl l es =>
   let h:Option Nat:=match hi with|none=>some es.length|some o=>match ρ o with | .int _ n=>if 0<=n/\n<=es.length then some n.toNat else none|_=>none
   let a:Option Nat:=match lo with|none=>some 0|some o=>match ρ o with | .int _ n=>if 0<=n then some n.toNat else none|_=>none
   match a,h with
   | some a,some h=>if a<=h /\ ∀ e∈es,e.length=a8 then some (.val (.sl l ((es.take h).drop a))) else none
   | _,_=>none
  | .nil =>
   let h:Option Nat:=match hi with|none=>some 0|some o=>match ρ o with | .int _ n=>if n=0 then some 0 else none|_=>none
   let a:Option Nat:=match lo with|none=>some 0|some o=>match ρ o with | .int _ n=>if n=0 then some 0 else none|_=>none
   match a,h with
   | some _,some _=>some (.val .nil)
   | _,_=>none
  | .row s t z off len =>
   let h:Option Nat:=match hi with|none=>some len|some o=>match ρ o with | .int _ n=>if 0<=n/\n<=len then some n.toNat else none|_=>none
   let a:Option Nat:=match lo with|none=>some 0|some o=>match ρ o with | .int _ n=>if 0<=n then some n.toNat else none|_=>none
   match a,h with
   | some a,some h=>if a<=h/\z=a8 then some (.val (.row s t z (off+a) (h-a))) else none
   | _,_=>none
  | _=>none
 | .ext x i=>match ρ x with
  | .c5 vs=>(vs[i]?).map .val
  | _=>none
 | .len x=>match QZ (ρ x) with
  | some n=>some (.val (.int .i64 (n:Int)))
  | none=>none
 | .mm max xs=>match xs.map ρ with
  | []=>none
  | v::r=>(L6 max v r).map .val
 | .app s a8 bytes x y=>match FO own (ρ y) with
  | some ys=>if ∀ e∈ys,e.length=a8 then match ρ x with
    | .row s' t z 0 len=>match own.get s' t with
     | some b=>if b.a8=a8/\z=a8/\len<=b.es.length/\(len+ys.length)*bytes<=DX/\len+ys.length<=9223372036854775807 then
       some (.dw (.row s' (own.g7 s') a8 0 (len+ys.length)) (own.put s' (((own s').q6 t none).new ⟨a8,b.es.take len++ys⟩)))
      else none
     | none=>none
    | .nil=>if ys.length*bytes<=DX/\ys.length<=9223372036854775807 then
       some (.dw (.row s (own.g7 s) a8 0 ys.length) (own.put s ((own s).new ⟨a8,ys⟩))) else none
    | _=>none
   else none
  | none=>none
 | .call f xs=>match (xs.map ρ).mapM (DE (own.m7 b7) true) with
  | some vs=>(C.pure f vs).map .val
  | none=>none
 | .c7 f xs=>match b7 with
  | [s]=>(N9 C f (xs.map ρ) s own).map (λ r => .Cu s r.1 r.2)
  | _=>(C.fe f (xs.map ρ) own).map (λ r => .dw r.1 r.2)
 | .uq ne x=>match ρ x with
  | .nil=>some (.val (.bool (xor true ne)))
  | .cp (.bool b)=>some (.val (.bool (xor b ne)))
  | .sl _ (_::_)=>some (.val (.bool (xor false ne)))
  | .row _ _ _ _ (_+1)=>some (.val (.bool (xor false ne)))
  | _=>none
 | .bad=>none
 | .fx x=>match ρ x with
  | .nil=>some (.val (.int .i64 0))
  | _=>none
 | .pg s a8 bytes x y=>match ρ x,ρ y with
  | .nil,.int _ n=>if 0<n/\n*bytes<=DX/\n<=9223372036854775807 then some (.new s ⟨a8,[]⟩ (λ t => .row s t a8 0 n.toNat)) else none
  | _,_=>none
 | .cg s f xs=>(dM C f (xs.map ρ) s (own s)).map λ p => .zw s p.2 p.1
 | .gx tb x=>match ρ x with
  | .int _ n=>if 0<=n then (match tb[n.toNat]? with
   | some v=>some (.val (.int .u8 v))
   | none=>none) else none
  | _=>none
 | .ri p f xs=>(xs.mapM (λ x=>HS (ρ x))).map (λ cs => .val (.fn (p&&cs.isEmpty) f (C.num f) cs))
 | .ti f x=>match ρ x with
  | .agg (c::cs)=>some (.val (.fn true f (C.num f) (c::cs)))
  | _=>none
 | .j6 f xs=>if (xs.map ρ).all dq=true then (match C.pure f ((xs.map ρ).map zu) with
   | some r=>if KY r\/VT r then some (.val (NF r)) else none
   | none=>none) else none
 | .pe s n x v=>match ρ x,cellsOf (ρ v) with
  | .ptr s' t i j,some vs=>if s'=s/\vs.length=n then (own.na s t i j vs).map (λ o'=>CI.q6 s (o' s)) else none
  | _,_=>none
 | .tk ne n x y=>match ρ x,ρ y with
  | .agg cs,.agg ds=>match I4 cs,I4 ds with
   | some a,some b=>if a.length=n/\b.length=n then some (.val (.bool (if ne then !(decide (a=b)) else decide (a=b)))) else none
   | _,_=>none
  | _,_=>none
 | .n7 s f xs=>match (xs.map ρ).mapM (P2 (own.m7 b7) true) with
  | some vs=>(N7 (C.fe f vs AJ.emp)).map (λ r => .new s ⟨r.1,r.2⟩ (λ t => .row s t r.1 0 r.2.length))
  | none=>none
 | .m9 x xs=>match ρ x with
  | .fn p f g cs=>if g=C.num f then (match p,cs with
   | true,[]=>(match (xs.map ρ).mapM (DE own true) with
    | some vs=>(C.pure f vs).map .val
    | none=>none)
   | false,cs=>(C.fe f (xs.map ρ++cs) own).map (λ r => .dw r.1 r.2)
   | true,c::cs=>(match (AV.agg (c::cs)::xs.map ρ).mapM (DE own true) with
    | some vs=>(C.pure f vs).map .val
    | none=>none)) else none
  | _=>none
def St.dst (st:St) (d:Option Nat) (v:AV):St :=
 match d with
 | some d=>{ st with tm:=kb st.tm d v }
 | none=>st
def St.app (st:St) (d:Option Nat):CI->St
 | .val v=>st.dst d v
 | .new s b v=>{ (st.dst d (v (st.own.g7 s))) with own:=st.own.put s ((st.own s).new b) }
 | .Bf s b v=>{ (st.dst d (v (st.own.g7 s))) with own:=st.own.put s ((st.own s).new b) }
 | .dw v o=>{ (st.dst d v) with own:=o }
 | .Cu s v o=>{ (st.dst d v) with own:=o.put s (st.own s) }
 | .q6 s x=>{ (st.dst d (.c5 [])) with own:=st.own.put s x }
 | .zw s x v=>{ (st.dst d v) with own:=st.own.put s x }
def GD (st:St):Option (Nat × Bool)->Option Bool
 | none=>some true
 | some (g,want)=>match e9 st.tm g with
  | .bool b=>some (b == want)
  | .c5 []=>some false
  | _=>none
noncomputable def DB (C:Cl) (o:AI) (st:St):Option St :=
 match GD st o.guard with
 | some true=>(c8 C o.b7 st.ev st.own o.op).map (st.app o.dst)
 | some false=>some (st.dst o.dst (.c5 []))
 | none=>none
noncomputable def DJ (C:Cl):List AI->St->Option St
 | [],st=>some st
 | o::r,st=>match DB C o st with
  | some j5=>DJ C r j5
  | none=>none
def E3:EI->Option Nat
 | .v5 s _=>some s
 | .box s _=>some s
 | .alloc s _=>some s
 | .a7 s _ _=>some s
 | .mk s _ _ _ _ _=>some s
 | .pe s _ _ _=>some s
 | .n7 s _ _=>some s
 | .pg s _ _ _ _=>some s
 | .cg s _ _=>some s
 | _=>none
inductive It where
 | code (c:BK)
 | kx (ts ss:N')
 | c9 (id:Nat)
 | lp (c:BK)
def EG (id:Nat):List It->Option (List It)
 | .c9 Ll::k=>if Ll=id then some k else EG id k
 | _::k=>EG id k
 | []=>none
def AJ.drop (o:AJ):N'->AJ
 | []=>o
 | s::r=>(o.drop r).put s ⟨(o s).g7,λ_=>none⟩
noncomputable def run (C:Cl):Nat->List It->St->Option St
 | 0,_,_=>none
 | _+1,[],st=>some st
 | n+1,.c9 _::k,st=>run C n k st
 | n+1,.kx ts ss::k,st=>run C n k ⟨af st.tm ts,st.own.drop ss⟩
 | n+1,.lp c::k,st=>run C n (.code c :: .lp c::k) st
 | n+1,.code c::k,st=>match c with
  | .skip=>run C n k st
  | .ops l _=>match DJ C l st with
   | some j5=>run C n k j5
   | none=>none
  | .dr c ts ss=>run C n (.code c :: .kx ts ss::k) st
  | .scope c=>run C n (.code c::k) st
  | .seq a b=>run C n (.code a :: .code b::k) st
  | .cond c a b=>match st.ev c with
   | .bool true=>run C n (.code a::k) st
   | .bool false=>run C n (.code b::k) st
   | _=>none
  | .block id c=>run C n (.code c :: .c9 id::k) st
  | .loop c=>run C n (.code c :: .lp c::k) st
  | .exit id=>match EG id k with
   | some k'=>run C n k' st
   | none=>none
  | .ret=>some st
def C5 (i:Nat):u_->Tm
 | []=>[]
 | v::r=>(i,v)::C5 (i+1) r
def JZ:AV->Option AV
 | .any=>none
 | .c5 _=>none
 | v=>some v
def F7 (st:St):KW->Option AV
 | .tmp t=>JZ (e9 st.tm t)
 | .cell t agg n=>match e9 st.tm t with
  | .ptr s u i j=>match st.own.rh s u i j n with
   | some cs=>LB agg cs
   | none=>none
  | _=>none
def JD:u_->AV
 | [v]=>v
 | vs => .c5 vs
structure Lib where
 fn:Nat->Option AFn
 num:Nat->Nat
instance : CoeFun Lib (λ_ => Nat -> Option AFn) := ⟨Lib.fn⟩
open Classical in
noncomputable def JX (I:u_->Option (AV × AJ)) (vs:u_):Option AV :=
 match I vs with
 | some (r,o)=>match VF o false r with
  | some r'=>if A3 r' then some r' else none
  | none=>none
 | none=>none
def Lib.ry (L:Lib) (f:Nat):Bool:=match L f with
 | some fn=>fn.ry
 | none=>false
open Classical in
noncomputable def ML (b:Bool) (I:u_->Option (AV × AJ)) (vs:u_):Option AV:=match b,vs with
 | true,.sl _ []::vs=>match JX I (.cp (.bool true)::vs),JX I (.cp (.bool false)::vs) with
  | some r,some r'=>if r=r' then some r else none
  | _,_=>none
 | _,vs=>JX I vs
noncomputable def DR (L:Lib):Nat->Nat->u_->AJ->Option (AV × AJ)
 | 0,_,_,_=>none
 | n+1,f,args,own=>match L f with
  | none=>none
  | some fn=>if args.length=fn.ay then
    match run ⟨λ f vs=>ML (L.ry f) (λ vs=>DR L n f vs AJ.emp) vs,DR L n,L.num⟩ n [.code fn.body] ⟨C5 0 args,own⟩ with
    | some st=>match fn.res.mapM (F7 st) with
     | some vs=>some (JD vs,st.own)
     | none=>none
    | none=>none
   else none
noncomputable def H6 (L:Lib) (n f:Nat) (vs:u_):Option AV:=ML (L.ry f) (λ vs=>DR L n f vs AJ.emp) vs
noncomputable def C3 (L:Lib) (n:Nat):Cl:=⟨H6 L n,DR L n,L.num⟩
theorem aC (L:Lib) (n f:Nat) (args:u_) (own:AJ):DR L (n+1) f args own =
  match L f with
  | none=>none
  | some fn=>if args.length=fn.ay then
    match run (C3 L n) n [.code fn.body] ⟨C5 0 args,own⟩ with
    | some st=>match fn.res.mapM (F7 st) with
     | some vs=>some (JD vs,st.own)
     | none=>none
    | none=>none
   else none:=rfl
namespace C
abbrev o (d:Nat) (op:EI):AI:=⟨some d,op,none,[]⟩
abbrev n (op:EI):AI:=⟨none,op,none,[]⟩
abbrev g (d i:Nat) (b:Bool) (op:EI):AI:=⟨some d,op,some (i,b),[]⟩
abbrev m (d s:Nat):AI:=⟨some d,.m5 (.t s),none,[]⟩
abbrev k (v:Int):AU := .c (.int .i64 v)
abbrev z:AV := .int .i64 0
abbrev q (d:Nat) (b7:N') (op:EI):AI:=⟨some d,op,none,b7⟩
abbrev u (b7:N') (op:EI):AI:=⟨none,op,none,b7⟩
abbrev v (d i:Nat) (b:Bool) (b7:N') (op:EI):AI:=⟨some d,op,some (i,b),b7⟩
abbrev p (l:List AI):BK := .ops l false
abbrev P (l:List AI):BK := .ops l true
abbrev d (l:List AI) (ts:N'):BK := .dr (.ops l false) ts []
abbrev e (l:List AI) (ts:N'):BK := .dr (.ops l true) ts []
abbrev s (a b:BK):BK := .seq a b
abbrev i (c:AU) (a b:BK):BK := .cond c a b
abbrev b (id:Nat) (c:BK):BK := .block id c
abbrev w (c:BK):BK := .loop c
abbrev x (id:Nat):BK := .exit id
instance (i : Nat) : OfNat AU i := ⟨.t i⟩
abbrev mv (d:Nat) (x:AU):AI:=⟨some d,.m5 x,none,[]⟩
abbrev tt (d n:Nat) (x:AU):AI:=⟨some d,.ld true n x,none,[]⟩
abbrev uu (d n:Nat) (x:AU):AI:=⟨some d,.ld false n x,none,[]⟩
abbrev ca (d f:Nat) (l:List AU):AI:=⟨some d,.call f l,none,[]⟩
abbrev fa (d:Nat) (x:AU) (a:Nat):AI:=⟨some d,.j4 x a,none,[]⟩
abbrev ia (d z:Nat) (x y:AU):AI:=⟨some d,.u6 none z x y,none,[]⟩
abbrev bi (d:Nat) (f:BinOp) (x y:AU):AI:=⟨some d,.bin f x y,none,[]⟩
abbrev ad (d:Nat) (x y:AU):AI:=⟨some d,.bin .add x y,none,[]⟩
abbrev sb (d:Nat) (x y:AU):AI:=⟨some d,.bin .sub x y,none,[]⟩
abbrev ls (d:Nat) (x y:AU):AI:=⟨some d,.bin .lss x y,none,[]⟩
abbrev al (d:Nat) (l:u_):AI:=⟨some d,.alloc d l,none,[]⟩
abbrev ln (d:Nat) (x:AU):AI:=⟨some d,.len x,none,[]⟩
abbrev et (d:Nat) (x:AU) (a:Nat):AI:=⟨some d,.ext x a,none,[]⟩
abbrev bx (d:Nat) (x:AU):AI:=⟨some d,.box d x,none,[]⟩
abbrev pk (d:Nat) (x y w:AU):AI:=⟨some d,.pick x y w,none,[]⟩
abbrev nt (d:Nat) (x:AU):AI:=⟨some d,.un .not x,none,[]⟩
abbrev cu (d:Nat) (x:AU):AI:=⟨some d,.conv .u64 x,none,[]⟩
abbrev so (n:Nat) (x y:AU):AI:=⟨none,.st n x y,none,[]⟩
abbrev kf:AU := .c (.bool false)
abbrev kt:AU := .c (.bool true)
abbrev k0:AU := .c (.int .i64 0)
abbrev k1:AU := .c (.int .i64 1)
abbrev z3:u_:=[.bool false,.nil,.nil]
abbrev z6:u_:=[.nil,.nil,.nil,.bool false,.nil,.nil]
abbrev sd (l:List AI) (ts:N') (c:BK):BK := .seq (.dr (.ops l false) ts []) c
abbrev se (l:List AI) (ts:N') (c:BK):BK := .seq (.dr (.ops l true) ts []) c
abbrev sp (l:List AI) (c:BK):BK := .seq (.ops l false) c
abbrev ra (a n:Nat):N':=Fb a n
abbrev rl (l:N') (a n:Nat):N':=l++Fb a n
end C
end Go.c6
namespace Go.c6.F
open C
def SA:AFn:=⟨1,(sd [mv 2 kf] [2] (sd [m 3 0,m 4 0,bi 5 .neq 3 4,m 2 5] [0,3,4,5] .ret)),[.tmp 2],false⟩
def SB:AFn:=⟨1,(sd [mv 2 kf] [2] (sd [m 3 0,m 4 0,bi 5 .neq 3 4,m 2 5] [0,3,4,5] .ret)),[.tmp 2],false⟩
def R8:AFn:=⟨2,(sd [mv 4 k0] [4] (sd [m 7 0,ca 8 58 [7],m 5 8] [7,8] (sd [m 9 1,ca 10 58 [9],m 6 10] [9,10] (s (sd [m 11 5] [5] (i 11 (s (sd [m 12 6] [0,1,6,11] (i 12 (sd [mv 4 k0] [12] .ret) .skip)) (sd [mv 4 (k (-1))] [12] .ret)) .skip)) (s (sd [m 13 6] [6,11] (i 13 (sd [mv 4 k1] [0,1,13] .ret) .skip)) (s (sd [m 14 0,m 15 1,ls 16 14 15] [13,14,15] (i 16 (sd [mv 4 (k (-1))] [0,1,16] .ret) .skip)) (s (sd [m 17 0,m 18 1,bi 19 .gtr 17 18] [0,1,16,17,18] (i 19 (sd [mv 4 k1] [19] .ret) .skip)) (sd [mv 4 k0] [19] .ret)))))))),[.tmp 4],false⟩
def R9:AFn:=⟨2,(sd [mv 4 k0] [4] (sd [m 7 0,ca 8 59 [7],m 5 8] [7,8] (sd [m 9 1,ca 10 59 [9],m 6 10] [9,10] (s (sd [m 11 5] [5] (i 11 (s (sd [m 12 6] [0,1,6,11] (i 12 (sd [mv 4 k0] [12] .ret) .skip)) (sd [mv 4 (k (-1))] [12] .ret)) .skip)) (s (sd [m 13 6] [6,11] (i 13 (sd [mv 4 k1] [0,1,13] .ret) .skip)) (s (sd [m 14 0,m 15 1,ls 16 14 15] [13,14,15] (i 16 (sd [mv 4 (k (-1))] [0,1,16] .ret) .skip)) (s (sd [m 17 0,m 18 1,bi 19 .gtr 17 18] [0,1,16,17,18] (i 19 (sd [mv 4 k1] [19] .ret) .skip)) (sd [mv 4 k0] [19] .ret)))))))),[.tmp 4],false⟩
def KV:AFn:=⟨1,(sd [mv 2 (.c .nil)] [2] (s (sd [m 3 0,o 4 (.uq false 3)] [3] (i 4 (sd [mv 2 (.c .nil)] [0,4] .ret) .skip)) (sd [o 5 (.a7 5 1 []),m 6 0,o 7 (.app 7 1 4 5 6),m 2 7] [0,4,5,6,7] .ret))),[.tmp 2],true⟩
def TF:AFn:=⟨1,(sp [mv 2 k0] (s (sd [m 3 0,bi 4 .geq 3 (.c (.int .u32 (65536)))] [3] (i 4 (sd [m 5 0,bi 6 .shr 5 (.c (.int .u64 (16))),m 0 6] [2,4,5,6] (p [mv 2 (k 16)])) .skip)) (s (sd [m 7 0,bi 8 .geq 7 (.c (.int .u32 (256)))] [4,7] (i 8 (sd [m 9 0,bi 10 .shr 9 (.c (.int .u64 (8))),m 0 10] [8,9,10] (d [m 11 2,ad 12 11 (k 8),m 2 12] [11,12])) .skip)) (sd [m 13 2,m 14 0,o 15 (.conv .u8 14),o 16 (.gx (ya 1 0++ya 1 1++ya 2 2++ya 4 3++ya 8 4++ya 16 5++ya 32 6++ya 64 7++ya 128 8) 15),o 17 (.conv .i64 16),ad 18 13 17,m 2 18] (rl [0,8] 13 6) .ret)))),[.tmp 2],false⟩
def TE:AFn:=⟨1,(sd [mv 2 k0] [2] (sd [m 3 0,ca 4 63 [3],sb 5 (k 32) 4,m 2 5] [0,3,4,5] .ret)),[.tmp 2],false⟩
def G1.l1:=(s (sd [m 6 3,bi 7 .gtr 6 k0,m 8 7,g 9 8 true (.m5 0),g 10 8 true (.m5 3),g 11 8 true (.bin .sub 10 k1),g 12 8 true (.u6 none 1 9 11),g 13 8 true (.ld false 1 12),g 14 8 true (.bin .eql 13 (.c (.int .u32 (0)))),pk 15 8 14 kf] (ra 6 9) (i 15 .skip (x 0))) (b 1 (d [m 16 3,sb 17 16 k1,m 3 17] [15,16,17])))
def G1:AFn:=⟨1,(sd [mv 2 (.c .nil)] [2] (sd [m 4 0,ln 5 4,m 3 5] [4,5] (s (b 0 (w G1.l1)) (sd [m 18 0,m 19 3,o 20 (.di 1 18 none (some 19)),m 2 20] [0,3,15,18,19,20] .ret)))),[.tmp 2],false⟩
def TK:AFn:=⟨1,(sd [mv 2 (.c .nil)] [2] (sd [m 3 0,o 4 (.c7 65 [3]),ca 5 62 [4],m 2 5] [0,3,4,5] .ret)),[.tmp 2],false⟩
def OV.l1:=(s (sd [m 25 7,bi 26 .geq 25 k0] [25] (i 26 .skip (x 0))) (s (b 1 (se [m 29 5,m 30 7,ia 31 1 29 30,uu 32 1 31,m 33 6,m 34 7,ia 35 1 33 34,uu 36 1 35,bi 37 .neq 32 36] (rl [26] 29 8) (i 37 (se [m 38 5,m 39 7,ia 40 1 38 39,uu 41 1 40,m 42 6,m 43 7,ia 44 1 42 43,uu 45 1 44,ca 46 61 [41,45],m 4 46] (rl [5,6,7] 37 10) .ret) .skip))) (d [m 27 7,sb 28 27 k1,m 7 28] [27,28,37])))
def OV:AFn:=⟨2,(sd [mv 4 k0] [4] (sd [m 8 0,o 9 (.c7 65 [8]),m 10 1,o 11 (.c7 65 [10]),m 5 9,m 6 11] (rl [0,1] 8 4) (s (sd [m 12 5,ln 13 12,m 14 6,ln 15 14,bi 16 .neq 13 15] (ra 12 4) (i 16 (sd [m 17 5,ln 18 17,m 19 6,ln 20 19,ca 21 60 [18,20],m 4 21] (rl [5,6] 16 6) .ret) .skip)) (s (sd [m 22 5,ln 23 22,sb 24 23 k1,m 7 24] [16,22,23,24] (b 0 (w OV.l1))) (sd [mv 4 k0] [5,6,7,26] .ret))))),[.tmp 4],false⟩
def OU.l1:=(sp [ls 30 29 28] (s (i 30 .skip (x 0)) (s (b 1 (sd [m 31 29,ia 32 1 27 29,uu 33 1 32,m 9 31,m 10 33] (ra 30 4) (sd [m 34 10,cu 35 34,m 36 8,ad 37 35 36,m 11 37] (rl [8,10] 34 4) (s (sd [m 38 9,m 39 6,ln 40 39,ls 41 38 40] [38,39,40] (i 41 (d [m 42 11,m 43 6,m 44 9,ia 45 1 43 44,uu 46 1 45,cu 47 46,ad 48 42 47,m 11 48] (ra 41 8)) .skip)) (sd [m 49 7,m 50 9,m 51 11,o 52 (.conv .u32 51),ia 53 1 49 50,so 1 53 52] (rl [9,41] 49 5) (d [m 54 11,bi 55 .shr 54 (.c (.int .u64 (32))),m 8 55] [11,54,55])))))) (d [ad 56 29 k1,m 29 56] [56]))))
def OU:AFn:=⟨2,(sd [mv 4 (.c .nil)] [4] (sd [m 12 0,o 13 (.c7 65 [12]),m 14 1,o 15 (.c7 65 [14]),m 5 13,m 6 15] (rl [0,1] 12 4) (s (sd [m 16 5,ln 17 16,m 18 6,ln 19 18,ls 20 17 19] (ra 16 4) (i 20 (d [m 21 6,m 22 5,m 5 21,m 6 22] [20,21,22]) .skip)) (sd [m 23 5,ln 24 23,ad 25 24 k1,o 26 (.mk 26 1 4 [(.int .u32 (0))] 25 25),m 7 26] (rl [20] 23 4) (sp [mv 8 (.c (.int .u64 (0)))] (s (sp [m 27 5,ln 28 27,mv 29 k0] (b 0 (w OU.l1))) (sd [m 57 7,m 58 5,ln 59 58,m 60 8,o 61 (.conv .u32 60),ia 62 1 57 59,so 1 62 61] (rl [5,6,8,27,28,29,30] 57 6) (sd [m 63 7,o 64 (.c7 65 [63]),m 4 64] [7,63,64] .ret)))))))),[.tmp 4],false⟩
def OW.l1:=(sp [ls 26 25 24] (s (i 26 .skip (x 0)) (s (b 1 (sd [m 27 25,ia 28 1 23 25,uu 29 1 28,m 9 27,m 10 29] (ra 26 4) (sd [m 30 10,cu 31 30,m 32 8,sb 33 31 32,m 11 33] (rl [8,10] 30 4) (s (sd [m 34 9,m 35 6,ln 36 35,ls 37 34 36] [34,35,36] (i 37 (d [m 38 11,m 39 6,m 40 9,ia 41 1 39 40,uu 42 1 41,cu 43 42,sb 44 38 43,m 11 44] (ra 37 8)) .skip)) (sd [m 45 7,m 46 9,m 47 11,o 48 (.conv .u32 47),ia 49 1 45 46,so 1 49 48] (rl [9,37] 45 5) (d [m 50 11,bi 51 .shr 50 (.c (.int .u64 (63))),m 8 51] [11,50,51])))))) (d [ad 52 25 k1,m 25 52] [52]))))
def OW:AFn:=⟨2,(sd [mv 4 (.c .nil)] [4] (s (sd [m 12 0,m 13 1,ca 14 67 [12,13],bi 15 .leq 14 k0] [12,13,14] (i 15 (sd [mv 4 (.c .nil)] [0,1,15] .ret) .skip)) (sd [m 16 0,o 17 (.c7 65 [16]),m 18 1,o 19 (.c7 65 [18]),m 5 17,m 6 19] (rl [0,1] 15 5) (sd [m 20 5,ln 21 20,o 22 (.mk 22 1 4 [(.int .u32 (0))] 21 21),m 7 22] [20,21,22] (sp [mv 8 (.c (.int .u64 (0)))] (s (sd [m 23 5,ln 24 23,mv 25 k0] [5] (b 0 (w OW.l1))) (sd [m 53 7,o 54 (.c7 65 [53]),m 4 54] [6,7,8,23,24,25,26,53,54] .ret))))))),[.tmp 4],false⟩
def L8.l2:=(sp [ls 44 43 42] (s (i 44 .skip (x 2)) (s (b 3 (sd [m 45 43,ia 46 1 41 43,uu 47 1 46,m 11 45,m 12 47] (ra 44 4) (sd [m 48 9,cu 49 48,m 50 12,cu 51 50,bi 52 .mul 49 51,m 53 7,m 54 8,m 55 11,ad 56 54 55,ia 57 1 53 56,uu 58 1 57,cu 59 58,ad 60 52 59,m 61 10,ad 62 60 61,m 13 62] (rl [10,12] 48 15) (sd [m 63 7,m 64 8,m 65 11,ad 66 64 65,m 67 13,o 68 (.conv .u32 67),ia 69 1 63 66,so 1 69 68] (rl [11] 63 7) (d [m 70 13,bi 71 .shr 70 (.c (.int .u64 (32))),m 10 71] [13,70,71]))))) (d [ad 72 43 k1,m 43 72] [72]))))
def L8.l1:=(sp [ls 35 34 33] (s (i 35 .skip (x 0)) (s (b 1 (sd [m 36 34,ia 37 1 32 34,uu 38 1 37,m 8 36,m 9 38] (ra 35 4) (s (sd [m 39 9,bi 40 .eql 39 (.c (.int .u32 (0)))] [39] (i 40 (x 1) .skip)) (sd [mv 10 (.c (.int .u64 (0)))] [40] (s (sp [m 41 6,ln 42 41,mv 43 k0] (b 2 (w L8.l2))) (d [m 73 7,m 74 8,m 75 6,ln 76 75,ad 77 74 76,m 78 10,o 79 (.conv .u32 78),ia 80 1 73 77,so 1 80 79] (rl [8,9,10,41,42,43,44] 73 8))))))) (d [ad 81 34 k1,m 34 81] [8,9,40,81]))))
def L8:AFn:=⟨2,(sd [mv 4 (.c .nil)] [4] (sd [m 14 0,o 15 (.c7 65 [14]),m 16 1,o 17 (.c7 65 [16]),m 5 15,m 6 17] (rl [0,1] 14 4) (s (sd [m 18 5,ln 19 18,bi 20 .eql 19 k0,m 21 20,g 22 21 false (.m5 6),g 23 21 false (.len 22),g 24 21 false (.bin .eql 23 k0),pk 25 21 kt 24] (ra 18 7) (i 25 (sd [mv 4 (.c .nil)] [5,6,25] .ret) .skip)) (sd [m 26 5,ln 27 26,m 28 6,ln 29 28,ad 30 27 29,o 31 (.mk 31 1 4 [(.int .u32 (0))] 30 30),m 7 31] (ra 25 7) (s (sd [m 32 5,ln 33 32,mv 34 k0] [5] (b 0 (w L8.l1))) (sd [m 82 7,o 83 (.c7 65 [82]),m 4 83] [6,7,32,33,34,35,82,83] .ret)))))),[.tmp 4],false⟩
def MB.l1:=(sp [ls 16 15 14] (s (i 16 .skip (x 0)) (s (b 1 (sd [m 17 15,ia 18 1 13 15,uu 19 1 18,m 9 17,m 10 19] (ra 16 4) (sd [m 20 7,m 21 9,m 22 10,m 23 1,bi 24 .shl 22 23,m 25 8,bi 26 .or 24 25,ia 27 1 20 21,so 1 27 26] (rl [8,9] 20 8) (d [m 28 10,cu 29 28,m 30 1,bi 31 .shl 29 30,bi 32 .shr 31 (.c (.int .u64 (32))),o 33 (.conv .u32 32),m 8 33] (rl [10] 28 6))))) (d [ad 34 15 k1,m 15 34] [34]))))
def MB:AFn:=⟨3,(sd [mv 6 (.c .nil)] [6] (sd [m 11 2,o 12 (.mk 71012 1 4 [(.int .u32 (0))] 11 11),m 7 12] [11,12] (sp [mv 8 (.c (.int .u32 (0)))] (s (sp [m 13 0,ln 14 13,mv 15 k0] (b 0 (w MB.l1))) (s (sd [m 35 2,m 36 0,ln 37 36,bi 38 .gtr 35 37] [1,2,13,14,15,16,35,36,37] (i 38 (d [m 39 7,m 40 0,ln 41 40,m 42 8,ia 43 1 39 41,so 1 43 42] (rl [0,8] 38 6)) .skip)) (sd [m 44 7,m 6 44] [0,7,8,38,44] .ret)))))),[.tmp 6],false⟩
def OZ.l1:=(s (sd [m 14 7,bi 15 .geq 14 k0] [14] (i 15 .skip (x 0))) (s (b 1 (sd [m 18 5,m 19 7,m 20 0,m 21 7,ia 22 1 20 21,uu 23 1 22,m 24 1,bi 25 .shr 23 24,m 26 6,bi 27 .or 25 26,ia 28 1 18 19,so 1 28 27] (rl [6,15] 18 11) (d [m 29 0,m 30 7,ia 31 1 29 30,uu 32 1 31,cu 33 32,m 34 1,sb 35 (.c (.int .u64 (32))) 34,bi 36 .shl 33 35,o 37 (.conv .u32 36),m 6 37] (ra 29 9)))) (d [m 16 7,sb 17 16 k1,m 7 17] [16,17])))
def OZ:AFn:=⟨2,(sd [mv 4 (.c .nil)] [4] (sd [m 8 0,ln 9 8,o 10 (.mk 10 1 4 [(.int .u32 (0))] 9 9),m 5 10] [8,9,10] (sp [mv 6 (.c (.int .u32 (0)))] (s (sd [m 11 0,ln 12 11,sb 13 12 k1,m 7 13] [11,12,13] (b 0 (w OZ.l1))) (sd [m 38 5,m 4 38] [0,1,5,6,7,15,38] .ret))))),[.tmp 4],false⟩
namespace G2
def r0:=[mv 4 (.c (.int .u32 (0)))]
def r1:=[m 19 1,ln 20 19,m 5 20]
def r2:=[m 21 0,m 22 5,ia 23 1 21 22,uu 24 1 23,cu 25 24,bi 26 .shl 25 (.c (.int .u64 (32))),m 27 0,m 28 5,
 sb 29 28 k1,ia 30 1 27 29,uu 31 1 30,cu 32 31,bi 33 .or 26 32,m 6 33]
def r3:=[m 34 6,m 35 1,m 36 5,sb 37 36 k1,ia 38 1 35 37,uu 39 1 38,cu 40 39,bi 41 .quo 34 40,m 42 6,
 m 43 1,m 44 5,sb 45 44 k1,ia 46 1 43 45,uu 47 1 46,cu 48 47,bi 49 .rem 42 48,m 7 41,m 8 49]
def r4:=[m 50 7,bi 51 .geq 50 (.c (.int .u64 (4294967296))),m 52 51,g 53 52 false (.m5 7),g 54 52 false (.m5 1),g 55 52 false (.m5 5),
 g 56 52 false (.bin .sub 55 (k 2)),g 57 52 false (.u6 none 1 54 56),g 58 52 false (.ld false 1 57),g 59 52 false (.conv .u64 58),
 g 60 52 false (.bin .mul 53 59),g 61 52 false (.m5 8),g 62 52 false (.bin .shl 61 (.c (.int .u64 (32)))),g 63 52 false (.m5 0),g 64 52 false (.m5 5),
 g 65 52 false (.bin .sub 64 (k 2)),g 66 52 false (.u6 none 1 63 65),g 67 52 false (.ld false 1 66),g 68 52 false (.conv .u64 67),
 g 69 52 false (.bin .or 62 68),g 70 52 false (.bin .gtr 60 69),pk 71 52 kt 70]
def r5:=[m 72 7,sb 73 72 (.c (.int .u64 (1))),m 7 73]
def r6:=[m 74 8,m 75 1,m 76 5,sb 77 76 k1,ia 78 1 75 77,uu 79 1 78,cu 80 79,ad 81 74 80,m 8 81]
def r7:=[m 82 8,bi 83 .geq 82 (.c (.int .u64 (4294967296)))]
def r8:=[mv 9 (.c (.int .u64 (0))),mv 10 (.c (.int .u64 (0)))]
def r9:=[m 84 1,ln 85 84,mv 86 k0]
def Q9:=[ls 87 86 85]
def RA:=[m 88 86,ia 89 1 84 86,uu 90 1 89,m 11 88,m 12 90]
def zs:=[m 91 7,m 92 12,cu 93 92,bi 94 .mul 91 93,m 95 9,ad 96 94 95,m 13 96]
def W6:=[m 97 13,bi 98 .shr 97 (.c (.int .u64 (32))),m 9 98]
def Co:=[m 99 0,m 100 11,ia 101 1 99 100,uu 102 1 101,cu 103 102,m 104 13,o 105 (.conv .u32 104),cu 106 105,
 sb 107 103 106,m 108 10,sb 109 107 108,m 14 109]
def Cp:=[m 110 0,m 111 11,m 112 14,o 113 (.conv .u32 112),ia 114 1 110 111,so 1 114 113]
def Cq:=[m 115 14,bi 116 .shr 115 (.c (.int .u64 (63))),m 10 116]
def W7:=[ad 117 86 k1,m 86 117]
def zt:=[m 118 0,m 119 5,ia 120 1 118 119,uu 121 1 120,cu 122 121,m 123 9,sb 124 122 123,m 125 10,
 sb 126 124 125,m 15 126]
def En:=[m 127 0,m 128 5,m 129 15,o 130 (.conv .u32 129),ia 131 1 127 128,so 1 131 130]
def Fv:=[m 132 15,bi 133 .shr 132 (.c (.int .u64 (63))),bi 134 .eql 133 (.c (.int .u64 (0)))]
def Fw:=[m 135 7,o 136 (.conv .u32 135),m 4 136]
def Fx:=[mv 9 (.c (.int .u64 (0)))]
def Fy:=[m 137 1,ln 138 137,mv 139 k0]
def bG:=[ls 140 139 138]
def bH:=[m 141 139,ia 142 1 137 139,uu 143 1 142,m 16 141,m 17 143]
def bI:=[m 144 0,m 145 16,ia 146 1 144 145,uu 147 1 146,cu 148 147,m 149 17,cu 150 149,ad 151 148 150,
 m 152 9,ad 153 151 152,m 18 153]
def bJ:=[m 154 0,m 155 16,m 156 18,o 157 (.conv .u32 156),ia 158 1 154 155,so 1 158 157]
def bK:=[m 159 18,bi 160 .shr 159 (.c (.int .u64 (32))),m 9 160]
def bL:=[ad 161 139 k1,m 139 161]
def Eo:=[m 162 0,m 163 5,ia 164 1 162 163,uu 165 1 164,m 166 9,o 167 (.conv .u32 166),ad 168 165 167,
 ia 169 1 162 163,so 1 169 168]
def Fz:=[m 170 7,sb 171 170 (.c (.int .u64 (1))),o 172 (.conv .u32 171),m 4 172]
def l1:=(s (se r4 [50,51,52,53,54,55,56,57,58,59,60,61,62,63,64,65,66,67,68,69,70,83] (i 71 .skip (x 0))) (b 1 (sd r5 [71,72,73] (sd r6 (ra 74 8) (sd r7 [82] (i 83 (x 0) .skip))))))
def l2:=(sp Q9 (s (i 87 .skip (x 2)) (s (b 3 (sd RA (ra 87 4) (sd zs (rl [9,12] 91 6) (sd W6 [97,98] (sd Co (rl [10,13] 99 11) (sd Cp (rl [11] 110 5) (d Cq [14,115,116]))))))) (d W7 [117]))))
def l3:=(sp bG (s (i 140 .skip (x 4)) (s (b 5 (sd bH (ra 140 4) (sd bI (rl [9,17] 144 10) (sd bJ (rl [16] 154 5) (d bK [18,159,160]))))) (d bL [161]))))
def c:=(sd r0 [4] (sd r1 [19,20] (se r2 (ra 21 13) (se r3 (rl [6] 34 16) (s (b 0 (w l1)) (sd r8 [8,71,83] (s (sp r9 (b 2 (w l2))) (sd zt (rl [9,10,84,85,86,87] 118 9) (sd En (ra 127 5) (s (sd Fv [15,132,133] (i 134 (sd Fw [0,1,5,7,134,135,136] .ret) .skip)) (sd Fx [134] (s (sd Fy [1] (b 4 (w l3))) (sd Eo (rl [0,5,9,137,138,139,140] 162 8) (sd Fz [7,170,171,172] .ret))))))))))))))
end G2
def G2:AFn:=⟨2,G2.c,[.tmp 4],false⟩
def L9.l1:=(s (sd [m 34 9,bi 35 .geq 34 k0] [34] (i 35 .skip (x 0))) (s (b 1 (sd [m 38 8,bi 39 .shl 38 (.c (.int .u64 (32))),m 40 0,m 41 9,ia 42 1 40 41,uu 43 1 42,cu 44 43,bi 45 .or 39 44,m 10 45] (rl [8,35] 38 8) (sd [m 46 7,m 47 9,m 48 10,m 49 1,ia 50 1 49 k0,uu 51 1 50,cu 52 51,bi 53 .quo 48 52,o 54 (.conv .u32 53),ia 55 1 46 47,so 1 55 54] (ra 46 10) (d [m 56 10,m 57 1,ia 58 1 57 k0,uu 59 1 58,cu 60 59,bi 61 .rem 56 60,m 8 61] (rl [10] 56 6))))) (d [m 36 9,sb 37 36 k1,m 9 37] [36,37])))
def L9.l2:=(s (sd [m 89 14,bi 90 .geq 89 k0] [89] (i 90 .skip (x 2))) (s (b 3 (d [m 93 7,m 94 14,m 95 12,m 96 14,m 97 14,m 98 6,ad 99 97 98,ad 100 99 k1,o 101 (.di 1 95 (some 96) (some 100)),m 102 13,o 103 (.c7 73 [101,102]),ia 104 1 93 94,so 1 104 103] (rl [90] 93 12))) (d [m 91 14,sb 92 91 k1,m 14 92] [91,92])))
def L9:AFn:=⟨2,(sd [mv 4 (.c .nil),mv 5 (.c .nil)] [4,5] (s (sd [m 15 0,m 16 1,ca 17 67 [15,16],ls 18 17 k0] [15,16,17] (i 18 (sd [m 19 0,ca 20 62 [19],mv 4 (.c .nil),m 5 20] [0,1,18,19,20] .ret) .skip)) (sd [m 21 1,ln 22 21,m 6 22] [18,21,22] (sd [m 23 0,ln 24 23,m 25 6,sb 26 24 25,ad 27 26 k1,o 28 (.mk 28 1 4 [(.int .u32 (0))] 27 27),m 7 28] (ra 23 6) (s (sd [m 29 6,bi 30 .eql 29 k1] [29] (i 30 (sd [mv 8 (.c (.int .u64 (0)))] [6,30] (s (sd [m 31 0,ln 32 31,sb 33 32 k1,m 9 33] [31,32,33] (b 0 (w L9.l1))) (sd [m 62 7,o 63 (.c7 65 [62]),m 64 8,o 65 (.conv .u32 64),o 66 (.a7 66 1 [65]),o 67 (.c7 65 [66]),m 4 63,m 5 67] (rl [0,1,7,8,9,35] 62 6) .ret))) .skip)) (sd [m 68 1,m 69 6,sb 70 69 k1,ia 71 1 68 70,uu 72 1 71,ca 73 64 [72],cu 74 73,m 11 74] (rl [30] 68 7) (sd [m 75 0,m 76 11,m 77 0,ln 78 77,ad 79 78 k1,o 80 (.c7 71 [75,76,79]),m 81 1,m 82 11,m 83 6,ca 84 71 [81,82,83],m 12 80,m 13 84] (rl [1] 75 10) (s (sd [m 85 0,ln 86 85,m 87 6,sb 88 86 87,m 14 88] (rl [0] 85 4) (b 2 (w L9.l2))) (se [m 105 7,o 106 (.c7 65 [105]),m 107 12,m 108 6,o 109 (.di 1 107 none (some 108)),m 110 11,ca 111 72 [109,110],o 112 (.c7 65 [111]),m 4 106,m 5 112] (rl [6,7,11,12,13,14,90] 105 8) .ret))))))))),[.tmp 4,.tmp 5],false⟩
def TJ:AFn:=⟨2,(sd [mv 4 (.c .nil),mv 5 (.c .nil),mv 6 k0] [4,5,6] (sd [m 10 1,o 11 (.c7 65 [10]),m 7 11] [1,10,11] (s (sd [m 12 7,ln 13 12,bi 14 .eql 13 k0] [12,13] (i 14 (sd [mv 4 (.c .nil),mv 5 (.c .nil),mv 6 (k 3)] [0,7,14] .ret) .skip)) (sd [m 16 0,o 17 (.c7 65 [16]),m 18 7,ca 19 74 [17,18],m 15 19,et 20 15 0,et 21 15 1,m 8 20,m 9 21] (rl [0,7] 14 8) (sd [m 22 8,m 23 9,m 4 22,m 5 23,mv 6 k0] [8,9,22,23] .ret))))),[.tmp 4,.tmp 5,.tmp 6],false⟩
def O0.l1:=(sp [ls 9 8 7] (s (i 9 .skip (x 0)) (s (b 1 (sd [m 10 8,ia 11 1 6 8,uu 12 1 11,m 4 10,m 5 12] (ra 9 4) (d [m 13 3,m 14 5,cu 15 14,m 16 4,bi 17 .mul (k 32) 16,bi 18 .shl 15 17,bi 19 .or 13 18,m 3 19] (rl [4,5] 13 7)))) (d [ad 20 8 k1,m 8 20] [20]))))
def O0:AFn:=⟨1,(sd [mv 2 (.c (.int .u64 (0)))] [2] (sp [mv 3 (.c (.int .u64 (0)))] (s (sd [m 6 0,ln 7 6,mv 8 k0] [0] (b 0 (w O0.l1))) (sd [m 21 3,m 2 21] [3,6,7,8,9,21] .ret)))),[.tmp 2],false⟩
def MA:AFn:=⟨2,(sd [mv 3 (.c (.int .u64 (0)))] [3] (s (sd [m 4 0,uu 5 1 1,ln 6 5,ls 7 4 6] [4,5,6] (i 7 (sd [uu 8 1 1,m 9 0,ia 10 1 8 9,uu 11 1 10,cu 12 11,m 3 12] (rl [0,1] 7 6) .ret) .skip)) (sd [mv 3 (.c (.int .u64 (0)))] [0,1,7] .ret))),[.tmp 3],false⟩
def TL:AFn:=⟨3,(sd [bx 3 0,mv 6 k0] [0,6] (sd [o 9 (.ri false 77 [3]),m 7 9] [3,9] (sd [m 10 7,m 11 1,sb 12 11 k1,o 13 (.m9 10 [12]),bi 14 .shl 13 (.c (.int .u64 (32))),m 15 7,m 16 1,sb 17 16 (k 2),o 18 (.m9 15 [17]),bi 19 .or 14 18,m 20 2,bi 21 .shl 19 20,m 8 21] (ra 10 12) (sd [m 22 8,m 23 7,m 24 1,sb 25 24 (k 3),o 26 (.m9 23 [25]),m 27 2,bi 28 .shl 26 27,bi 29 .shr 28 (.c (.int .u64 (32))),bi 30 .or 22 29,m 8 30] (rl [1,2,7] 22 9) (sd [m 31 8,bi 32 .shr 31 (.c (.int .u64 (2))),o 33 (.conv .i64 32),m 6 33] [8,31,32,33] .ret))))),[.tmp 6],false⟩
def OX.l1:=(s (sd [m 11 1,m 12 6,ad 13 11 12,bi 14 .neq 13 k0,m 15 14,g 16 15 true (.m5 1),g 17 15 true (.m5 7),g 18 15 true (.bin .add 16 17),g 19 15 true (.bin .neq 18 k0),pk 20 15 19 kf] (ra 11 9) (i 20 .skip (x 0))) (b 1 (sd [m 21 0,m 22 4,ad 23 21 22,m 24 1,m 25 6,ad 26 24 25,bi 27 .quo 23 26,m 8 27] (ra 20 8) (s (sd [m 28 8,m 29 0,m 30 5,ad 31 29 30,m 32 1,m 33 7,ad 34 32 33,bi 35 .quo 31 34,bi 36 .neq 28 35,m 37 36,g 38 37 false (.m5 8),g 39 37 false (.bin .gtr 38 (k 2147483647)),pk 40 37 kt 39] (ra 28 12) (i 40 (x 0) .skip)) (sd [m 41 4,m 42 8,m 43 6,bi 44 .mul 42 43,sb 45 41 44,m 46 5,m 47 8,m 48 7,bi 49 .mul 47 48,sb 50 46 49,m 9 45,m 10 50] (ra 40 11) (s (sd [m 51 9,m 52 9,o 53 (.un .neg 52),m 54 10,m 55 10,o 56 (.un .neg 55),o 57 (.mm true [51,53,54,56]),bi 58 .gtr 57 (k 2147483647)] (ra 51 7) (i 58 (x 0) .skip)) (sd [m 59 6,m 60 7,m 61 9,m 62 10,m 4 59,m 5 60,m 6 61,m 7 62] (rl [9,10] 58 5) (d [m 63 1,m 64 0,m 65 8,m 66 1,bi 67 .mul 65 66,sb 68 64 67,m 0 63,m 1 68] (rl [8] 63 6)))))))))
def OX:AFn:=⟨2,(sd [mv 4 k0,mv 5 k0,mv 6 k0,mv 7 k0] [4,7] (sp [mv 4 k1,mv 7 k1] (s (b 0 (w OX.l1)) (sd [m 69 4,m 70 5,m 71 6,m 72 7,m 4 69,m 5 70,m 6 71,m 7 72] (rl [0,1,8,9,10,20,40,58] 69 4) .ret)))),[.tmp 4,.tmp 5,.tmp 6,.tmp 7],false⟩
def OY.l1:=(sp [ls 20 19 18] (s (i 20 .skip (x 0)) (s (b 1 (sd [m 21 19,ia 22 1 17 19,uu 23 1 22,m 11 21,m 12 23] (ra 20 4) (sd [m 24 2,m 25 12,o 26 (.conv .i64 25),bi 27 .mul 24 26,m 28 10,ad 29 27 28,m 13 29] (rl [10,12] 24 6) (s (sd [m 30 11,m 31 1,ln 32 31,ls 33 30 32] [30,31,32] (i 33 (d [m 34 13,m 35 3,m 36 1,m 37 11,ia 38 1 36 37,uu 39 1 38,o 40 (.conv .i64 39),bi 41 .mul 35 40,ad 42 34 41,m 13 42] (ra 33 10)) .skip)) (sd [m 43 9,m 44 11,m 45 13,o 46 (.conv .u32 45),ia 47 1 43 44,so 1 47 46] (rl [11,33] 43 5) (d [m 48 13,bi 49 .shr 48 (.c (.int .u64 (32))),m 10 49] [13,48,49])))))) (d [ad 50 19 k1,m 19 50] [50]))))
def OY:AFn:=⟨4,(sd [mv 8 (.c .nil)] [8] (sd [m 14 0,ln 15 14,o 16 (.mk 16 1 4 [(.int .u32 (0))] 15 15),m 9 16] [14,15,16] (sp [mv 10 k0] (s (sd [m 17 0,ln 18 17,mv 19 k0] [0] (b 0 (w OY.l1))) (sd [m 51 9,o 52 (.c7 65 [51]),m 8 52] [1,2,3,9,10,17,18,19,20,51,52] .ret))))),[.tmp 8],false⟩
def TM:AFn:=⟨2,(sd [mv 4 (.c .nil),mv 5 (.c .nil)] [4,5] (sd [m 14 0,ln 15 14,m 6 15] [14,15] (sd [m 16 0,m 17 6,sb 18 17 k1,ia 19 1 16 18,uu 20 1 19,ca 21 64 [20],cu 22 21,m 7 22] (ra 16 7) (sd [m 24 0,m 25 6,m 26 7,ca 27 78 [24,25,26],m 28 1,m 29 6,m 30 7,ca 31 78 [28,29,30],ca 32 79 [27,31],m 23 32,et 33 23 0,et 34 23 1,et 35 23 2,et 36 23 3,m 8 33,m 9 34,m 10 35,m 11 36] (rl [6,7] 23 14) (s (sd [m 37 9,bi 38 .eql 37 k0] [37] (i 38 (sd [m 40 0,m 41 1,ca 42 74 [40,41],m 39 42,et 43 39 0,et 44 39 1,m 12 43,m 13 44] (rl [0,8,9,10,11,12] 38 7) (sd [m 45 1,m 46 13,m 4 45,m 5 46] [1,13,45,46] .ret)) .skip)) (sd [m 47 0,m 48 1,m 49 8,m 50 9,ca 51 80 [47,48,49,50],m 52 0,m 53 1,m 54 10,m 55 11,ca 56 80 [52,53,54,55],m 4 51,m 5 56] (rl [0,1,8,9,10,11,38] 47 10) .ret)))))),[.tmp 4,.tmp 5],false⟩
namespace HQ
def r0:=[mv 4 (.c .nil)]
def r1:=[m 11 0,ca 12 66 [11],m 13 1,ca 14 66 [13],m 5 12,m 6 14]
def r2:=[m 15 5,m 16 6,ca 17 67 [15,16],ls 18 17 k0]
def r3:=[m 19 6,m 20 5,m 5 19,m 6 20]
def r4:=[m 21 6,ln 22 21,bi 23 .gtr 22 (k 2)]
def r5:=[m 25 5,m 26 6,ca 27 81 [25,26],m 24 27,et 28 24 0,et 29 24 1,m 5 28,m 6 29]
def r6:=[m 30 6,ln 31 30,bi 32 .eql 31 k0]
def r7:=[m 33 5,m 4 33]
def r8:=[m 35 5,m 36 6,ca 37 74 [35,36],m 34 37,et 38 34 0,et 39 34 1,m 7 38,m 8 39]
def r9:=[m 40 6,ca 41 76 [40],m 42 8,ca 43 76 [42],m 9 41,m 10 43]
def Q9:=[m 44 10,bi 45 .neq 44 (.c (.int .u64 (0)))]
def RA:=[m 46 10,m 47 9,m 48 10,bi 49 .rem 47 48,m 9 46,m 10 49]
def zs:=[m 50 9,o 51 (.conv .u32 50),m 52 9,bi 53 .shr 52 (.c (.int .u64 (32))),o 54 (.conv .u32 53),o 55 (.a7 55 1 [51,54]),o 56 (.c7 65 [55]),
 m 4 56]
def l1:=(s (sd r4 [18,21,22] (i 23 .skip (x 0))) (b 1 (d r5 (ra 23 7))))
def l2:=(s (sd Q9 [44] (i 45 .skip (x 2))) (b 3 (e RA (ra 45 5))))
def c:=(sd r0 [4] (sd r1 (rl [0,1] 11 4) (s (sd r2 [15,16,17] (i 18 (d r3 [18,19,20]) .skip)) (s (b 0 (w l1)) (s (sd r6 [23,30,31] (i 32 (sd r7 [5,6,32,33] .ret) .skip)) (sd r8 (rl [5,7,32] 34 6) (sd r9 (rl [6,8] 40 4) (s (b 2 (w l2)) (sd zs (rl [9,10,45] 50 7) .ret)))))))))
end HQ
def HQ:AFn:=⟨2,HQ.c,[.tmp 4],false⟩
structure c4 (L:Lib):Prop where
 SA:L 58=some F.SA
 SB:L 59=some F.SB
 R8:L 60=some F.R8
 R9:L 61=some F.R9
 KV:L 62=some F.KV
 TF:L 63=some F.TF
 TE:L 64=some F.TE
 G1:L 65=some F.G1
 TK:L 66=some F.TK
 OV:L 67=some F.OV
 OU:L 68=some F.OU
 OW:L 69=some F.OW
 L8:L 70=some F.L8
 MB:L 71=some F.MB
 OZ:L 72=some F.OZ
 G2:L 73=some F.G2
 L9:L 74=some F.L9
 TJ:L 75=some F.TJ
 O0:L 76=some F.O0
 MA:L 77=some F.MA
 TL:L 78=some F.TL
 OX:L 79=some F.OX
 OY:L 80=some F.OY
 TM:L 81=some F.TM
 HQ:L 82=some F.HQ
end Go.c6.F

namespace Go.c6.F
open C
def D8:AFn:=⟨2,(sp [o 4 (.alloc 83004 [(.bool false),.nil])] (sd [m 5 0,m 6 5,g 7 6 true (.m5 1),g 8 6 true (.len 7),g 9 6 true (.bin .gtr 8 k0),pk 10 6 9 kf,m 11 1,o 12 (.build [(.bool false),.nil] [(0,1,10),(1,1,11)]),so 2 4 12] (rl [0,1] 5 8) .ret)),[.cell 4 true 2],false⟩
def TA:AFn:=⟨1,(sd [bx 1 0,al 2 [(.bool false),.nil]] [0] (se [fa 3 1 0,uu 4 1 3,fa 5 1 1,uu 6 1 5,ca 7 66 [6],o 8 (.c7 83 [4,7]),so 2 2 8] (rl [1] 3 6) .ret)),[.cell 2 true 2],false⟩
def S8:AFn:=⟨1,(sp [al 2 [(.bool false),.nil]] (sd [m 4 0,cu 5 4,m 3 5] [4,5] (s (sd [m 6 0,ls 7 6 k0] [6] (i 7 (d [m 8 3,o 9 (.un .neg 8),m 3 9] [7,8,9]) .skip)) (sd [m 10 0,ls 11 10 k0,m 12 3,o 13 (.conv .u32 12),m 14 3,bi 15 .shr 14 (.c (.int .u64 (32))),o 16 (.conv .u32 15),o 17 (.a7 17 1 [13,16]),ca 18 66 [17],o 19 (.c7 83 [11,18]),so 2 2 19] (rl [0,3,7] 10 10) .ret)))),[.cell 2 true 2],false⟩
def S9:AFn:=⟨1,(sd [bx 1 0,mv 2 k0] [0,2] (s (b 0 (sd [fa 4 1 1,uu 5 1 4,ca 6 67 [5,(.c .nil)],bi 7 .eql 6 k0,m 3 7] (ra 4 4) (i 3 (sd [mv 2 k0] [1,3] .ret) (sd [fa 9 1 0,uu 10 1 9,m 8 10] [1,3,9,10] (i 8 (sd [mv 2 (k (-1))] [8] .ret) .skip))))) (sd [mv 2 k1] [8] .ret))),[.tmp 2],false⟩
def S5:AFn:=⟨2,(sd [bx 2 0,bx 3 1,al 4 [(.bool false),.nil]] [0,1] (s (sd [fa 5 2 0,uu 6 1 5,fa 7 3 0,uu 8 1 7,o 9 (.beq false 6 8)] (ra 5 4) (i 9 (se [fa 10 2 0,uu 11 1 10,fa 12 2 1,uu 13 1 12,fa 14 3 1,uu 15 1 14,ca 16 68 [13,15],o 17 (.c7 83 [11,16]),so 2 4 17] (rl [2,3] 9 9) .ret) .skip)) (s (sd [fa 18 2 1,uu 19 1 18,fa 20 3 1,uu 21 1 20,ca 22 67 [19,21],bi 23 .eql 22 (k (-1))] (rl [9] 18 5) (i 23 (se [fa 24 3 0,uu 25 1 24,fa 26 3 1,uu 27 1 26,fa 28 2 1,uu 29 1 28,ca 30 69 [27,29],o 31 (.c7 83 [25,30]),so 2 4 31] (rl [2,3] 23 9) .ret) .skip)) (se [fa 32 2 0,uu 33 1 32,fa 34 2 1,uu 35 1 34,fa 36 3 1,uu 37 1 36,ca 38 69 [35,37],o 39 (.c7 83 [33,38]),so 2 4 39] (rl [2,3,23] 32 8) .ret)))),[.cell 4 true 2],false⟩
def S7:AFn:=⟨2,(sd [bx 2 0,bx 3 1,al 4 [(.bool false),.nil]] [0,1] (se [fa 5 2 0,uu 6 1 5,fa 7 3 0,uu 8 1 7,o 9 (.beq true 6 8),fa 10 2 1,uu 11 1 10,fa 12 3 1,uu 13 1 12,ca 14 70 [11,13],o 15 (.c7 83 [9,14]),so 2 4 15] (rl [2,3] 5 11) .ret)),[.cell 4 true 2],false⟩
def MN:AFn:=⟨1,(sd [bx 1 0,al 2 [(.bool false),.nil,.nil,(.bool false)]] [0] (s (sd [fa 3 1 2,uu 4 1 3,ln 5 4,bi 6 .eql 5 k1,m 7 6,g 8 7 true (.j4 1 2),g 9 7 true (.ld false 1 8),g 10 7 true (.u6 none 1 9 k0),g 11 7 true (.ld false 1 10),g 12 7 true (.bin .eql 11 (.c (.int .u32 (1)))),pk 13 7 12 kf] (ra 3 10) (i 13 (sd [fa 14 1 0,tt 15 2 14,fa 16 1 2,uu 17 1 16,o 18 (.build z3 [(0,2,15),(2,1,17)]),o 19 (.build [(.bool false),.nil,.nil,(.bool false)] [(0,3,18),(3,1,kt)]),so 4 2 19] (rl [1] 13 7) .ret) .skip)) (s (sd [fa 20 1 2,uu 21 1 20,ca 22 67 [21,(.c .nil)],bi 23 .eql 22 k0] [13,20,21,22] (i 23 (sd [o 24 (.build [(.bool false),.nil] []),o 25 (.a7 25 1 [(.c (.int .u32 (1)))]),o 26 (.build z3 [(0,2,24),(2,1,25)]),o 27 (.build [(.bool false),.nil,.nil,(.bool false)] [(0,3,26),(3,1,kt)]),so 4 2 27] (rl [1] 23 5) .ret) .skip)) (sd [fa 28 1 0,tt 29 2 28,fa 30 1 2,uu 31 1 30,o 32 (.build z3 [(0,2,29),(2,1,31)]),o 33 (.build [(.bool false),.nil,.nil,(.bool false)] [(0,3,32),(3,1,kf)]),so 4 2 33] (rl [1,23] 28 6) .ret)))),[.cell 2 true 4],false⟩
def T9:AFn:=⟨1,(sd [mv 2 kf] [2] (sd [m 3 0,ln 4 3,bi 5 .eql 4 k1,m 6 5,g 7 6 true (.m5 0),g 8 6 true (.u6 none 1 7 k0),g 9 6 true (.ld false 1 8),g 10 6 true (.bin .eql 9 (.c (.int .u32 (1)))),pk 11 6 10 kf,m 2 11] (rl [0] 3 9) .ret)),[.tmp 2],false⟩
def UA:AFn:=⟨1,(sp [al 2 [(.bool false),.nil]] (sd [m 3 0,o 4 (.build [(.bool false),.nil] [(1,1,3)]),so 2 2 4] [0,3,4] .ret)),[.cell 2 true 2],false⟩
def KM:AFn:=⟨1,(sd [o 1 (.box 92001 0),o 2 (.alloc 92002 z3)] [0] (sd [tt 3 2 1,o 4 (.a7 92004 1 [(.c (.int .u32 (1)))]),o 5 (.build z3 [(0,2,3),(2,1,4)]),so 3 2 5] [1,3,4,5] .ret)),[.cell 2 true 3],false⟩
def PH:AFn:=⟨2,(sd [o 2 (.box 93002 0),o 3 (.box 93003 1),o 4 (.alloc 93004 z3)] [0,1] (sd [fa 5 2 0,uu 6 1 5,fa 7 3 0,uu 8 1 7,o 9 (.beq true 6 8),fa 10 2 1,uu 11 1 10,o 12 (.build [(.bool false),.nil] [(0,1,9),(1,1,11)]),fa 13 3 1,uu 14 1 13,o 15 (.build z3 [(0,2,12),(2,1,14)]),so 3 4 15] (rl [2,3] 5 11) .ret)),[.cell 4 true 3],false⟩
def UB:AFn:=⟨1,(sd [bx 1 0,al 2 z3] [0] (sd [fa 14 1 0,fa 15 14 1,uu 16 1 15,fa 17 1 2,uu 18 1 17,ca 19 75 [16,18],m 13 19,et 20 13 0,et 21 13 1,et 22 13 2,m 3 20,m 4 21,m 5 22] (rl [5] 13 10) (s (sd [m 23 4,ln 24 23,bi 25 .eql 24 k0] [23,24] (i 25 (sd [fa 26 1 0,fa 27 26 0,uu 28 1 27,m 29 3,o 30 (.build [(.bool false),.nil] [(0,1,28),(1,1,29)]),ca 31 84 [30],o 32 (.c7 92 [31]),so 3 2 32] (rl [1,3,4] 25 8) .ret) .skip)) (sd [fa 33 1 2,uu 34 1 33,m 35 4,ca 36 82 [34,35],m 6 36] (rl [3,4,25] 33 4) (s (sd [m 37 6,ca 38 90 [37]] [37] (i 38 (se [fa 39 1 0,tt 40 2 39,ca 41 84 [40],fa 42 1 2,uu 43 1 42,ca 44 66 [43],o 45 (.build z3 [(0,2,41),(2,1,44)]),so 3 2 45] (rl [1,6] 38 8) .ret) .skip)) (sd [fa 47 1 0,fa 48 47 1,uu 49 1 48,m 50 6,ca 51 75 [49,50],m 46 51,et 52 46 0,et 53 46 1,et 54 46 2,m 7 52,m 8 53,m 9 54] (rl [8,9,38] 46 9) (sd [fa 56 1 2,uu 57 1 56,m 58 6,ca 59 75 [57,58],m 55 59,et 60 55 0,et 61 55 1,et 62 55 2,m 10 60,m 11 61,m 12 62] (rl [6,11,12] 55 8) (sd [fa 63 1 0,fa 64 63 0,uu 65 1 64,m 66 7,o 67 (.build [(.bool false),.nil] [(0,1,65),(1,1,66)]),m 68 10,o 69 (.build z3 [(0,2,67),(2,1,68)]),so 3 2 69] (rl [1,7,10] 63 7) .ret)))))))),[.cell 2 true 3],false⟩
def T7:AFn:=⟨1,(sd [bx 1 0,al 2 z3] [0] (sd [tt 3 3 1,o 4 (.j6 89 [3]),o 5 (.pn 4 0 3 true),ca 6 94 [5],so 3 2 6] [1,3,4,5,6] .ret)),[.cell 2 true 3],false⟩
def T4:AFn:=⟨1,(sp [al 2 z3] (sd [m 3 0,ca 4 85 [3],o 5 (.c7 92 [4]),so 3 2 5] [0,3,4,5] .ret)),[.cell 2 true 3],false⟩
def T5:AFn:=⟨1,(sd [bx 1 0,mv 2 k0] [0,2] (sd [tt 3 3 1,o 4 (.j6 89 [3]),o 5 (.pn 4 0 3 true),o 6 (.pn 5 0 2 true),ca 7 86 [6],m 2 7] (rl [1] 3 5) .ret)),[.tmp 2],false⟩
def MM:AFn:=⟨2,(sd [bx 2 0,bx 3 1,al 4 z3] [0,1] (se [q 8 [5,6] (.ld true 3 2),q 9 [5,6] (.j6 89 [8]),q 10 [5,6] (.ld true 3 3),q 11 [5,6] (.j6 89 [10]),al 5 [(.bool false),.nil,.nil,(.bool false)],al 6 [(.bool false),.nil,.nil,(.bool false)],so 4 5 9,so 4 6 11] (rl [2,3] 8 4) (s (sd [fa 12 5 3,uu 13 1 12,m 14 13,g 15 14 true (.j4 6 3),g 16 14 true (.ld false 1 15),pk 17 14 16 kf] (ra 12 5) (i 17 (sd [fa 18 5 0,fa 19 18 0,tt 20 2 19,fa 21 6 0,fa 22 21 0,tt 23 2 22,ca 24 87 [20,23],o 25 (.c7 92 [24]),so 3 4 25] (rl [5,6] 17 9) .ret) .skip)) (s (sd [fa 26 5 0,fa 27 26 2,uu 28 1 27,fa 29 6 0,fa 30 29 2,uu 31 1 30,ca 32 67 [28,31],bi 33 .eql 32 k0] (rl [17] 26 7) (i 33 (se [fa 34 5 0,fa 35 34 0,tt 36 2 35,fa 37 6 0,fa 38 37 0,tt 39 2 38,ca 40 87 [36,39],fa 41 5 0,fa 42 41 2,uu 43 1 42,o 44 (.build z3 [(0,2,40),(2,1,43)]),ca 45 94 [44],so 3 4 45] (rl [5,6] 33 13) .ret) .skip)) (se [fa 46 5 0,fa 47 46 0,q 48 [7] (.ld true 2 47),fa 49 6 0,fa 50 49 2,q 51 [7] (.ld false 1 50),q 52 [7] (.j6 91 [51]),q 53 [7] (.call 88 [48,52]),fa 54 6 0,fa 55 54 0,q 56 [7] (.ld true 2 55),fa 57 5 0,fa 58 57 2,q 59 [7] (.ld false 1 58),q 60 [7] (.j6 91 [59]),q 61 [7] (.call 88 [56,60]),q 62 [7] (.call 87 [53,61]),al 7 [(.bool false),.nil],so 2 7 62] (rl [33] 46 17) (se [tt 63 2 7,fa 64 5 0,fa 65 64 2,uu 66 1 65,fa 67 6 0,fa 68 67 2,uu 69 1 68,ca 70 70 [66,69],o 71 (.build z3 [(0,2,63),(2,1,70)]),ca 72 94 [71],so 3 4 72] (rl [5,6,7] 63 10) .ret)))))),[.cell 4 true 3],false⟩
def PG:AFn:=⟨2,(sd [bx 2 0,bx 3 1,al 4 z3] [0,1] (se [q 8 [5,6] (.ld true 3 2),q 9 [5,6] (.j6 89 [8]),q 10 [5,6] (.ld true 3 3),q 11 [5,6] (.j6 89 [10]),al 5 [(.bool false),.nil,.nil,(.bool false)],al 6 [(.bool false),.nil,.nil,(.bool false)],so 4 5 9,so 4 6 11] (rl [2,3] 8 4) (sd [fa 12 5 0,fa 13 12 0,tt 14 2 13,fa 15 6 0,fa 16 15 0,tt 17 2 16,ca 18 88 [14,17],al 7 [(.bool false),.nil],so 2 7 18] (ra 12 7) (s (sd [fa 19 5 3,uu 20 1 19,m 21 20,g 22 21 true (.j4 6 3),g 23 21 true (.ld false 1 22),pk 24 21 23 kf] (ra 19 5) (i 24 (sd [tt 25 2 7,o 26 (.c7 92 [25]),so 3 4 26] [5,6,7,24,25,26] .ret) .skip)) (se [tt 27 2 7,fa 28 5 0,fa 29 28 2,uu 30 1 29,fa 31 6 0,fa 32 31 2,uu 33 1 32,ca 34 70 [30,33],o 35 (.build z3 [(0,2,27),(2,1,34)]),ca 36 94 [35],so 3 4 36] (rl [5,6,7,24] 27 10) .ret))))),[.cell 4 true 3],false⟩
def TY:AFn:=⟨2,(sd [bx 2 0,bx 3 1,al 4 z3,mv 5 k0] [0,1,5] (se [q 10 [6,7] (.ld true 3 2),q 11 [6,7] (.j6 89 [10]),q 12 [6,7] (.ld true 3 3),q 13 [6,7] (.j6 89 [12]),al 6 [(.bool false),.nil,.nil,(.bool false)],al 7 [(.bool false),.nil,.nil,(.bool false)],so 4 6 11,so 4 7 13] (rl [2,3] 10 4) (s (sd [fa 14 7 0,fa 15 14 0,tt 16 2 15,ca 17 86 [16],bi 18 .eql 17 k0] (ra 14 4) (i 18 (sd [o 19 (.build z3 []),so 3 4 19,mv 5 (k 3)] [6,7,18,19] .ret) .skip)) (se [fa 20 6 0,fa 21 20 0,q 22 [8] (.ld true 2 21),fa 23 7 0,fa 24 23 2,q 25 [8] (.ld false 1 24),q 26 [8] (.j6 91 [25]),q 27 [8] (.call 88 [22,26]),al 8 [(.bool false),.nil],so 2 8 27] (rl [18] 20 8) (se [fa 28 6 0,fa 29 28 2,q 30 [9] (.ld false 1 29),q 31 [9] (.j6 91 [30]),fa 32 7 0,fa 33 32 0,q 34 [9] (.ld true 2 33),q 35 [9] (.call 88 [31,34]),al 9 [(.bool false),.nil],so 2 9 35] (rl [6,7] 28 8) (sd [tt 36 2 8,tt 37 2 9,o 38 (.c7 93 [36,37]),ca 39 94 [38],so 3 4 39,mv 5 k0] (rl [8,9] 36 4) .ret)))))),[.cell 4 true 3,.tmp 5],false⟩
structure a5 (L:Lib):Prop extends c4 L where
 D8:L 83=some F.D8
 TA:L 84=some F.TA
 S8:L 85=some F.S8
 S9:L 86=some F.S9
 S5:L 87=some F.S5
 S7:L 88=some F.S7
 MN:L 89=some F.MN
 T9:L 90=some F.T9
 UA:L 91=some F.UA
 KM:L 92=some F.KM
 PH:L 93=some F.PH
 UB:L 94=some F.UB
 T7:L 95=some F.T7
 T4:L 96=some F.T4
 T5:L 97=some F.T5
 MM:L 98=some F.MM
 PG:L 99=some F.PG
 TY:L 100=some F.TY
end Go.c6.F

namespace Go.c6.F
open C
def JA.l1:=(s (sd [m 6 3,bi 7 .gtr 6 k0,m 8 7,g 9 8 true (.m5 0),g 10 8 true (.m5 3),g 11 8 true (.bin .sub 10 k1),g 12 8 true (.u6 none 1 9 11),g 13 8 true (.ld false 1 12),g 14 8 true (.bin .eql 13 (.c (.int .u32 (0)))),pk 15 8 14 kf] (ra 6 9) (i 15 .skip (x 0))) (b 1 (d [m 16 3,sb 17 16 k1,m 3 17] [15,16,17])))
def JA:AFn:=⟨1,(sd [mv 2 (.c .nil)] [2] (sd [m 4 0,ln 5 4,m 3 5] [4,5] (s (b 0 (w JA.l1)) (sd [m 18 0,m 19 3,o 20 (.di 1 18 none (some 19)),o 21 (.app 101021 1 4 (.c .nil) 20),m 2 21] (rl [0,3,15] 18 4) .ret)))),[.tmp 2],false⟩
def PK.l1:=(s (sd [m 23 5,bi 24 .geq 23 k0] [23] (i 24 .skip (x 0))) (s (b 1 (s (se [m 27 0,m 28 5,ia 29 1 27 28,uu 30 1 29,m 31 1,m 32 5,ia 33 1 31 32,uu 34 1 33,ls 35 30 34] (rl [24] 27 8) (i 35 (sd [mv 4 (k (-1))] [0,1,5,35] .ret) .skip)) (se [m 36 0,m 37 5,ia 38 1 36 37,uu 39 1 38,m 40 1,m 41 5,ia 42 1 40 41,uu 43 1 42,bi 44 .gtr 39 43] (ra 35 9) (i 44 (sd [mv 4 k1] [0,1,5,44] .ret) .skip)))) (d [m 25 5,sb 26 25 k1,m 5 26] [25,26,44])))
def PK:AFn:=⟨2,(sd [mv 4 k0] [4] (sd [m 6 0,ca 7 101 [6],m 8 1,ca 9 101 [8],m 0 7,m 1 9] (ra 6 4) (s (sd [m 10 0,ln 11 10,m 12 1,ln 13 12,bi 14 .neq 11 13] (ra 10 4) (i 14 (s (sd [m 15 0,ln 16 15,m 17 1,ln 18 17,ls 19 16 18] (rl [0,1] 14 5) (i 19 (sd [mv 4 (k (-1))] [19] .ret) .skip)) (sd [mv 4 k1] [19] .ret)) .skip)) (s (sd [m 20 0,ln 21 20,sb 22 21 k1,m 5 22] [14,20,21,22] (b 0 (w PK.l1))) (sd [mv 4 k0] [0,1,5,24] .ret))))),[.tmp 4],false⟩
def PI.l1:=(s (sd [m 8 7,m 9 0,ln 10 9,ls 11 8 10,m 12 11,g 13 12 false (.m5 7),g 14 12 false (.m5 1),g 15 12 false (.len 14),g 16 12 false (.bin .lss 13 15),pk 17 12 kt 16] (ra 8 9) (i 17 .skip (x 0))) (s (b 1 (s (sd [m 20 7,m 21 0,ln 22 21,ls 23 20 22] [17,20,21,22] (i 23 (d [m 24 6,m 25 0,m 26 7,ia 27 1 25 26,uu 28 1 27,cu 29 28,ad 30 24 29,m 6 30] (ra 23 8)) .skip)) (s (sd [m 31 7,m 32 1,ln 33 32,ls 34 31 33] [23,31,32,33] (i 34 (d [m 35 6,m 36 1,m 37 7,ia 38 1 36 37,uu 39 1 38,cu 40 39,ad 41 35 40,m 6 41] (ra 34 8)) .skip)) (sd [m 42 5,m 43 6,o 44 (.conv .u32 43),o 45 (.a7 45 1 [44]),o 46 (.app 46 1 4 42 45),m 5 46] (rl [34] 42 5) (d [m 47 6,bi 48 .shr 47 (.c (.int .u64 (32))),m 6 48] [47,48]))))) (d [m 18 7,ad 19 18 k1,m 7 19] [18,19])))
def PI:AFn:=⟨2,(sd [mv 4 (.c .nil)] [4] (sp [o 5 (.v5 5 1)] (sp [mv 6 (.c (.int .u64 (0)))] (s (sp [mv 7 k0] (b 0 (w PI.l1))) (sd [m 49 5,m 50 6,o 51 (.conv .u32 50),o 52 (.a7 52 1 [51]),o 53 (.app 53 1 4 49 52),ca 54 101 [53],m 4 54] (rl [0,1,5,6,7,17] 49 6) .ret))))),[.tmp 4],false⟩
namespace KN
def r0:=[mv 4 (.c .nil)]
def r1:=[m 10 0,m 11 1,ca 12 102 [10,11],ls 13 12 k0]
def r2:=[mv 4 (.c .nil)]
def r3:=[m 14 1,ca 15 101 [14],m 1 15]
def r4:=[m 16 0,o 17 (.c7 101 [16]),m 5 17]
def r5:=[mv 6 (.c (.int .u64 (0)))]
def r6:=[mv 7 k0]
def r7:=[m 18 7,m 19 5,ln 20 19,ls 21 18 20]
def r9:=[m 24 6,m 8 24]
def Q9:=[m 25 7,m 26 1,ln 27 26,ls 28 25 27]
def RA:=[m 29 8,m 30 1,m 31 7,ia 32 1 30 31,uu 33 1 32,cu 34 33,ad 35 29 34,m 8 35]
def zs:=[m 36 5,m 37 7,ia 38 1 36 37,uu 39 1 38,cu 40 39,m 9 40]
def W6:=[mv 6 (.c (.int .u64 (0)))]
def Co:=[m 41 9,m 42 8,ls 43 41 42]
def Cp:=[m 44 9,ad 45 44 (.c (.int .u64 (4294967296))),m 9 45]
def Cq:=[mv 6 (.c (.int .u64 (1)))]
def W7:=[m 46 5,m 47 7,m 48 9,m 49 8,sb 50 48 49,o 51 (.conv .u32 50),ia 52 1 46 47,so 1 52 51]
def r8:=[m 22 7,ad 23 22 k1,m 7 23]
def zt:=[m 53 5,ca 54 101 [53],m 4 54]
def l1:=(s (sd r7 [18,19,20] (i 21 .skip (x 0))) (s (b 1 (sd r9 [6,21,24] (s (sd Q9 [25,26,27] (i 28 (d RA (ra 28 8)) .skip)) (sd zs (rl [28] 36 5) (sp W6 (s (sd Co [41,42] (i 43 (sd Cp [6,43,44,45] (p Cq)) .skip)) (d W7 (rl [8,9,43] 46 7)))))))) (d r8 [22,23])))
def c:=(sd r0 [4] (s (sd r1 [10,11,12] (i 13 (sd r2 [0,1,13] .ret) .skip)) (sd r3 [13,14,15] (sd r4 [0,16,17] (sp r5 (s (sp r6 (b 0 (w l1))) (sd zt [1,5,6,7,21,53,54] .ret)))))))
end KN
def KN:AFn:=⟨2,KN.c,[.tmp 4],false⟩
def MO.l2:=(s (sd [m 22 8,m 23 1,ln 24 23,ls 25 22 24] [22,23,24] (i 25 .skip (x 2))) (s (b 3 (se [m 28 7,m 29 0,m 30 6,ia 31 1 29 30,uu 32 1 31,cu 33 32,m 34 1,m 35 8,ia 36 1 34 35,uu 37 1 36,cu 38 37,bi 39 .mul 33 38,m 40 5,m 41 6,m 42 8,ad 43 41 42,ia 44 1 40 43,uu 45 1 44,cu 46 45,ad 47 39 46,ad 48 28 47,m 7 48] (rl [25] 28 21) (sd [m 49 5,m 50 6,m 51 8,ad 52 50 51,m 53 7,o 54 (.conv .u32 53),ia 55 1 49 52,so 1 55 54] (ra 49 7) (d [m 56 7,bi 57 .shr 56 (.c (.int .u64 (32))),m 7 57] [56,57])))) (d [m 26 8,ad 27 26 k1,m 8 27] [26,27])))
def MO.l1:=(s (sd [m 16 6,m 17 0,ln 18 17,ls 19 16 18] [16,17,18] (i 19 .skip (x 0))) (s (b 1 (sd [mv 7 (.c (.int .u64 (0)))] [19] (s (sp [mv 8 k0] (b 2 (w MO.l2))) (d [m 58 5,m 59 6,m 60 1,ln 61 60,ad 62 59 61,m 63 7,o 64 (.conv .u32 63),ia 65 1 58 62,so 1 65 64] (rl [7,8,25] 58 8))))) (d [m 20 6,ad 21 20 k1,m 6 21] [20,21])))
def MO:AFn:=⟨2,(sd [mv 4 (.c .nil)] [4] (sd [m 9 0,ln 10 9,m 11 1,ln 12 11,ad 13 10 12,ad 14 13 k1,o 15 (.mk 15 1 4 [(.int .u32 (0))] 14 14),m 5 15] (ra 9 7) (s (sp [mv 6 k0] (b 0 (w MO.l1))) (sd [m 66 5,ca 67 101 [66],m 4 67] [0,1,5,6,19,66,67] .ret)))),[.tmp 4],false⟩
def PJ.l1:=(s (sd [m 20 4,bi 21 .gtr 20 (.c (.int .u32 (0)))] [20] (i 21 .skip (x 0))) (s (b 1 (d [m 24 3,ad 25 24 k1,m 3 25] [21,24,25])) (d [m 22 4,bi 23 .shr 22 (.c (.int .u64 (1))),m 4 23] [22,23])))
def PJ:AFn:=⟨1,(sd [mv 2 k0] [2] (sd [m 5 0,ca 6 101 [5],m 0 6] [5,6] (s (sd [m 7 0,ln 8 7,bi 9 .eql 8 k0] [7,8] (i 9 (sd [mv 2 k0] [0,9] .ret) .skip)) (sd [m 10 0,ln 11 10,sb 12 11 k1,bi 13 .mul (k 32) 12,m 3 13] (ra 9 5) (s (sd [m 14 0,m 15 0,ln 16 15,sb 17 16 k1,ia 18 1 14 17,uu 19 1 18,m 4 19] (rl [0] 14 6) (b 0 (w PJ.l1))) (sd [m 26 3,m 2 26] [3,4,21,26] .ret)))))),[.tmp 2],false⟩
def I9.l1:=(s (sd [m 31 6,m 32 0,ln 33 32,ls 34 31 33] [31,32,33] (i 34 .skip (x 0))) (s (b 1 (sd [m 37 0,m 38 6,ia 39 1 37 38,uu 40 1 39,cu 41 40,m 7 41] (rl [34] 37 5) (s (sd [m 42 6,ad 43 42 k1,m 44 0,ln 45 44,ls 46 43 45] (ra 42 4) (i 46 (d [m 47 7,m 48 0,m 49 6,ad 50 49 k1,ia 51 1 48 50,uu 52 1 51,cu 53 52,bi 54 .shl 53 (.c (.int .u64 (32))),bi 55 .or 47 54,m 7 55] (ra 46 10)) .skip)) (d [m 56 5,m 57 7,m 58 1,bi 59 .rem 58 (k 32),cu 60 59,bi 61 .shr 57 60,o 62 (.conv .u32 61),o 63 (.a7 107063 1 [62]),o 64 (.app 107064 1 4 56 63),m 5 64] (rl [7,46] 56 9))))) (d [m 35 6,ad 36 35 k1,m 6 36] [35,36])))
def I9.l2:=(s (sd [m 70 10,m 71 0,ln 72 71,ls 73 70 72] [70,71,72] (i 73 .skip (x 2))) (s (b 3 (sd [m 76 9,m 77 0,m 78 10,ia 79 1 77 78,uu 80 1 79,cu 81 80,m 82 1,bi 83 .rem 82 (k 32),cu 84 83,bi 85 .shl 81 84,bi 86 .or 76 85,m 9 86] (rl [73] 76 11) (sd [m 87 8,m 88 9,o 89 (.conv .u32 88),o 90 (.a7 107090 1 [89]),o 91 (.app 107091 1 4 87 90),m 8 91] (ra 87 5) (d [m 92 9,bi 93 .shr 92 (.c (.int .u64 (32))),m 9 93] [92,93])))) (d [m 74 10,ad 75 74 k1,m 10 75] [74,75])))
def I9:AFn:=⟨2,(sd [mv 4 (.c .nil)] [4] (sd [m 11 0,ca 12 101 [11],m 0 12] [11,12] (s (sd [m 13 1,bi 14 .gtr 13 (k 65536),m 15 14,g 16 15 false (.m5 0),g 17 15 false (.len 16),g 18 15 false (.bin .eql 17 k0),pk 19 15 kt 18] (ra 13 6) (i 19 (sd [mv 4 (.c .nil)] [0,1,19] .ret) .skip)) (s (sd [m 20 1,ls 21 20 k0] [19,20] (i 21 (s (sd [m 22 1,m 23 0,ln 24 23,bi 25 .mul (k (-32)) 24,ls 26 22 25] (ra 21 5) (i 26 (sd [mv 4 (.c .nil)] [0,1,26] .ret) .skip)) (sd [m 27 1,o 28 (.un .neg 27),m 1 28] [26,27,28] (sp [o 5 (.v5 107005 1)] (s (sd [m 29 1,bi 30 .quo 29 (k 32),m 6 30] [29,30] (b 0 (w I9.l1))) (sd [m 65 5,ca 66 101 [65],m 4 66] [0,1,5,6,34,65,66] .ret))))) .skip)) (sd [m 67 1,bi 68 .quo 67 (k 32),o 69 (.mk 107069 1 4 [(.int .u32 (0))] 68 68),m 8 69] [21,67,68,69] (sp [mv 9 (.c (.int .u64 (0)))] (s (sp [mv 10 k0] (b 2 (w I9.l2))) (sd [m 94 8,m 95 9,o 96 (.conv .u32 95),o 97 (.a7 107097 1 [96]),o 98 (.app 107098 1 4 94 97),o 99 (.c7 101 [98]),m 4 99] (rl [0,1,8,9,10,73] 94 6) .ret)))))))),[.tmp 4],false⟩
def PM.l1:=(s (sd [m 15 8,bi 16 .geq 15 k0] [15] (i 16 .skip (x 0))) (s (b 1 (sd [m 19 7,bi 20 .shl 19 (.c (.int .u64 (32))),m 21 0,m 22 8,ia 23 1 21 22,uu 24 1 23,cu 25 24,bi 26 .or 20 25,m 7 26] (rl [16] 19 8) (sd [m 27 6,m 28 8,m 29 7,m 30 1,cu 31 30,bi 32 .quo 29 31,o 33 (.conv .u32 32),ia 34 1 27 28,so 1 34 33] (ra 27 8) (d [m 35 7,m 36 1,cu 37 36,bi 38 .rem 35 37,m 7 38] (ra 35 4))))) (d [m 17 8,sb 18 17 k1,m 8 18] [17,18])))
def PM:AFn:=⟨2,(sd [mv 4 (.c .nil),mv 5 (.c (.int .u32 (0)))] [4,5] (sd [m 9 0,ln 10 9,o 11 (.mk 11 1 4 [(.int .u32 (0))] 10 10),m 6 11] [9,10,11] (sp [mv 7 (.c (.int .u64 (0)))] (s (sd [m 12 0,ln 13 12,sb 14 13 k1,m 8 14] [12,13,14] (b 0 (w PM.l1))) (sd [m 39 6,ca 40 101 [39],m 41 7,o 42 (.conv .u32 41),m 4 40,m 5 42] (rl [0,1,6,7,8,16] 39 4) .ret))))),[.tmp 4,.tmp 5],false⟩
namespace ED
def r0:=[mv 4 (.c .nil),mv 5 (.c .nil),mv 6 k0]
def r1:=[m 27 0,ca 28 101 [27],m 29 1,ca 30 101 [29],m 0 28,m 1 30]
def r2:=[m 31 1,ln 32 31,bi 33 .eql 32 k0]
def r3:=[mv 4 (.c .nil),mv 5 (.c .nil),mv 6 (k 3)]
def r4:=[m 34 1,ln 35 34,bi 36 .eql 35 k1]
def r5:=[m 38 0,m 39 1,ia 40 1 39 k0,uu 41 1 40,ca 42 108 [38,41],m 37 42,et 43 37 0,et 44 37 1,m 7 43,m 8 44]
def r6:=[m 45 7,m 46 8,o 47 (.a7 47 1 [46]),ca 48 101 [47],m 4 45,m 5 48,mv 6 k0]
def r7:=[m 49 0,m 50 1,ca 51 102 [49,50],ls 52 51 k0]
def r8:=[m 53 0,mv 4 (.c .nil),m 5 53,mv 6 k0]
def r9:=[m 54 1,m 55 1,ln 56 55,sb 57 56 k1,o 58 (.di 1 54 (some 57) none),ca 59 106 [58],sb 60 (k 32) 59,m 9 60]
def Q9:=[m 61 0,m 62 9,o 63 (.c7 107 [61,62]),m 64 1,m 65 9,ca 66 107 [64,65],m 10 63,m 11 66]
def RA:=[m 67 10,o 68 (.a7 68 1 [(.c (.int .u32 (0)))]),o 69 (.app 69 1 4 67 68),m 10 69]
def zs:=[m 70 10,ln 71 70,m 72 0,ln 73 72,ad 74 73 k1,ls 75 71 74]
def W6:=[m 76 10,o 77 (.a7 77 1 [(.c (.int .u32 (0)))]),o 78 (.app 78 1 4 76 77),m 10 78]
def Co:=[m 79 11,ln 80 79,m 12 80]
def Cp:=[m 81 10,ln 82 81,m 83 12,sb 84 82 83,o 85 (.mk 85 1 4 [(.int .u32 (0))] 84 84),m 13 85]
def Cq:=[m 86 10,ln 87 86,m 88 12,sb 89 87 88,sb 90 89 k1,m 14 90]
def W7:=[m 91 14,bi 92 .geq 91 k0]
def En:=[m 95 10,m 96 14,m 97 12,ad 98 96 97,ia 99 1 95 98,uu 100 1 99,cu 101 100,
 bi 102 .shl 101 (.c (.int .u64 (32))),m 103 10,m 104 14,m 105 12,ad 106 104 105,sb 107 106 k1,
 ia 108 1 103 107,uu 109 1 108,cu 110 109,bi 111 .or 102 110,m 15 111]
def Fv:=[m 112 15,m 113 11,m 114 12,sb 115 114 k1,ia 116 1 113 115,uu 117 1 116,cu 118 117,
 bi 119 .quo 112 118,m 16 119]
def Fw:=[m 120 15,m 121 11,m 122 12,sb 123 122 k1,ia 124 1 121 123,uu 125 1 124,cu 126 125,
 bi 127 .rem 120 126,m 17 127]
def Fx:=[m 128 16,bi 129 .geq 128 (.c (.int .u64 (4294967296))),m 130 129,g 131 130 false (.m5 16),g 132 130 false (.m5 11),g 133 130 false (.m5 12),
 g 134 130 false (.bin .sub 133 (k 2)),g 135 130 false (.u6 none 1 132 134),g 136 130 false (.ld false 1 135),g 137 130 false (.conv .u64 136),
 g 138 130 false (.bin .mul 131 137),g 139 130 false (.m5 17),g 140 130 false (.bin .shl 139 (.c (.int .u64 (32)))),g 141 130 false (.m5 10),
 g 142 130 false (.m5 14),g 143 130 false (.m5 12),g 144 130 false (.bin .add 142 143),g 145 130 false (.bin .sub 144 (k 2)),
 g 146 130 false (.u6 none 1 141 145),g 147 130 false (.ld false 1 146),g 148 130 false (.conv .u64 147),g 149 130 false (.bin .or 140 148),
 g 150 130 false (.bin .gtr 138 149),pk 151 130 kt 150]
def Fy:=[m 152 16,sb 153 152 (.c (.int .u64 (1))),m 16 153]
def bG:=[m 154 17,m 155 11,m 156 12,sb 157 156 k1,ia 158 1 155 157,uu 159 1 158,cu 160 159,
 ad 161 154 160,m 17 161]
def bH:=[m 162 17,bi 163 .geq 162 (.c (.int .u64 (4294967296)))]
def bI:=[mv 18 (.c (.int .u64 (0))),mv 19 (.c (.int .u64 (0)))]
def bJ:=[mv 20 k0]
def bK:=[m 164 20,m 165 12,ls 166 164 165]
def Eo:=[m 169 19,m 170 16,m 171 11,m 172 20,ia 173 1 171 172,uu 174 1 173,cu 175 174,bi 176 .mul 170 175,
 ad 177 169 176,m 19 177]
def Fz:=[m 178 19,bi 179 .and 178 (.c (.int .u64 (4294967295))),m 180 18,ad 181 179 180,m 21 181]
def r32:=[m 182 19,bi 183 .shr 182 (.c (.int .u64 (32))),m 19 183]
def r33:=[m 184 10,m 185 20,m 186 14,ad 187 185 186,ia 188 1 184 187,uu 189 1 188,cu 190 189,m 22 190]
def r34:=[mv 18 (.c (.int .u64 (0)))]
def r35:=[m 191 22,m 192 21,ls 193 191 192]
def r36:=[m 194 22,ad 195 194 (.c (.int .u64 (4294967296))),m 22 195]
def r37:=[mv 18 (.c (.int .u64 (1)))]
def r38:=[m 196 10,m 197 20,m 198 14,ad 199 197 198,m 200 22,m 201 21,sb 202 200 201,o 203 (.conv .u32 202),ia 204 1 196 199,
 so 1 204 203]
def bL:=[m 167 20,ad 168 167 k1,m 20 168]
def r39:=[m 205 19,m 206 18,ad 207 205 206,m 23 207]
def r40:=[m 208 10,m 209 14,m 210 12,ad 211 209 210,ia 212 1 208 211,uu 213 1 212,cu 214 213,m 24 214]
def r41:=[mv 18 (.c (.int .u64 (0)))]
def r42:=[m 215 24,m 216 23,ls 217 215 216]
def r43:=[m 218 24,ad 219 218 (.c (.int .u64 (4294967296))),m 24 219]
def r44:=[mv 18 (.c (.int .u64 (1)))]
def r45:=[m 220 10,m 221 14,m 222 12,ad 223 221 222,m 224 24,m 225 23,sb 226 224 225,o 227 (.conv .u32 226),ia 228 1 220 223,
 so 1 228 227]
def r46:=[m 229 18,bi 230 .eql 229 (.c (.int .u64 (1)))]
def r47:=[m 231 16,sb 232 231 (.c (.int .u64 (1))),m 16 232]
def r48:=[mv 25 (.c (.int .u64 (0)))]
def r49:=[mv 26 k0]
def r50:=[m 233 26,m 234 12,ls 235 233 234]
def r52:=[m 238 25,m 239 10,m 240 26,m 241 14,ad 242 240 241,ia 243 1 239 242,uu 244 1 243,cu 245 244,m 246 11,
 m 247 26,ia 248 1 246 247,uu 249 1 248,cu 250 249,ad 251 245 250,ad 252 238 251,m 25 252]
def r53:=[m 253 10,m 254 26,m 255 14,ad 256 254 255,m 257 25,o 258 (.conv .u32 257),ia 259 1 253 256,so 1 259 258]
def r54:=[m 260 25,bi 261 .shr 260 (.c (.int .u64 (32))),m 25 261]
def r51:=[m 236 26,ad 237 236 k1,m 26 237]
def r55:=[m 262 10,m 263 14,m 264 12,ad 265 263 264,ia 266 1 262 265,uu 267 1 266,m 268 25,o 269 (.conv .u32 268),
 ad 270 267 269,ia 271 1 262 265,so 1 271 270]
def r56:=[m 272 13,m 273 14,m 274 16,o 275 (.conv .u32 274),ia 276 1 272 273,so 1 276 275]
def zt:=[m 93 14,sb 94 93 k1,m 14 94]
def Rv:=[m 277 13,ca 278 101 [277],m 279 10,m 280 12,o 281 (.di 1 279 none (some 280)),m 282 9,o 283 (.un .neg 282),ca 284 107 [281,283],m 4 278,
 m 5 284,mv 6 k0]
def l1:=(s (sd zs (ra 70 5) (i 75 .skip (x 0))) (b 1 (d W6 (ra 75 4))))
def l3:=(s (se Fx [128,129,130,131,132,133,134,135,136,137,138,139,140,141,142,143,144,145,146,147,148,149,150,163] (i 151 .skip (x 4))) (b 5 (sd Fy [151,152,153] (sd bG (ra 154 8) (sd bH [162] (i 163 (x 4) .skip))))))
def l4:=(s (sd bK [164,165] (i 166 .skip (x 6))) (s (b 7 (sd Eo (rl [166] 169 9) (sd Fz (rl [18] 178 4) (sd r32 [182,183] (sd r33 (ra 184 7) (sp r34 (s (sd r35 [191,192] (i 193 (sd r36 [18,193,194,195] (p r37)) .skip)) (d r38 (rl [21,22,193] 196 9))))))))) (d bL [167,168])))
def l5:=(s (sd r50 [233,234] (i 235 .skip (x 8))) (s (b 9 (se r52 (rl [235] 238 15) (sd r53 (ra 253 7) (d r54 [260,261])))) (d r51 [236,237])))
def l2:=(s (sd W7 [91] (i 92 .skip (x 2))) (s (b 3 (se En (rl [92] 95 17) (sd Fv (ra 112 8) (sd Fw (rl [15] 120 8) (s (b 4 (w l3)) (sd bI [17,151,163] (s (sp bJ (b 6 (w l4))) (sd r39 [18,19,20,166,205,206,207] (sd r40 (ra 208 7) (sp r41 (s (sd r42 [215,216] (i 217 (sd r43 [18,217,218,219] (p r44)) .skip)) (sd r45 (rl [23,24,217] 220 9) (s (sd r46 [18,229] (i 230 (sd r47 [230,231,232] (sp r48 (s (sp r49 (b 8 (w l5))) (d r55 (rl [25,26,235] 262 10))))) .skip)) (d r56 (rl [16,230] 272 5))))))))))))))) (d zt [93,94])))
def c:=(sd r0 [4,5,6] (sd r1 (ra 27 4) (s (sd r2 [31,32] (i 33 (sd r3 [0,1,33] .ret) .skip)) (s (sd r4 [33,34,35] (i 36 (sd r5 (rl [0,1] 36 9) (sd r6 (rl [7,8] 45 4) .ret)) .skip)) (s (sd r7 [36,49,50,51] (i 52 (sd r8 [0,1,52,53] .ret) .skip)) (sd r9 (rl [52] 54 7) (sd Q9 (rl [1] 61 6) (sd RA [67,68,69] (s (b 0 (w l1)) (sd Co [0,75,79,80] (sd Cp (ra 81 5) (s (sd Cq (ra 86 5) (b 2 (w l2))) (se Rv (rl [9,10,11,12,13,14,92] 277 8) .ret)))))))))))))
end ED
def ED:AFn:=⟨2,ED.c,[.tmp 4,.tmp 5,.tmp 6],false⟩
def PL.l1:=(s (sd [m 12 1,ln 13 12,bi 14 .gtr 13 k0] [12,13] (i 14 .skip (x 0))) (b 1 (sd [m 16 0,m 17 1,ca 18 109 [16,17],m 15 18,et 19 15 0,et 20 15 1,et 21 15 2,m 5 19,m 6 20,m 7 21] (rl [0,5,7] 14 8) (d [m 22 1,m 23 6,m 0 22,m 1 23] [6,22,23]))))
def PL:AFn:=⟨2,(sd [mv 4 (.c .nil)] [4] (sd [m 8 0,ca 9 101 [8],m 10 1,ca 11 101 [10],m 0 9,m 1 11] (ra 8 4) (s (b 0 (w PL.l1)) (sd [m 24 0,m 4 24] [0,1,14,24] .ret)))),[.tmp 4],false⟩
def UO:AFn:=⟨1,(sd [bx 1 0,al 2 [(.bool false),.nil]] [0] (sd [fa 4 1 1,uu 5 1 4,ca 6 101 [5],m 3 6] [4,5,6] (sd [fa 7 1 0,uu 8 1 7,m 9 8,g 10 9 true (.m5 3),g 11 9 true (.len 10),g 12 9 true (.bin .gtr 11 k0),pk 13 9 12 kf,m 14 3,o 15 (.build [(.bool false),.nil] [(0,1,13),(1,1,14)]),so 2 2 15] (rl [1,3] 7 9) .ret))),[.cell 2 true 2],false⟩
def UK:AFn:=⟨1,(sp [al 2 [(.bool false),.nil]] (s (sd [m 4 0,ls 5 4 k0] [4] (i 5 (sd [m 6 0,ad 7 6 k1,o 8 (.un .neg 7),cu 9 8,ad 10 9 (.c (.int .u64 (1))),m 3 10] (rl [0] 5 6) (sd [m 11 3,o 12 (.conv .u32 11),m 13 3,bi 14 .shr 13 (.c (.int .u64 (32))),o 15 (.conv .u32 14),o 16 (.a7 16 1 [12,15]),o 17 (.build [(.bool false),.nil] [(0,1,kt),(1,1,16)]),ca 18 111 [17],so 2 2 18] (rl [3] 11 8) .ret)) .skip)) (sd [m 19 0,o 20 (.conv .u32 19),m 21 0,cu 22 21,bi 23 .shr 22 (.c (.int .u64 (32))),o 24 (.conv .u32 23),o 25 (.a7 25 1 [20,24]),o 26 (.build [(.bool false),.nil] [(1,1,25)]),ca 27 111 [26],so 2 2 27] (rl [0,5] 19 9) .ret))),[.cell 2 true 2],false⟩
def UM:AFn:=⟨1,(sd [bx 1 0,mv 2 k0] [0,2] (sd [tt 3 2 1,ca 4 111 [3],so 2 1 4] [3,4] (s (b 0 (sd [fa 6 1 1,uu 7 1 6,ln 8 7,bi 9 .eql 8 k0,m 5 9] (ra 6 4) (i 5 (sd [mv 2 k0] [1,5] .ret) (sd [fa 11 1 0,uu 12 1 11,m 10 12] [1,5,11,12] (i 10 (sd [mv 2 (k (-1))] [10] .ret) .skip))))) (sd [mv 2 k1] [10] .ret)))),[.tmp 2],false⟩
def UJ:AFn:=⟨1,(sd [bx 1 0,al 2 [(.bool false),.nil]] [0] (sd [tt 3 2 1,ca 4 111 [3],so 2 1 4] [3,4] (sd [fa 5 1 0,uu 6 1 5,nt 7 6,m 8 7,g 9 8 true (.j4 1 1),g 10 8 true (.ld false 1 9),g 11 8 true (.len 10),g 12 8 true (.bin .gtr 11 k0),pk 13 8 12 kf,fa 14 1 0,so 1 14 13] (ra 5 10) (sd [tt 15 2 1,so 2 2 15] [1,15] .ret)))),[.cell 2 true 2],false⟩
def UE:AFn:=⟨2,(sd [bx 2 0,bx 3 1,al 4 [(.bool false),.nil]] [0,1] (se [tt 5 2 2,ca 6 111 [5],tt 7 2 3,ca 8 111 [7],so 2 2 6,so 2 3 8] (ra 5 4) (s (sd [fa 9 2 0,uu 10 1 9,fa 11 3 0,uu 12 1 11,o 13 (.beq false 10 12)] (ra 9 4) (i 13 (se [fa 14 2 0,uu 15 1 14,fa 16 2 1,uu 17 1 16,fa 18 3 1,uu 19 1 18,ca 20 103 [17,19],o 21 (.build [(.bool false),.nil] [(0,1,15),(1,1,20)]),ca 22 111 [21],so 2 4 22] (rl [2,3] 13 10) .ret) .skip)) (s (sd [fa 23 2 1,uu 24 1 23,fa 25 3 1,uu 26 1 25,ca 27 102 [24,26],bi 28 .geq 27 k0] (rl [13] 23 5) (i 28 (se [fa 29 2 0,uu 30 1 29,fa 31 2 1,uu 32 1 31,fa 33 3 1,uu 34 1 33,ca 35 104 [32,34],o 36 (.build [(.bool false),.nil] [(0,1,30),(1,1,35)]),ca 37 111 [36],so 2 4 37] (rl [2,3] 28 10) .ret) .skip)) (se [fa 38 3 0,uu 39 1 38,fa 40 3 1,uu 41 1 40,fa 42 2 1,uu 43 1 42,ca 44 104 [41,43],o 45 (.build [(.bool false),.nil] [(0,1,39),(1,1,44)]),ca 46 111 [45],so 2 4 46] (rl [2,3,28] 38 9) .ret))))),[.cell 4 true 2],false⟩
def UN:AFn:=⟨2,(sd [bx 2 0,bx 3 1,al 4 [(.bool false),.nil]] [0,1] (se [tt 5 2 2,tt 6 2 3,ca 7 114 [6],ca 8 115 [5,7],so 2 4 8] [2,3,5,6,7,8] .ret)),[.cell 4 true 2],false⟩
def UF:AFn:=⟨2,(sd [bx 2 0,bx 3 1,mv 4 k0] [0,1,4] (sd [tt 5 2 2,tt 6 2 3,ca 7 116 [5,6],ca 8 113 [7],m 4 8] [2,3,5,6,7,8] .ret)),[.tmp 4],false⟩
def UI:AFn:=⟨2,(sd [bx 2 0,bx 3 1,al 4 [(.bool false),.nil]] [0,1] (se [fa 5 2 0,uu 6 1 5,fa 7 3 0,uu 8 1 7,o 9 (.beq true 6 8),fa 10 2 1,uu 11 1 10,fa 12 3 1,uu 13 1 12,ca 14 105 [11,13],o 15 (.build [(.bool false),.nil] [(0,1,9),(1,1,14)]),ca 16 111 [15],so 2 4 16] (rl [2,3] 5 12) .ret)),[.cell 4 true 2],false⟩
def UG:AFn:=⟨2,(sd [bx 2 0,bx 3 1,al 4 [(.bool false),.nil],al 5 [(.bool false),.nil],mv 6 k0] [0,1,6] (se [tt 10 2 2,ca 11 111 [10],tt 12 2 3,ca 13 111 [12],so 2 2 11,so 2 3 13] (ra 10 4) (sd [fa 15 2 1,uu 16 1 15,fa 17 3 1,uu 18 1 17,ca 19 109 [16,18],m 14 19,et 20 14 0,et 21 14 1,et 22 14 2,m 7 20,m 8 21,m 9 22] (ra 14 9) (s (sd [m 23 9,bi 24 .neq 23 k0] [23] (i 24 (sd [o 25 (.build [(.bool false),.nil] []),o 26 (.build [(.bool false),.nil] []),m 27 9,so 2 4 25,so 2 5 26,m 6 27] (rl [2,3,7,8,9] 24 4) .ret) .skip)) (s (sd [fa 28 2 0,uu 29 1 28,m 30 29,g 31 30 true (.m5 8),g 32 30 true (.len 31),g 33 30 true (.bin .gtr 32 k0),pk 34 30 33 kf] (rl [9,24] 28 6) (i 34 (e [m 35 7,o 36 (.a7 36 1 [(.c (.int .u32 (1)))]),ca 37 103 [35,36],fa 38 3 1,q 39 [36] (.ld false 1 38),m 40 8,ca 41 104 [39,40],m 7 37,m 8 41] (ra 34 8)) .skip)) (sd [fa 42 2 0,uu 43 1 42,fa 44 3 0,uu 45 1 44,o 46 (.beq true 43 45),m 47 7,o 48 (.build [(.bool false),.nil] [(0,1,46),(1,1,47)]),ca 49 111 [48],m 50 8,o 51 (.build [(.bool false),.nil] [(1,1,50)]),so 2 4 49,so 2 5 51,mv 6 k0] (rl [2,3,7,8,34] 42 10) .ret)))))),[.cell 4 true 2,.cell 5 true 2,.tmp 6],false⟩
def UH:AFn:=⟨2,(sd [bx 2 0,bx 3 1,al 4 [(.bool false),.nil]] [0,1] (sd [fa 5 2 1,uu 6 1 5,fa 7 3 1,uu 8 1 7,ca 9 110 [6,8],o 10 (.build [(.bool false),.nil] [(1,1,9)]),so 2 4 10] (rl [2,3] 5 6) .ret)),[.cell 4 true 2],false⟩
def MP:AFn:=⟨2,(sd [bx 2 0,bx 3 1,al 4 z3] [0,1] (s (sd [tt 12 2 2,ca 13 113 [12],bi 14 .eql 13 k0,m 15 14,g 16 15 false (.ld true 2 3),g 17 15 false (.call 113 [16]),g 18 15 false (.bin .eql 17 k0),pk 19 15 kt 18] (ra 12 7) (i 19 (sd [o 20 (.a7 20 1 [(.c (.int .u32 (1)))]),o 21 (.build z3 [(2,1,20)]),so 3 4 21] [2,3,19,20,21] .ret) .skip)) (sd [tt 22 2 2,tt 23 2 3,ca 24 120 [22,23],al 5 [(.bool false),.nil],so 2 5 24] [19,22,23,24] (sd [tt 26 2 2,tt 27 2 5,ca 28 119 [26,27],m 25 28,et 29 25 0,et 30 25 1,et 31 25 2,al 6 [(.bool false),.nil],al 7 [(.bool false),.nil],so 2 6 29,so 2 7 30,m 8 31] (rl [2,7,8] 25 7) (sd [tt 33 2 3,tt 34 2 5,ca 35 119 [33,34],m 32 35,et 36 32 0,et 37 32 1,et 38 32 2,al 9 [(.bool false),.nil],al 10 [(.bool false),.nil],so 2 9 36,so 2 10 37,m 11 38] (rl [3,5,10,11] 32 7) (s (sd [fa 39 9 0,uu 40 1 39] [39] (i 40 (d [tt 41 2 6,ca 42 114 [41],so 2 6 42] [40,41,42]) .skip)) (sd [tt 43 2 6,fa 44 9 1,uu 45 1 44,o 46 (.build z3 [(0,2,43),(2,1,45)]),so 3 4 46] (rl [6,9,40] 43 4) .ret))))))),[.cell 4 true 3],false⟩
def PP:AFn:=⟨1,(sd [bx 1 0,al 2 [(.bool false),.nil],al 3 [(.bool false),.nil]] [0] (sd [fa 5 1 2,uu 6 1 5,ca 7 101 [6],o 8 (.build [(.bool false),.nil] [(1,1,7)]),al 4 [(.bool false),.nil],so 2 4 8] (ra 5 4) (s (sd [fa 9 4 1,uu 10 1 9,ln 11 10,bi 12 .eql 11 k0] [9,10,11] (i 12 (sd [o 13 (.build [(.bool false),.nil] []),o 14 (.a7 14 1 [(.c (.int .u32 (1)))]),o 15 (.build [(.bool false),.nil] [(1,1,14)]),so 2 2 13,so 2 3 15] (rl [1,4] 12 4) .ret) .skip)) (se [fa 16 1 0,tt 17 2 16,q 18 [2] (.ld true 2 4),n (.pe 2 2 2 17),so 2 3 18] [1,4,12,16,17,18] .ret)))),[.cell 2 true 2,.cell 3 true 2],false⟩
def UY:AFn:=⟨1,(sd [bx 1 0,al 2 z3] [0] (sd [tt 6 3 1,o 7 (.j6 122 [6]),m 5 7,et 8 5 0,et 9 5 1,al 3 [(.bool false),.nil],al 4 [(.bool false),.nil],so 2 3 8,so 2 4 9] (rl [1] 5 5) (sd [tt 10 2 3,tt 11 2 4,ca 12 121 [10,11],so 3 2 12] [3,4,10,11,12] .ret))),[.cell 2 true 3],false⟩
def UW:AFn:=⟨1,(sp [al 2 z3] (sd [m 3 0,ca 4 112 [3],o 5 (.a7 5 1 [(.c (.int .u32 (1)))]),o 6 (.build z3 [(0,2,4),(2,1,5)]),so 3 2 6] [0,3,4,5,6] .ret)),[.cell 2 true 3],false⟩
def UT:AFn:=⟨2,(sp [al 4 z3] (sd [m 5 0,ca 6 112 [5],m 7 1,ca 8 112 [7],ca 9 121 [6,8],so 3 4 9] (rl [0,1] 5 5) .ret)),[.cell 4 true 3],false⟩
def UQ:AFn:=⟨2,(sd [bx 2 0,bx 3 1,al 4 z3] [0,1] (sd [tt 10 3 2,o 11 (.j6 122 [10]),m 9 11,et 12 9 0,et 13 9 1,al 5 [(.bool false),.nil],al 6 [(.bool false),.nil],so 2 5 12,so 2 6 13] (rl [2] 9 5) (sd [tt 15 3 3,o 16 (.j6 122 [15]),m 14 16,et 17 14 0,et 18 14 1,al 7 [(.bool false),.nil],al 8 [(.bool false),.nil],so 2 7 17,so 2 8 18] (rl [3] 14 5) (se [tt 19 2 5,tt 20 2 8,ca 21 118 [19,20],tt 22 2 7,tt 23 2 6,ca 24 118 [22,23],ca 25 115 [21,24],tt 26 2 6,tt 27 2 8,ca 28 118 [26,27],ca 29 121 [25,28],so 3 4 29] (rl [5,6,7,8] 19 11) .ret)))),[.cell 4 true 3],false⟩
def UR:AFn:=⟨2,(sd [bx 2 0,bx 3 1,mv 4 k0] [0,1,4] (sd [tt 10 3 2,o 11 (.j6 122 [10]),m 9 11,et 12 9 0,et 13 9 1,al 5 [(.bool false),.nil],al 6 [(.bool false),.nil],so 2 5 12,so 2 6 13] (rl [2] 9 5) (sd [tt 15 3 3,o 16 (.j6 122 [15]),m 14 16,et 17 14 0,et 18 14 1,al 7 [(.bool false),.nil],al 8 [(.bool false),.nil],so 2 7 17,so 2 8 18] (rl [3] 14 5) (se [tt 19 2 5,tt 20 2 8,ca 21 118 [19,20],tt 22 2 7,tt 23 2 6,ca 24 118 [22,23],ca 25 117 [21,24],m 4 25] (rl [5,6,7,8] 19 7) .ret)))),[.tmp 4],false⟩
def UU:AFn:=⟨2,(sd [bx 2 0,bx 3 1,al 4 z3] [0,1] (sd [tt 10 3 2,o 11 (.j6 122 [10]),m 9 11,et 12 9 0,et 13 9 1,al 5 [(.bool false),.nil],al 6 [(.bool false),.nil],so 2 5 12,so 2 6 13] (rl [2] 9 5) (sd [tt 15 3 3,o 16 (.j6 122 [15]),m 14 16,et 17 14 0,et 18 14 1,al 7 [(.bool false),.nil],al 8 [(.bool false),.nil],so 2 7 17,so 2 8 18] (rl [3] 14 5) (se [tt 19 2 5,tt 20 2 7,ca 21 118 [19,20],tt 22 2 6,tt 23 2 8,ca 24 118 [22,23],ca 25 121 [21,24],so 3 4 25] (rl [5,6,7,8] 19 7) .ret)))),[.cell 4 true 3],false⟩
structure a6 (L:Lib):Prop where
 JA:L 101=some F.JA
 PK:L 102=some F.PK
 PI:L 103=some F.PI
 KN:L 104=some F.KN
 MO:L 105=some F.MO
 PJ:L 106=some F.PJ
 I9:L 107=some F.I9
 PM:L 108=some F.PM
 ED:L 109=some F.ED
 PL:L 110=some F.PL
 UO:L 111=some F.UO
 UK:L 112=some F.UK
 UM:L 113=some F.UM
 UJ:L 114=some F.UJ
 UE:L 115=some F.UE
 UN:L 116=some F.UN
 UF:L 117=some F.UF
 UI:L 118=some F.UI
 UG:L 119=some F.UG
 UH:L 120=some F.UH
 MP:L 121=some F.MP
 PP:L 122=some F.PP
 UY:L 123=some F.UY
 UW:L 124=some F.UW
 UT:L 125=some F.UT
 UQ:L 126=some F.UQ
 UR:L 127=some F.UR
 UU:L 128=some F.UU
end Go.c6.F

namespace Go.c6.F
open C
def O2.l1:=(sp [ls 29 28 27] (s (i 29 .skip (x 0)) (s (b 1 (sd [ia 30 1 26 28,uu 31 1 30,m 5 31] [29,30,31] (sd [m 32 5,ln 33 32,m 34 3,bi 35 .neq 33 34] [5,32,33,34] (i 35 (sd [mv 2 kf] [3,26,27,28,35] .ret) .skip)))) (d [ad 36 28 k1,m 28 36] [35,36]))))
def O2:AFn:=⟨1,(sd [bx 1 0,mv 2 kf] [0,2] (sd [fa 6 1 0,uu 7 1 6,ln 8 7,m 3 8] [6,7,8] (s (sd [m 9 3,bi 10 .gtr 9 (k 64),m 11 10,g 12 11 false (.j4 1 1),g 13 11 false (.ld false 1 12),g 14 11 false (.len 13),g 15 11 false (.m5 3),g 16 11 false (.bin .neq 14 15),pk 17 11 kt 16,m 18 17,g 19 18 false (.j4 1 2),g 20 18 false (.ld false 1 19),g 21 18 false (.len 20),g 22 18 false (.m5 3),g 23 18 false (.bin .neq 21 22),pk 24 18 kt 23] (ra 9 15) (i 24 (sd [mv 2 kf] [1,3,24] .ret) .skip)) (s (sd [fa 25 1 0,uu 26 1 25,ln 27 26,mv 28 k0] [1,24,25] (b 0 (w O2.l1))) (sd [mv 2 kt] (rl [3] 26 4) .ret))))),[.tmp 2],false⟩
def O3.l1:=(sp [ls 10 9 8] (s (i 10 .skip (x 0)) (s (b 1 (sd [m 11 9,m 4 11] [10,11] (d [m 12 3,m 13 4,ca 14 96 [k0],ia 15 3 12 13,so 3 15 14] (rl [4] 12 4)))) (d [ad 16 9 k1,m 9 16] [16]))))
def O3:AFn:=⟨1,(sd [mv 2 (.c .nil)] [2] (sd [m 5 0,o 6 (.mk 131006 3 56 z3 5 5),m 3 6] [0,5,6] (s (sd [m 7 3,ln 8 7,mv 9 k0] [7] (b 0 (w O3.l1))) (sd [m 17 3,m 2 17] [3,8,9,10,17] .ret)))),[.tmp 2],false⟩
def PV.l1:=(s (sd [m 7 6,m 8 0,ls 9 7 8] [7,8] (i 9 .skip (x 0))) (s (b 1 (sd [m 12 6,m 13 1,bi 14 .eql 12 13] [9,12,13] (i 14 (d [m 15 5,ca 16 124 [k1],o 17 (.a7 17 3 [16]),o 18 (.app 18 3 56 15 17),m 5 18] (ra 14 5)) (d [m 19 5,ca 20 124 [k0],o 21 (.a7 21 3 [20]),o 22 (.app 22 3 56 19 21),m 5 22] (rl [14] 19 4))))) (d [m 10 6,ad 11 10 k1,m 6 11] [10,11])))
def PV:AFn:=⟨2,(sd [mv 4 (.c .nil)] [4] (sp [o 5 (.v5 5 3)] (s (sp [mv 6 k0] (b 0 (w PV.l1))) (sd [m 23 5,m 4 23] [0,1,5,6,9,23] .ret)))),[.tmp 4],false⟩
def PS.l1:=(s (sd [m 24 4,m 25 3,ls 26 24 25] [24,25] (i 26 .skip (x 0))) (s (b 1 (sd [fa 29 1 0,uu 30 1 29,m 31 4,ia 32 1 30 31,uu 33 1 32,ln 34 33,m 35 3,bi 36 .neq 34 35] (rl [26] 29 7) (i 36 (sd [mv 2 kf] [1,3,4,36] .ret) .skip))) (d [m 27 4,ad 28 27 k1,m 4 28] [27,28,36])))
def PS:AFn:=⟨1,(sd [bx 1 0,mv 2 kf] [0,2] (sd [fa 5 1 0,uu 6 1 5,ln 7 6,m 3 7] [5,6,7] (s (sd [m 8 3,bi 9 .gtr 8 (k 64),m 10 9,g 11 10 false (.j4 1 1),g 12 10 false (.ld false 1 11),g 13 10 false (.len 12),g 14 10 false (.m5 3),g 15 10 false (.bin .neq 13 14),pk 16 10 kt 15,m 17 16,g 18 17 false (.j4 1 2),g 19 17 false (.ld false 1 18),g 20 17 false (.len 19),g 21 17 false (.m5 3),g 22 17 false (.bin .neq 20 21),pk 23 17 kt 22] (ra 8 15) (i 23 (sd [mv 2 kf] [1,3,23] .ret) .skip)) (s (sd [mv 4 k0] [23] (b 0 (w PS.l1))) (sd [mv 2 kt] [1,3,4,26] .ret))))),[.tmp 2],false⟩
def PR.l1:=(s (sd [m 8 6,m 9 0,ln 10 9,ls 11 8 10] [8,9,10] (i 11 .skip (x 0))) (s (b 1 (e [tt 14 3 5,m 15 0,m 16 6,ia 17 3 15 16,tt 18 3 17,m 19 1,m 20 6,ia 21 3 19 20,tt 22 3 21,ca 23 128 [18,22],ca 24 126 [14,23],so 3 5 24] (rl [11] 14 11))) (d [m 12 6,ad 13 12 k1,m 6 13] [12,13])))
def PR:AFn:=⟨2,(sp [al 4 z3] (sd [ca 7 124 [k0],al 5 z3,so 3 5 7] [7] (s (sp [mv 6 k0] (b 0 (w PR.l1))) (sd [tt 25 3 5,so 3 4 25] [0,1,5,6,11,25] .ret)))),[.cell 4 true 3],false⟩
def PT.l1:=(s (sd [m 7 6,m 8 0,ln 9 8,ls 10 7 9] [7,8,9] (i 10 .skip (x 0))) (s (b 1 (d [m 13 5,m 14 0,m 15 6,ia 16 1 14 15,uu 17 1 16,m 18 1,ca 19 137 [17,18],o 20 (.a7 138020 3 [19]),o 21 (.app 138021 3 56 13 20),m 5 21] (rl [10] 13 9))) (d [m 11 6,ad 12 11 k1,m 6 12] [11,12])))
def PT:AFn:=⟨2,(sd [mv 4 (.c .nil)] [4] (sp [o 5 (.v5 138005 3)] (s (sp [mv 6 k0] (b 0 (w PT.l1))) (sd [m 22 5,m 4 22] [0,1,5,6,10,22] .ret)))),[.tmp 4],false⟩
structure o4 (L:Lib):Prop extends a5 L,a6 L where
 O2:L 130=some F.O2
 O3:L 131=some F.O3
 PV:L 135=some F.PV
 PS:L 136=some F.PS
 PR:L 137=some F.PR
 PT:L 138=some F.PT
def SX:AFn:=⟨1,(sd [mv 2 kf] [2] (sd [m 3 0,bi 4 .geq 3 k1,m 5 4,g 6 5 true (.m5 0),g 7 5 true (.bin .leq 6 (k 3)),pk 8 5 7 kf,m 2 8] (rl [0] 3 6) .ret)),[.tmp 2],false⟩
def SW:AFn:=⟨1,(sd [bx 1 0,mv 2 kf] [0,2] (s (sd [fa 3 1 0,uu 4 1 3,ls 5 4 (k 4),m 6 5,g 7 6 false (.j4 1 0),g 8 6 false (.ld false 1 7),g 9 6 false (.bin .gtr 8 (k 24)),pk 10 6 kt 9,m 11 10,g 12 11 false (.j4 1 1),g 13 11 false (.ld false 1 12),g 14 11 false (.bin .lss 13 k0),pk 15 11 kt 14,m 16 15,g 17 16 false (.j4 1 1),g 18 16 false (.ld false 1 17),g 19 16 false (.j4 1 0),g 20 16 false (.ld false 1 19),g 21 16 false (.bin .geq 18 20),pk 22 16 kt 21] (ra 3 19) (i 22 (sd [mv 2 kf] [1,22] .ret) .skip)) (sd [fa 23 1 2,uu 24 1 23,ca 25 1 [24],m 26 25,g 27 26 true (.j4 1 3),g 28 26 true (.ld false 1 27),g 29 26 true (.bin .eql 28 k1),g 30 26 true (.m5 29),g 31 30 false (.j4 1 3),g 32 30 false (.ld false 1 31),g 33 30 false (.bin .eql 32 (k 2)),g 34 26 true (.pick 30 kt 33),pk 35 26 34 kf,m 2 35] (rl [1] 22 14) .ret))),[.tmp 2],false⟩
def SV:AFn:=⟨1,(sd [bx 1 0,mv 2 k0] [0,2] (s (sd [tt 3 4 1,ca 4 2 [3],nt 5 4] [3,4] (i 5 (sd [mv 2 k0] [1,5] .ret) .skip)) (sd [fa 6 1 0,uu 7 1 6,sb 8 7 k1,bi 9 .shl k1 8,o 10 (.un .neg 9),m 2 10] (rl [1] 5 6) .ret))),[.tmp 2],false⟩
def SU:AFn:=⟨1,(sd [bx 1 0,mv 2 k0] [0,2] (s (sd [tt 3 4 1,ca 4 2 [3],nt 5 4] [3,4] (i 5 (sd [mv 2 k0] [1,5] .ret) .skip)) (sd [fa 6 1 0,uu 7 1 6,sb 8 7 k1,bi 9 .shl k1 8,sb 10 9 k1,m 2 10] (rl [1] 5 6) .ret))),[.tmp 2],false⟩
def ST:AFn:=⟨2,(sd [bx 2 0,mv 4 kf] [0,4] (sd [tt 5 4 2,ca 6 2 [5],m 7 6,g 8 7 true (.m5 1),g 9 7 true (.ld true 4 2),g 10 7 true (.call 3 [9]),g 11 7 true (.bin .geq 8 10),pk 12 7 11 kf,m 13 12,g 14 13 true (.m5 1),g 15 13 true (.ld true 4 2),g 16 13 true (.call 4 [15]),g 17 13 true (.bin .leq 14 16),pk 18 13 17 kf,m 4 18] (rl [1,2] 5 14) .ret)),[.tmp 4],false⟩
def U1:AFn:=⟨3,(sd [mv 6 kf] [6] (sd [m 7 0,m 8 1,bi 9 .geq 7 8,m 10 9,g 11 10 true (.m5 0),g 12 10 true (.m5 2),g 13 10 true (.bin .leq 11 12),pk 14 10 13 kf,m 6 14] (rl [0,1,2] 7 8) .ret)),[.tmp 6],false⟩
def U3:AFn:=⟨1,(sd [bx 1 0,mv 2 kf] [0,2] (sd [fa 3 1 0,uu 4 1 3,ca 5 10 [4,(k 4),(k 24)],m 6 5,g 7 6 true (.j4 1 1),g 8 6 true (.ld false 1 7),g 9 6 true (.j4 1 0),g 10 6 true (.ld false 1 9),g 11 6 true (.bin .sub 10 k1),g 12 6 true (.call 10 [8,k0,11]),pk 13 6 12 kf,m 14 13,g 15 14 true (.j4 1 2),g 16 14 true (.ld false 1 15),g 17 14 true (.call 10 [16,k1,(k 3)]),pk 18 14 17 kf,m 19 18,g 20 19 true (.j4 1 3),g 21 19 true (.ld false 1 20),g 22 19 true (.call 10 [21,k1,(k 2)]),pk 23 19 22 kf,m 2 23] (rl [1] 3 21) .ret)),[.tmp 2],false⟩
def U2:AFn:=⟨1,(sd [bx 1 0,mv 2 k0] [0,2] (s (sd [tt 3 4 1,ca 4 11 [3],nt 5 4] [3,4] (i 5 (sd [mv 2 k0] [1,5] .ret) .skip)) (sd [fa 6 1 0,uu 7 1 6,sb 8 7 k1,cu 9 8,bi 10 .shl k1 9,o 11 (.un .neg 10),m 2 11] (rl [1] 5 7) .ret))),[.tmp 2],false⟩
def U0:AFn:=⟨1,(sd [bx 1 0,mv 2 k0] [0,2] (s (sd [tt 3 4 1,ca 4 11 [3],nt 5 4] [3,4] (i 5 (sd [mv 2 k0] [1,5] .ret) .skip)) (sd [fa 6 1 0,uu 7 1 6,sb 8 7 k1,cu 9 8,bi 10 .shl k1 9,sb 11 10 k1,m 2 11] (rl [1] 5 7) .ret))),[.tmp 2],false⟩
def UZ:AFn:=⟨2,(sd [bx 2 0,mv 4 kf] [0,4] (se [tt 5 4 2,ca 6 11 [5],m 7 6,g 8 7 true (.m5 1),g 9 7 true (.ld true 4 2),g 10 7 true (.call 12 [9]),g 11 7 true (.ld true 4 2),g 12 7 true (.call 13 [11]),g 13 7 true (.call 10 [8,10,12]),pk 14 7 13 kf,m 4 14] (rl [1,2] 5 10) .ret)),[.tmp 4],false⟩
structure e8 (L:Lib):Prop where
 SX:L 1=some F.SX
 SW:L 2=some F.SW
 SV:L 3=some F.SV
 SU:L 4=some F.SU
 ST:L 5=some F.ST
 U1:L 10=some F.U1
 U3:L 11=some F.U3
 U2:L 12=some F.U2
 U0:L 13=some F.U0
 UZ:L 14=some F.UZ
def KH.l2:=(sp [ls 58 57 56] (s (i 58 .skip (x 2)) (s (b 3 (sd [ia 59 2 55 57,tt 60 2 59,al 6 [z,z],so 2 6 60] [58,59,60] (s (sd [fa 61 6 0,uu 62 1 61,ls 63 62 k0,m 64 63,g 65 64 false (.j4 6 0),g 66 64 false (.ld false 1 65),g 67 64 false (.j4 1 8),g 68 64 false (.ld false 1 67),g 69 64 false (.m5 3),g 70 64 false (.bin .add 68 69),g 71 64 false (.bin .gtr 66 70),pk 72 64 kt 71] (ra 61 11) (i 72 (sd [mv 2 kf] [1,3,6,43,44,45,55,56,57,72] .ret) .skip)) (se [fa 73 6 1,uu 74 1 73,fa 75 1 4,fa 76 75 1,uu 77 1 76,bi 78 .shl k1 77,bi 79 .neq 74 78,m 80 79,g 81 80 true (.j4 1 4),g 82 80 true (.ld true 4 81),g 83 80 true (.j4 6 1),g 84 80 true (.ld false 1 83),g 85 80 true (.call 5 [82,84]),g 86 80 true (.un .not 85),pk 87 80 86 kf] (rl [6] 72 15) (i 87 (sd [mv 2 kf] [1,3,43,44,45,55,56,57,87] .ret) .skip))))) (d [ad 88 57 k1,m 57 88] [87,88]))))
def KH.l1:=(sp [ls 46 45 44] (s (i 46 .skip (x 0)) (s (b 1 (sd [m 47 45,ia 48 1 43 45,tt 49 1 48,al 4 [.nil],m 3 47,so 1 4 49] (ra 46 4) (s (sd [fa 50 4 0,uu 51 1 50,ln 52 51,bi 53 .gtr 52 (k 64)] [50,51,52] (i 53 (sd [mv 2 kf] [1,3,4,43,44,45,53] .ret) .skip)) (sd [fa 54 4 0,uu 55 1 54,ln 56 55,mv 57 k0] [4,53,54] (b 2 (w KH.l2)))))) (d [ad 89 45 k1,m 45 89] [3,55,56,57,58,89]))))
def KH.l3:=(sp [ls 100 99 98] (s (i 100 .skip (x 4)) (s (b 5 (sd [ia 101 1 97 99,uu 102 1 101,m 9 102] [100,101,102] (sd [m 103 9,ls 104 103 k0,m 105 104,g 106 105 false (.m5 9),g 107 105 false (.m5 7),g 108 105 false (.bin .gtr 106 107),pk 109 105 kt 108] (rl [9] 103 6) (i 109 (sd [mv 2 kf] [1,7,97,98,99,109] .ret) .skip)))) (d [ad 110 99 k1,m 99 110] [109,110]))))
def KH:AFn:=⟨1,(sd [bx 1 0,mv 2 kf] [0,2] (s (sd [fa 10 1 0,tt 11 4 10,ca 12 2 [11],nt 13 12,m 14 13,g 15 14 false (.j4 1 4),g 16 14 false (.ld true 4 15),g 17 14 false (.call 2 [16]),g 18 14 false (.un .not 17),pk 19 14 kt 18] (ra 10 9) (i 19 (sd [mv 2 kf] [1,19] .ret) .skip)) (s (sd [fa 20 1 8,uu 21 1 20,ls 22 21 k0,m 23 22,g 24 23 false (.j4 1 8),g 25 23 false (.ld false 1 24),g 26 23 false (.bin .gtr 25 (k 64)),pk 27 23 kt 26,m 28 27,g 29 28 false (.j4 1 9),g 30 28 false (.ld false 1 29),g 31 28 false (.len 30),g 32 28 false (.bin .gtr 31 (k 64)),pk 33 28 kt 32,m 34 33,g 35 34 false (.j4 1 10),g 36 34 false (.ld false 1 35),g 37 34 false (.len 36),g 38 34 false (.j4 1 8),g 39 34 false (.ld false 1 38),g 40 34 false (.bin .neq 37 39),pk 41 34 kt 40] (ra 19 22) (i 41 (sd [mv 2 kf] [1,41] .ret) .skip)) (s (sd [fa 42 1 9,uu 43 1 42,ln 44 43,mv 45 k0] [41,42] (b 0 (w KH.l1))) (sd [fa 90 1 8,uu 91 1 90,fa 92 1 9,uu 93 1 92,ln 94 93,ad 95 91 94,m 7 95] (rl [43,44,45,46] 90 6) (s (sd [fa 96 1 10,uu 97 1 96,ln 98 97,mv 99 k0] [96] (b 4 (w KH.l3))) (sd [fa 111 1 11,uu 112 1 111,bi 113 .geq 112 k0,m 114 113,g 115 114 true (.j4 1 11),g 116 114 true (.ld false 1 115),g 117 114 true (.m5 7),g 118 114 true (.bin .leq 116 117),pk 119 114 118 kf,m 2 119] (rl [1,7,97,98,99,100] 111 9) .ret))))))),[.tmp 2],false⟩
def KP.l2:=(s (sd [m 53 4,fa 54 1 9,uu 55 1 54,m 56 3,ia 57 1 55 56,fa 58 57 0,uu 59 1 58,ln 60 59,ls 61 53 60] (ra 53 8) (i 61 .skip (x 2))) (s (b 3 (sd [fa 64 1 9,uu 65 1 64,m 66 3,ia 67 1 65 66,fa 68 67 0,uu 69 1 68,m 70 4,ia 71 2 69 70,tt 72 2 71,al 5 [z,z],so 2 5 72] (rl [61] 64 9) (sd [fa 73 5 0,uu 74 1 73,fa 75 1 8,uu 76 1 75,m 77 3,ad 78 76 77,ca 79 10 [74,k0,78],nt 80 79,m 81 80,g 82 81 false (.j4 1 4),g 83 81 false (.ld true 4 82),g 84 81 false (.j4 5 1),g 85 81 false (.ld false 1 84),g 86 81 false (.call 14 [83,85]),g 87 81 false (.un .not 86),g 88 81 false (.m5 87),g 89 88 true (.j4 5 1),g 90 88 true (.ld false 1 89),g 91 88 true (.j4 1 4),g 92 88 true (.j4 91 1),g 93 88 true (.ld false 1 92),g 94 88 true (.conv .u64 93),g 95 88 true (.bin .shl k1 94),g 96 88 true (.bin .neq 90 95),g 97 81 false (.pick 88 96 kf),pk 98 81 kt 97] (rl [5] 73 25) (i 98 (sd [mv 2 kf] [1,3,4,98] .ret) .skip)))) (d [m 62 4,ad 63 62 k1,m 4 63] [62,63,98])))
def KP.l1:=(s (sd [m 38 3,fa 39 1 9,uu 40 1 39,ln 41 40,ls 42 38 41] (ra 38 4) (i 42 .skip (x 0))) (s (b 1 (s (sd [fa 45 1 9,uu 46 1 45,m 47 3,ia 48 1 46 47,fa 49 48 0,uu 50 1 49,ln 51 50,bi 52 .gtr 51 (k 64)] (rl [42] 45 7) (i 52 (sd [mv 2 kf] [1,3,52] .ret) .skip)) (sd [mv 4 k0] [52] (b 2 (w KP.l2))))) (d [m 43 3,ad 44 43 k1,m 3 44] [4,43,44,61])))
def KP.l3:=(s (sd [m 105 7,fa 106 1 8,uu 107 1 106,ls 108 105 107] [105,106,107] (i 108 .skip (x 4))) (s (b 5 (sd [fa 111 1 10,uu 112 1 111,m 113 7,ia 114 1 112 113,uu 115 1 114,m 116 6,ca 117 10 [115,k0,116],nt 118 117] (rl [108] 111 7) (i 118 (sd [mv 2 kf] [1,6,7,118] .ret) .skip))) (d [m 109 7,ad 110 109 k1,m 7 110] [109,110,118])))
def KP:AFn:=⟨1,(sd [bx 1 0,mv 2 kf] [0,2] (s (sd [fa 8 1 0,tt 9 4 8,ca 10 11 [9],nt 11 10,m 12 11,g 13 12 false (.j4 1 4),g 14 12 false (.ld true 4 13),g 15 12 false (.call 11 [14]),g 16 12 false (.un .not 15),pk 17 12 kt 16,m 18 17,g 19 18 false (.j4 1 8),g 20 18 false (.ld false 1 19),g 21 18 false (.call 10 [20,k0,(k 64)]),g 22 18 false (.un .not 21),pk 23 18 kt 22,m 24 23,g 25 24 false (.j4 1 9),g 26 24 false (.ld false 1 25),g 27 24 false (.len 26),g 28 24 false (.bin .gtr 27 (k 64)),pk 29 24 kt 28,m 30 29,g 31 30 false (.j4 1 10),g 32 30 false (.ld false 1 31),g 33 30 false (.len 32),g 34 30 false (.j4 1 8),g 35 30 false (.ld false 1 34),g 36 30 false (.bin .neq 33 35),pk 37 30 kt 36] (ra 8 29) (i 37 (sd [mv 2 kf] [1,37] .ret) .skip)) (s (sd [mv 3 k0] [37] (b 0 (w KP.l1))) (sd [fa 99 1 8,uu 100 1 99,fa 101 1 9,uu 102 1 101,ln 103 102,ad 104 100 103,m 6 104] (rl [3,42] 99 6) (s (sp [mv 7 k0] (b 4 (w KP.l3))) (sd [fa 119 1 11,uu 120 1 119,m 121 6,ca 122 10 [120,k0,121],m 2 122] (rl [1,6,7,108] 119 4) .ret)))))),[.tmp 2],false⟩
structure w6 (L:Lib):Prop extends e8 L where
 KH:L 21=some F.KH
 KP:L 27=some F.KP
def MC.l2:=(sp [ls 44 43 42] (s (i 44 .skip (x 2)) (s (b 3 (sd [ia 45 2 41 43,tt 46 2 45,al 13 [z,z],so 2 13 46] [44,45,46] (sd [fa 47 13 1,uu 48 1 47,bi 49 .neq 48 k0,m 50 49,g 51 50 true (.m5 7),g 52 50 true (.j4 13 0),g 53 50 true (.ld false 1 52),g 54 50 true (.u6 none 3 51 53),g 55 50 true (.ld true 3 54),g 56 50 true (.call 97 [55]),g 57 50 true (.bin .neq 56 k0),pk 58 50 57 kf] (ra 47 11) (i 58 (e [tt 59 3 11,fa 60 13 1,uu 61 1 60,ca 62 96 [61],m 63 7,fa 64 13 0,uu 65 1 64,ia 66 3 63 65,tt 67 3 66,ca 68 99 [62,67],ca 69 98 [59,68],so 3 11 69] (rl [13] 58 12)) .skip)))) (d [ad 70 43 k1,m 43 70] [13,58,70]))))
def MC.l1:=(sp [ls 35 34 33] (s (i 35 .skip (x 0)) (s (b 1 (sd [m 36 34,ia 37 1 32 34,tt 38 1 37,al 10 [.nil],m 9 36,so 1 10 38] (ra 35 4) (sd [ca 39 96 [k0],al 11 z3,so 3 11 39] [39] (s (sd [fa 40 10 0,uu 41 1 40,ln 42 41,mv 43 k0] [10,40] (b 2 (w MC.l2))) (sd [tt 72 3 11,tt 73 3 8,ca 74 100 [72,73],m 71 74,et 75 71 0,et 76 71 1,al 14 z3,so 3 14 75,m 15 76] (rl [11,15,41,42,43,44] 71 6) (s (sd [m 77 9,m 78 2,bi 79 .eql 77 78] [9,77,78] (i 79 (e [tt 80 3 14,ca 81 96 [k1],ca 82 98 [80,81],so 3 14 82] (ra 79 4)) .skip)) (d [m 83 7,tt 84 3 14,o 85 (.a7 85 3 [84]),o 86 (.app 86 3 56 83 85),m 7 86] (rl [14,79] 83 4)))))))) (d [ad 87 34 k1,m 34 87] [87]))))
def MC:AFn:=⟨3,(sd [bx 3 0,mv 6 (.c .nil)] [0,6] (sd [fa 16 3 8,uu 17 1 16,ad 18 k1 17,o 19 (.n7 19 131 [18]),m 7 19] (ra 16 4) (s (sd [m 20 1,bi 21 .geq 20 k0] [20] (i 21 (d [m 22 7,m 23 1,ca 24 96 [k1],ia 25 3 22 23,so 3 25 24] (rl [1] 21 5)) .skip)) (sd [fa 26 3 4,fa 27 26 1,uu 28 1 27,bi 29 .shl k1 28,ca 30 96 [29],al 8 z3,so 3 8 30] (rl [1,21] 26 5) (s (sd [fa 31 3 9,uu 32 1 31,ln 33 32,mv 34 k0] [3,31] (b 0 (w MC.l1))) (sd [m 88 7,m 6 88] [2,7,8,32,33,34,35,88] .ret)))))),[.tmp 6],false⟩
def MD.l1:=(sp [ls 17 16 15] (s (i 17 .skip (x 0)) (s (b 1 (sd [m 18 16,m 4 18] [17,18] (e [fa 19 3 0,q 20 [145023] (.ld false 1 19),m 21 4,m 22 0,o 23 (.n7 145023 131 [22]),ia 24 1 20 21,so 1 24 23] (rl [4] 19 6)))) (d [ad 25 16 k1,m 16 25] [25]))))
def MD:AFn:=⟨1,(sp [o 2 (.alloc 145002 z6)] (se [m 5 0,o 6 (.mk 145006 1 24 [.nil] 5 5),m 7 0,q 8 [145006,145003] (.n7 145008 131 [7]),m 9 0,q 10 [145006,145003] (.n7 145010 131 [9]),q 11 [145006,145003] (.call 96 [k0]),o 12 (.build z6 [(0,1,6),(1,1,8),(2,1,10),(3,3,11)]),o 3 (.alloc 145003 z6),so 6 3 12] (ra 5 8) (s (sd [fa 13 3 0,uu 14 1 13,ln 15 14,mv 16 k0] [13,14] (b 0 (w MD.l1))) (sd [tt 26 6 3,so 6 2 26] [0,3,15,16,17,26] .ret)))),[.cell 2 true 6],false⟩
def IC.l1:=(sp [ls 22 21 20] (s (i 22 .skip (x 0)) (s (b 1 (sd [m 23 21,m 5 23] [22,23] (d [m 24 4,m 25 5,tt 26 12 1,m 27 5,ca 28 144 [26,27,(k (-1))],ia 29 1 24 25,so 1 29 28] (rl [5] 24 6)))) (d [ad 30 21 k1,m 21 30] [30]))))
def IC.l3:=(sp [ls 45 44 43] (s (i 45 .skip (x 4)) (s (b 5 (sd [m 46 44,m 9 46] [45,46] (e [fa 47 6 0,uu 48 1 47,m 49 7,ia 50 1 48 49,uu 51 1 50,m 52 9,m 53 4,m 54 9,ad 55 54 k1,ia 56 1 53 55,uu 57 1 56,m 58 8,ia 59 3 57 58,tt 60 3 59,ca 61 95 [60],ia 62 3 51 52,so 3 62 61] (rl [9] 47 16)))) (d [ad 63 44 k1,m 44 63] [63]))))
def IC.l2:=(sp [ls 38 37 36] (s (i 38 .skip (x 2)) (s (b 3 (sd [m 39 37,ia 40 1 35 37,uu 41 1 40,m 7 39,m 8 41] (ra 38 4) (s (sd [fa 42 1 8,uu 43 1 42,mv 44 k0] [42] (b 4 (w IC.l3))) (e [fa 64 6 1,uu 65 1 64,m 66 7,m 67 4,ia 68 1 67 k0,uu 69 1 68,m 70 8,ia 71 3 69 70,tt 72 3 71,ca 73 95 [72],ia 74 3 65 66,so 3 74 73] (rl [7,8,43,44,45] 64 11))))) (d [ad 75 37 k1,m 37 75] [75]))))
def IC.l4:=(sp [ls 79 78 77] (s (i 79 .skip (x 6)) (s (b 7 (sd [m 80 78,m 10 80] [79,80] (e [fa 81 6 2,uu 82 1 81,m 83 10,m 84 4,m 85 10,ad 86 85 k1,ia 87 1 84 86,uu 88 1 87,fa 89 1 11,uu 90 1 89,ia 91 3 88 90,tt 92 3 91,ca 93 95 [92],ia 94 3 82 83,so 3 94 93] (rl [10] 81 14)))) (d [ad 95 78 k1,m 78 95] [95]))))
def IC:AFn:=⟨1,(sd [o 1 (.box 146001 0),o 2 (.alloc 146002 z6),mv 3 k0] [0,3] (s (sd [tt 11 12 1,ca 12 21 [11],nt 13 12] [11,12] (i 13 (sd [o 14 (.build z6 []),so 6 2 14,mv 3 (k 2)] [1,13,14] .ret) .skip)) (sd [fa 15 1 8,uu 16 1 15,ad 17 16 k1,o 18 (.mk 146018 1 24 [.nil] 17 17),m 4 18] (rl [13] 15 4) (s (sd [m 19 4,ln 20 19,mv 21 k0] [19] (b 0 (w IC.l1))) (sd [fa 31 1 8,uu 32 1 31,o 33 (.c7 145 [32]),o 6 (.alloc 146006 z6),so 6 6 33] [20,21,22,31,32,33] (s (sd [fa 34 1 10,uu 35 1 34,ln 36 35,mv 37 k0] [34] (b 2 (w IC.l2))) (s (sd [fa 76 1 8,uu 77 1 76,mv 78 k0] [35,36,37,38,76] (b 6 (w IC.l4))) (se [m 96 4,ia 97 1 96 k0,uu 98 1 97,fa 99 1 11,uu 100 1 99,ia 101 3 98 100,tt 102 3 101,ca 103 95 [102],fa 104 6 3,so 3 104 103] (rl [1,4,77,78,79] 96 9) (sd [tt 105 6 6,so 6 2 105,mv 3 k0] [6,105] .ret))))))))),[.cell 2 true 6,.tmp 3],false⟩
structure ak (L:Lib):Prop extends o4 L,w6 L where
 MC:L 144=some F.MC
 MD:L 145=some F.MD
 IC:L 146=some F.IC
def T8:AFn:=⟨1,(sd [bx 1 0,al 2 z3] [0] (sd [fa 3 1 0,fa 4 3 0,uu 5 1 4,nt 6 5,fa 7 1 0,fa 8 7 1,uu 9 1 8,o 10 (.build [(.bool false),.nil] [(0,1,6),(1,1,9)]),fa 11 1 2,uu 12 1 11,o 13 (.build z3 [(0,2,10),(2,1,12)]),so 3 2 13] (rl [1] 3 11) .ret)),[.cell 2 true 3],false⟩
def T6:AFn:=⟨2,(sd [bx 2 0,bx 3 1,al 4 z3] [0,1] (se [tt 5 3 2,tt 6 3 3,o 7 (.j6 149 [6]),ca 8 98 [5,7],so 3 4 8] [2,3,5,6,7,8] .ret)),[.cell 4 true 3],false⟩
def TZ:AFn:=⟨2,(sp [al 4 z3] (s (sd [m 5 1,bi 6 .eql 5 k0] [5] (i 6 (sd [ca 7 96 [k0],so 3 4 7] [0,1,6,7] .ret) .skip)) (sd [m 8 0,ca 9 85 [8],m 10 1,ca 11 85 [10],o 12 (.c7 93 [9,11]),ca 13 94 [12],so 3 4 13] (rl [0,1,6] 8 6) .ret))),[.cell 4 true 3],false⟩
structure q9 (L:Lib):Prop extends a5 L where
 T8:L 149=some F.T8
 T6:L 150=some F.T6
 TZ:L 151=some F.TZ
def PE.l1:=(s (sd [m 6 3,bi 7 .gtr 6 k0,m 8 7,g 9 8 true (.m5 0),g 10 8 true (.m5 3),g 11 8 true (.bin .sub 10 k1),g 12 8 true (.u6 none 3 9 11),g 13 8 true (.ld true 3 12),g 14 8 true (.call 97 [13]),g 15 8 true (.bin .eql 14 k0),pk 16 8 15 kf] (ra 6 10) (i 16 .skip (x 0))) (b 1 (d [m 17 3,sb 18 17 k1,m 3 18] [16,17,18])))
def PE:AFn:=⟨1,(sd [mv 2 (.c .nil)] [2] (sd [m 4 0,ln 5 4,m 3 5] [4,5] (s (b 0 (w PE.l1)) (sd [m 19 0,m 20 3,o 21 (.di 3 19 none (some 20)),m 2 21] [0,3,16,19,20,21] .ret)))),[.tmp 2],false⟩
structure nv (L:Lib):Prop extends a5 L where
 PE:L 169=some F.PE
def UV:AFn:=⟨1,(sd [bx 1 0,al 2 z3] [0] (sd [tt 3 3 1,ca 4 123 [3],so 3 1 4] [3,4] (sd [fa 5 1 0,tt 6 2 5,ca 7 114 [6],fa 8 1 0,so 2 8 7] (ra 5 4) (sd [tt 9 3 1,so 3 2 9] [1,9] .ret)))),[.cell 2 true 3],false⟩
def PO:AFn:=⟨2,(sd [bx 2 0,bx 3 1,al 4 z3] [0,1] (se [tt 5 3 2,tt 6 3 3,ca 7 152 [6],ca 8 126 [5,7],so 3 4 8] [2,3,5,6,7,8] .ret)),[.cell 4 true 3],false⟩
def US:AFn:=⟨2,(sd [bx 2 0,bx 3 1,al 4 z3,mv 5 k0] [0,1,5] (sd [tt 11 3 2,o 12 (.j6 122 [11]),m 10 12,et 13 10 0,et 14 10 1,al 6 [(.bool false),.nil],al 7 [(.bool false),.nil],so 2 6 13,so 2 7 14] (rl [2] 10 5) (sd [tt 16 3 3,o 17 (.j6 122 [16]),m 15 17,et 18 15 0,et 19 15 1,al 8 [(.bool false),.nil],al 9 [(.bool false),.nil],so 2 8 18,so 2 9 19] (rl [3] 15 5) (s (sd [tt 20 2 8,ca 21 113 [20],bi 22 .eql 21 k0] [20,21] (i 22 (sd [o 23 (.build z3 []),so 3 4 23,mv 5 (k 3)] [6,7,8,9,22,23] .ret) .skip)) (se [tt 24 2 6,tt 25 2 9,ca 26 118 [24,25],tt 27 2 7,tt 28 2 8,ca 29 118 [27,28],ca 30 121 [26,29],so 3 4 30,mv 5 k0] (rl [6,7,8,9,22] 24 7) .ret))))),[.cell 4 true 3,.tmp 5],false⟩
def PN:AFn:=⟨1,(sd [bx 1 0,mv 2 k0] [0,2] (sd [tt 6 3 1,o 7 (.j6 122 [6]),m 5 7,et 8 5 0,et 9 5 1,al 3 [(.bool false),.nil],al 4 [(.bool false),.nil],so 2 3 8,so 2 4 9] (rl [1] 4 6) (sd [tt 10 2 3,ca 11 113 [10],m 2 11] [3,10,11] .ret))),[.tmp 2],false⟩
structure k9 (L:Lib):Prop extends a6 L where
 UV:L 152=some F.UV
 PO:L 153=some F.PO
 US:L 154=some F.US
 PN:L 155=some F.PN
structure sf (L:Lib):Prop extends k9 L where
structure vp (L:Lib):Prop extends ak L,q9 L,nv L,sf L where
def S6:AFn:=⟨2,(sd [bx 2 0,bx 3 1,mv 4 k0] [0,1,4] (se [tt 7 2 2,ca 8 86 [7],tt 9 2 3,ca 10 86 [9],m 5 8,m 6 10] (ra 7 4) (s (b 0 (sd [m 12 5,m 13 6,ls 14 12 13,m 11 14] [12,13,14] (i 11 (sd [mv 4 (k (-1))] [2,3,5,6,11] .ret) (sd [m 16 5,m 17 6,bi 18 .gtr 16 17,m 15 18] [6,11,16,17,18] (i 15 (sd [mv 4 k1] [2,3,5,15] .ret) (sd [m 20 5,bi 21 .eql 20 (k (-1)),m 19 21] [5,15,20,21] (i 19 (sd [fa 22 3 1,uu 23 1 22,fa 24 2 1,uu 25 1 24,ca 26 67 [23,25],m 4 26] (rl [2,3,19] 22 5) .ret) .skip))))))) (sd [fa 27 2 1,uu 28 1 27,fa 29 3 1,uu 30 1 29,ca 31 67 [28,30],m 4 31] (rl [2,3,19] 27 5) .ret)))),[.tmp 4],false⟩
def PF:AFn:=⟨2,(sd [bx 2 0,bx 3 1,mv 4 k0] [0,1,4] (se [q 7 [5,6] (.ld true 3 2),q 8 [5,6] (.j6 89 [7]),q 9 [5,6] (.ld true 3 3),q 10 [5,6] (.j6 89 [9]),al 5 [(.bool false),.nil,.nil,(.bool false)],al 6 [(.bool false),.nil,.nil,(.bool false)],so 4 5 8,so 4 6 10] [2,3,7,8,9,10] (s (sd [fa 11 5 3,uu 12 1 11,m 13 12,g 14 13 true (.j4 6 3),g 15 13 true (.ld false 1 14),pk 16 13 15 kf] (ra 11 5) (i 16 (sd [fa 17 5 0,fa 18 17 0,tt 19 2 18,fa 20 6 0,fa 21 20 0,tt 22 2 21,ca 23 197 [19,22],m 4 23] (rl [5,6] 16 8) .ret) .skip)) (se [fa 24 5 0,fa 25 24 0,tt 26 2 25,fa 27 6 0,fa 28 27 2,uu 29 1 28,o 30 (.j6 91 [29]),ca 31 88 [26,30],fa 32 6 0,fa 33 32 0,tt 34 2 33,fa 35 5 0,fa 36 35 2,uu 37 1 36,o 38 (.j6 91 [37]),ca 39 88 [34,38],ca 40 197 [31,39],m 4 40] (rl [5,6,16] 24 17) .ret)))),[.tmp 4],false⟩
def T3:AFn:=⟨1,(sd [bx 1 0,al 2 z3] [0] (sd [tt 3 3 1,o 4 (.j6 149 [3]),ca 5 95 [4],so 3 2 5] [1,3,4,5] .ret)),[.cell 2 true 3],false⟩
def TV:AFn:=⟨1,(sd [mv 2 k0] [2] (sd [m 3 0,o 4 (.c7 169 [3]),ln 5 4,sb 6 5 k1,m 2 6] [0,3,4,5,6] .ret)),[.tmp 2],false⟩
def U8:AFn:=⟨1,(sd [bx 1 0,mv 2 kf] [0,2] (s (sd [fa 3 1 0,uu 4 1 3,ca 5 200 [4],bi 6 .gtr 5 (k 48),m 7 6,g 8 7 false (.j4 1 1),g 9 7 false (.ld false 1 8),g 10 7 false (.call 200 [9]),g 11 7 false (.bin .gtr 10 (k 48)),pk 12 7 kt 11] (ra 3 9) (i 12 (sd [mv 2 kf] [1,12] .ret) .skip)) (se [fa 13 1 1,uu 14 1 13,ln 15 14,bi 16 .gtr 15 k0,m 17 16,g 18 17 true (.j4 1 1),g 19 17 true (.ld false 1 18),g 20 17 true (.u6 none 3 19 k0),g 21 17 true (.ld true 3 20),g 22 17 true (.call 96 [k1]),g 23 17 true (.call 198 [21,22]),g 24 17 true (.bin .eql 23 k0),pk 25 17 24 kf,m 2 25] (rl [1] 12 14) .ret))),[.tmp 2],false⟩
def P3.l1:=(s (sd [m 7 3,bi 8 .gtr 7 k0] [7] (i 8 .skip (x 0))) (s (b 1 (sd [m 11 0,m 12 3,ia 13 3 11 12,tt 14 3 13,ca 15 97 [14],bi 16 .neq 15 k0] (rl [8] 11 5) (i 16 (sd [m 17 3,m 2 17] [0,3,16,17] .ret) .skip))) (d [m 9 3,sb 10 9 k1,m 3 10] [9,10,16])))
def P3:AFn:=⟨1,(sd [mv 2 k0] [2] (s (sd [m 4 0,ln 5 4,sb 6 5 k1,m 3 6] [4,5,6] (b 0 (w P3.l1))) (sd [mv 2 k0] [0,3,8] .ret))),[.tmp 2],false⟩
def VH:AFn:=⟨2,(sp [al 4 z3] (s (sd [m 5 1,m 6 0,ln 7 6,ls 8 5 7] [5,6,7] (i 8 (sd [m 9 0,m 10 1,ia 11 3 9 10,tt 12 3 11,ca 13 95 [12],so 3 4 13] (rl [0,1] 8 6) .ret) .skip)) (sd [ca 14 96 [k0],so 3 4 14] [0,1,8,14] .ret))),[.cell 4 true 3],false⟩
def P4.l1:=(sp [ls 9 8 7] (s (i 9 .skip (x 0)) (s (b 1 (sd [m 10 8,m 4 10] [9,10] (d [m 11 3,m 12 4,ca 13 96 [k0],ia 14 3 11 12,so 3 14 13] (rl [4] 11 4)))) (d [ad 15 8 k1,m 8 15] [15]))))
def P4:AFn:=⟨1,(sd [mv 2 (.c .nil)] [2] (sd [m 5 0,o 6 (.mk 6 3 56 z3 5 5),m 3 6] [5,6] (s (sd [m 7 0,mv 8 k0] [0] (b 0 (w P4.l1))) (sd [m 16 3,m 2 16] [3,7,8,9,16] .ret)))),[.tmp 2],false⟩
def MY.l2:=(sp [ls 51 50 49] (s (i 51 .skip (x 2)) (s (b 3 (sd [m 52 50,m 8 52] [51,52] (d [m 53 7,m 54 8,fa 55 1 1,uu 56 1 55,m 57 8,ad 58 57 k1,ca 59 205 [56,58],ca 60 199 [59],ia 61 3 53 54,so 3 61 60] (rl [8] 53 9)))) (d [ad 62 50 k1,m 50 62] [62]))))
def MY.l1:=(sp [ls 38 37 36] (s (i 38 .skip (x 0)) (s (b 1 (sd [m 39 37,m 6 39] [38,39] (sd [m 40 4,o 41 (.n7 41 206 [40]),m 7 41] [40,41] (s (sd [m 42 6,bi 43 .gtr 42 k0] [42] (i 43 (d [m 44 7,m 45 6,sb 46 45 k1,ca 47 96 [k1],ia 48 3 44 46,so 3 48 47] (ra 43 6)) (sd [m 49 4,mv 50 k0] [43] (b 2 (w MY.l2))))) (sd [fa 63 5 0,uu 64 1 63,m 65 7,o 66 (.a7 66 1 [65]),o 67 (.app 67 1 24 64 66),fa 68 5 0,so 1 68 67] (rl [7,49,50,51] 63 6) (se [fa 69 1 0,q 70 [9] (.ld false 1 69),q 71 [9] (.call 205 [70,k0]),fa 72 1 1,q 73 [9] (.ld false 1 72),m 74 6,ad 75 74 k1,q 76 [9] (.call 205 [73,75]),q 77 [9] (.call 99 [71,76]),al 9 z3,so 3 9 77] (ra 69 9) (e [fa 78 5 2,q 79 [87] (.ld false 1 78),fa 80 1 0,uu 81 1 80,m 82 6,ad 83 82 k1,ca 84 205 [81,83],tt 85 3 9,ca 86 150 [84,85],o 87 (.a7 87 3 [86]),o 88 (.app 88 3 56 79 87),fa 89 5 2,so 1 89 88] (rl [6,9] 78 12)))))))) (d [ad 90 37 k1,m 37 90] [90]))))
def MY:AFn:=⟨1,(sd [bx 1 0,al 2 z6,mv 3 k0] [0,3] (s (sd [tt 10 2 1,ca 11 201 [10],nt 12 11] [10,11] (i 12 (sd [o 13 (.build z6 []),so 6 2 13,mv 3 (k 2)] [1,12,13] .ret) .skip)) (se [fa 14 1 0,uu 15 1 14,ca 16 204 [15],fa 17 1 1,uu 18 1 17,ca 19 204 [18],o 20 (.mm true [16,19]),m 4 20] (rl [12] 14 7) (s (sd [m 21 4,bi 22 .gtr 21 (k 16)] [21] (i 22 (sd [o 23 (.build z6 []),so 6 2 23,mv 3 (k 12)] [1,4,22,23] .ret) .skip)) (sd [fa 24 1 0,uu 25 1 24,ca 26 205 [25,k0],m 27 4,o 28 (.n7 28 206 [27]),o 29 (.build z6 [(3,3,26),(1,1,28)]),al 5 z6,so 6 5 29] (rl [22] 24 6) (s (sd [m 30 4,bi 31 .gtr 30 k0] [30] (i 31 (e [fa 32 5 1,uu 33 1 32,ca 34 96 [k1],ia 35 3 33 k0,so 3 35 34] (ra 31 5)) .skip)) (s (sd [m 36 4,mv 37 k0] [31] (b 0 (w MY.l1))) (sd [tt 91 6 5,so 6 2 91,mv 3 k0] [1,4,5,36,37,38,91] .ret)))))))),[.cell 2 true 6,.tmp 3],false⟩
structure q8 (L:Lib):Prop extends vp L where
 S6:L 197=some F.S6
 PF:L 198=some F.PF
 T3:L 199=some F.T3
 TV:L 200=some F.TV
 U8:L 201=some F.U8
 P3:L 204=some F.P3
 VH:L 205=some F.VH
 P4:L 206=some F.P4
 MY:L 207=some F.MY
def TW:AFn:=⟨1,(sd [bx 1 0,al 2 z3] [0] (sd [fa 3 1 0,fa 4 3 1,uu 5 1 4,o 6 (.build [(.bool false),.nil] [(1,1,5)]),fa 7 1 2,uu 8 1 7,o 9 (.build z3 [(0,2,6),(2,1,8)]),ca 10 95 [9],so 3 2 10] (rl [1] 3 8) .ret)),[.cell 2 true 3],false⟩
structure fw (L:Lib):Prop extends q8 L where
 TW:L 256=some F.TW
def TS:AFn:=⟨1,(sd [bx 1 0,al 2 z3] [0] (sd [tt 3 3 1,ca 4 95 [3],o 5 (.pn 4 2 1 false),o 6 (.build [(.bool false),.nil] [(1,1,5)]),o 7 (.a7 7 1 [(.c (.int .u32 (1)))]),o 8 (.build z3 [(0,2,6),(2,1,7)]),so 3 2 8] (rl [1] 3 6) .ret)),[.cell 2 true 3],false⟩
def MJ.l2:=(sp [ls 20 19 18] (s (i 20 .skip (x 2)) (s (b 3 (sd [ia 21 3 17 19,tt 22 3 21,al 7 z3,so 3 7 22] [20,21,22] (se [q 24 [8] (.ld true 3 3),q 25 [8] (.ld true 3 7),q 26 [8] (.call 294 [25]),q 27 [8] (.call 100 [24,26]),m 23 27,et 28 23 0,et 29 23 1,al 8 z3,so 3 8 28,m 9 29] (rl [7,9] 23 7) (e [tt 30 3 3,tt 31 3 8,ca 32 294 [31],ca 33 99 [30,32],so 3 3 33] (rl [8] 30 4))))) (d [ad 34 19 k1,m 19 34] [34]))))
def MJ.l1:=(sp [ls 14 13 12] (s (i 14 .skip (x 0)) (s (b 1 (sd [ia 15 1 11 13,uu 16 1 15,m 5 16] [14,15,16] (sd [m 17 5,ln 18 17,mv 19 k0] [5] (b 2 (w MJ.l2))))) (d [ad 35 13 k1,m 13 35] [17,18,19,20,35]))))
def MJ:AFn:=⟨1,(sp [al 2 z3] (sd [ca 10 96 [k1],al 3 z3,so 3 3 10] [10] (s (sd [m 11 0,ln 12 11,mv 13 k0] [0] (b 0 (w MJ.l1))) (sd [tt 36 3 3,so 3 2 36] [3,11,12,13,14,36] .ret)))),[.cell 2 true 3],false⟩
def PC.l1:=(sp [ls 13 12 11] (s (i 13 .skip (x 0)) (s (b 1 (sd [m 14 12,m 6 14] [13,14] (e [m 15 5,m 16 6,m 17 0,m 18 6,ia 19 3 17 18,tt 20 3 19,tt 21 3 3,ca 22 99 [20,21],ia 23 3 15 16,so 3 23 22] (rl [6] 15 9)))) (d [ad 24 12 k1,m 12 24] [24]))))
def PC:AFn:=⟨2,(sd [bx 3 1,mv 4 (.c .nil)] [1,4] (sd [m 7 0,ln 8 7,o 9 (.mk 9 3 56 z3 8 8),m 5 9] [7,8,9] (s (sd [m 10 0,ln 11 10,mv 12 k0] [10] (b 0 (w PC.l1))) (sd [m 25 5,m 4 25] [0,3,5,11,12,13,25] .ret)))),[.tmp 4],false⟩
def PA.l1:=(sp [ls 11 10 9] (s (i 11 .skip (x 0)) (s (b 1 (sd [m 12 10,m 6 12] [11,12] (sd [m 13 0,m 14 6,ia 15 3 13 14,tt 16 3 15,ca 17 97 [16],bi 18 .neq 17 k0,m 19 18,g 20 19 true (.m5 1),g 21 19 true (.m5 6),g 22 19 true (.u6 none 3 20 21),g 23 19 true (.ld true 3 22),g 24 19 true (.call 97 [23]),g 25 19 true (.bin .neq 24 k0),pk 26 19 25 kf] (ra 13 13) (i 26 (e [tt 27 3 5,m 28 0,m 29 6,ia 30 3 28 29,tt 31 3 30,m 32 1,m 33 6,ia 34 3 32 33,tt 35 3 34,ca 36 99 [31,35],ca 37 98 [27,36],so 3 5 37] (rl [6] 26 12)) .skip)))) (d [ad 38 10 k1,m 10 38] [6,26,38]))))
def PA:AFn:=⟨2,(sp [al 4 z3] (sd [ca 7 96 [k0],al 5 z3,so 3 5 7] [7] (s (sd [m 8 0,ln 9 8,mv 10 k0] [8] (b 0 (w PA.l1))) (sd [tt 39 3 5,so 3 4 39] [0,1,5,9,10,11,39] .ret)))),[.cell 4 true 3],false⟩
def I8.l1:=(sp [ls 16 15 14] (s (i 16 .skip (x 0)) (s (b 1 (sd [m 17 15,m 5 17] [16,17] (d [m 18 4,m 19 5,m 20 3,o 21 (.mk 21 3 56 z3 20 20),ia 22 1 18 19,so 1 22 21] (rl [5] 18 5)))) (d [ad 23 15 k1,m 15 23] [23]))))
def I8.l3:=(sp [ls 32 31 30] (s (i 32 .skip (x 4)) (s (b 5 (sd [m 33 31,m 8 33] [32,33] (d [m 34 6,m 35 8,m 36 0,m 37 8,ia 38 1 36 37,uu 39 1 38,m 40 7,ia 41 3 39 40,tt 42 3 41,ia 43 3 34 35,so 3 43 42] (rl [8] 34 10)))) (d [ad 44 31 k1,m 31 44] [44]))))
def I8.l4:=(sp [ls 47 46 45] (s (i 47 .skip (x 6)) (s (b 7 (sd [m 48 46,m 9 48] [47,48] (e [m 49 4,m 50 9,ia 51 1 49 50,uu 52 1 51,m 53 7,m 54 0,m 55 9,ia 56 1 54 55,uu 57 1 56,m 58 6,ca 59 297 [57,58],ia 60 3 52 53,so 3 60 59] (rl [9] 49 12)))) (d [ad 61 46 k1,m 46 61] [61]))))
def I8.l2:=(sp [ls 28 27 26] (s (i 28 .skip (x 2)) (s (b 3 (sd [m 29 27,m 7 29] [28,29] (s (sp [m 30 3,mv 31 k0] (b 4 (w I8.l3))) (sd [m 45 3,mv 46 k0] [30,31,32] (b 6 (w I8.l4)))))) (d [ad 62 27 k1,m 27 62] [7,45,46,47,62]))))
def I8:AFn:=⟨1,(sd [mv 2 (.c .nil)] [2] (sd [m 10 0,ln 11 10,m 3 11] [10,11] (sd [m 12 3,o 13 (.mk 13 1 24 [.nil] 12 12),m 4 13] [12,13] (s (sp [m 14 3,mv 15 k0] (b 0 (w I8.l1))) (sd [m 24 3,o 25 (.mk 25 3 56 z3 24 24),m 6 25] [14,15,16,24,25] (s (sp [m 26 3,mv 27 k0] (b 2 (w I8.l2))) (sd [m 63 4,m 2 63] [0,3,4,6,26,27,28,63] .ret))))))),[.tmp 2],false⟩
def PD.l1:=(sp [ls 10 9 8] (s (i 10 .skip (x 0)) (s (b 1 (sd [ia 11 3 7 9,tt 12 3 11,al 5 z3,so 3 5 12] [10,11,12] (e [tt 13 3 3,tt 14 3 5,ca 15 256 [14],ca 16 98 [13,15],so 3 3 16] (rl [5] 13 4)))) (d [ad 17 9 k1,m 9 17] [17]))))
def PD:AFn:=⟨1,(sp [al 2 z3] (sd [ca 6 96 [k0],al 3 z3,so 3 3 6] [6] (s (sd [m 7 0,ln 8 7,mv 9 k0] [0] (b 0 (w PD.l1))) (sd [tt 18 3 3,so 3 2 18] [3,7,8,9,10,18] .ret)))),[.cell 2 true 3],false⟩
def O9.l1:=(sp [ls 11 10 9] (s (i 11 .skip (x 0)) (s (b 1 (sd [ia 12 1 8 10,uu 13 1 12,m 6 13] [11,12,13] (sd [m 14 6,ca 15 300 [14],al 7 z3,so 3 7 15] [6,14,15] (se [tt 16 3 7,tt 17 3 7,ca 18 98 [16,17],tt 19 3 3,ca 20 198 [18,19],bi 21 .gtr 20 k0] (rl [7] 16 5) (i 21 (sd [mv 4 kf] [3,8,9,10,21] .ret) .skip))))) (d [ad 22 10 k1,m 10 22] [21,22]))))
def O9:AFn:=⟨2,(sd [bx 3 1,mv 4 kf] [1,4] (s (sd [m 8 0,ln 9 8,mv 10 k0] [0] (b 0 (w O9.l1))) (sd [mv 4 kt] (rl [3] 8 4) .ret))),[.tmp 4],false⟩
def KL.l1:=(sp [ls 16 15 14] (s (i 16 .skip (x 0)) (s (b 1 (sd [ia 17 1 13 15,uu 18 1 17,m 6 18] [16,17,18] (e [fa 19 4 0,q 20 [25] (.ld false 1 19),m 21 6,fa 22 4 1,tt 23 3 22,ca 24 296 [21,23],o 25 (.a7 25 1 [24]),o 26 (.app 26 1 24 20 25),fa 27 4 0,so 1 27 26] (rl [6] 19 9)))) (d [ad 28 15 k1,m 15 28] [28]))))
def KL.l2:=(s (sd [m 33 7,tt 34 3 8,ca 35 302 [33,34],nt 36 35] [33,34,35] (i 36 .skip (x 2))) (b 3 (s (sd [fa 37 4 4,uu 38 1 37,bi 39 .eql 38 (k 64)] [36,37,38] (i 39 (sd [o 40 (.build [.nil,(.bool false),.nil,.nil,z,(.bool false),.nil,.nil] []),so 8 2 40,mv 3 (k 14)] [4,7,8,39,40] .ret) .skip)) (se [m 41 7,ca 42 299 [41],tt 43 3 8,tt 44 3 8,ca 45 99 [43,44],m 7 42,so 3 8 45] (rl [39] 41 5) (d [fa 46 4 4,uu 47 1 46,bi 48 .mul 47 (k 2),fa 49 4 4,so 1 49 48] (ra 46 4))))))
def KL.l3:=(sp [ls 55 54 53] (s (i 55 .skip (x 4)) (s (b 5 (d [fa 56 4 5,tt 57 3 56,fa 58 4 1,tt 59 3 58,ca 60 99 [57,59],fa 61 4 5,so 3 61 60] (ra 55 7))) (d [ad 62 54 k1,m 54 62] [62]))))
def KL:AFn:=⟨1,(sd [al 2 [.nil,(.bool false),.nil,.nil,z,(.bool false),.nil,.nil],mv 3 k0] [3] (sd [m 9 0,ca 10 295 [9],ca 11 96 [k1],o 12 (.build [.nil,(.bool false),.nil,.nil,z,(.bool false),.nil,.nil] [(1,3,10),(4,1,k1),(5,3,11)]),al 4 [.nil,(.bool false),.nil,.nil,z,(.bool false),.nil,.nil],so 8 4 12] (ra 9 4) (s (sd [m 13 0,ln 14 13,mv 15 k0] [0] (b 0 (w KL.l1))) (se [fa 29 4 0,q 30 [8] (.ld false 1 29),fa 31 4 1,q 32 [8] (.ld true 3 31),al 8 z3,m 7 30,so 3 8 32] (rl [13,14,15,16] 29 4) (s (b 2 (w KL.l2)) (s (sd [fa 50 4 4,uu 51 1 50,bi 52 .mul (k 2) 51,sb 53 52 k1,mv 54 k0] [7,8,36,50,51,52] (b 4 (w KL.l3))) (sd [tt 63 8 4,so 8 2 63,mv 3 k0] [4,53,54,55,63] .ret))))))),[.cell 2 true 8,.tmp 3],false⟩
def O8.l1:=(sp [ls 14 13 12] (s (i 14 .skip (x 0)) (s (b 1 (sd [ia 15 1 11 13,uu 16 1 15,m 5 16] [14,15,16] (sd [m 17 5,ln 18 17,m 19 0,ln 20 19,bi 21 .neq 18 20] (rl [5] 17 4) (i 21 (sd [mv 2 k0,mv 3 (k 2)] [0,11,12,13,21] .ret) .skip)))) (d [ad 22 13 k1,m 13 22] [21,22]))))
def O8:AFn:=⟨1,(sd [mv 2 k0,mv 3 k0] [2,3] (s (sd [m 8 0,ln 9 8,bi 10 .gtr 9 (k 16)] [8,9] (i 10 (sd [mv 2 k0,mv 3 (k 2)] [0,10] .ret) .skip)) (s (sd [m 11 0,ln 12 11,mv 13 k0] [10] (b 0 (w O8.l1))) (sd [m 24 0,ca 25 303 [24],m 23 25,et 26 23 0,et 27 23 1,al 6 [.nil,(.bool false),.nil,.nil,z,(.bool false),.nil,.nil],so 8 6 26,m 7 27] (rl [0,11,12,13,14] 23 5) (sd [fa 28 6 4,uu 29 1 28,m 30 7,m 2 29,m 3 30] [6,7,28,29,30] .ret))))),[.tmp 2,.tmp 3],false⟩
structure v7 (L:Lib):Prop extends fw L where
 TS:L 294=some F.TS
 MJ:L 295=some F.MJ
 PC:L 296=some F.PC
 PA:L 297=some F.PA
 I8:L 299=some F.I8
 PD:L 300=some F.PD
 O9:L 302=some F.O9
 KL:L 303=some F.KL
 O8:L 306=some F.O8
def UD:AFn:=⟨1,(sd [bx 1 0,al 2 [(.bool false),.nil]] [0] (sd [fa 3 1 1,uu 4 1 3,ca 5 101 [4],o 6 (.build [(.bool false),.nil] [(1,1,5)]),so 2 2 6] [1,3,4,5,6] .ret)),[.cell 2 true 2],false⟩
def UP:AFn:=⟨1,(sd [bx 1 0,al 2 z3] [0] (sd [tt 3 3 1,ca 4 123 [3],so 3 1 4] [3,4] (sd [fa 5 1 0,tt 6 2 5,ca 7 308 [6],fa 8 1 0,so 2 8 7] (ra 5 4) (sd [tt 9 3 1,so 3 2 9] [1,9] .ret)))),[.cell 2 true 3],false⟩
def PY.l1:=(s (sd [m 4 3,m 5 0,ln 6 5,ls 7 4 6] [4,5,6] (i 7 .skip (x 0))) (s (b 1 (sd [m 10 0,m 11 3,ia 12 1 10 11,uu 13 1 12,ln 14 13,m 15 0,ln 16 15,bi 17 .neq 14 16] (rl [7] 10 7) (i 17 (sd [mv 2 kf] [0,3,17] .ret) .skip))) (d [m 8 3,ad 9 8 k1,m 3 9] [8,9,17])))
def PY:AFn:=⟨1,(sd [mv 2 kf] [2] (s (sp [mv 3 k0] (b 0 (w PY.l1))) (sd [m 18 0,ln 19 18,bi 20 .leq 19 (k 16),m 2 20] [0,3,7,18,19,20] .ret))),[.tmp 2],false⟩
def PX.l1:=(s (sd [m 6 4,m 7 0,ln 8 7,ls 9 6 8] [6,7,8] (i 9 .skip (x 0))) (s (b 1 (e [tt 12 3 3,m 13 0,m 14 4,ia 15 3 13 14,tt 16 3 15,ca 17 309 [16],ca 18 126 [12,17],so 3 3 18] (rl [9] 12 7))) (d [m 10 4,ad 11 10 k1,m 4 11] [10,11])))
def PX:AFn:=⟨1,(sp [al 2 z3] (sd [ca 5 124 [k0],al 3 z3,so 3 3 5] [5] (s (sp [mv 4 k0] (b 0 (w PX.l1))) (sd [tt 19 3 3,so 3 2 19] [0,3,4,9,19] .ret)))),[.cell 2 true 3],false⟩
def KQ.l3:=(s (sd [m 24 7,m 25 0,ln 26 25,ls 27 24 26] [24,25,26] (i 27 .skip (x 4))) (s (b 5 (e [tt 30 3 6,m 31 0,m 32 4,ia 33 1 31 32,uu 34 1 33,m 35 7,ia 36 3 34 35,tt 37 3 36,m 38 0,m 39 7,ia 40 1 38 39,uu 41 1 40,m 42 5,ia 43 3 41 42,tt 44 3 43,ca 45 128 [37,44],ca 46 126 [30,45],so 3 6 46] (rl [27] 30 17))) (d [m 28 7,ad 29 28 k1,m 7 29] [28,29])))
def KQ.l2:=(s (sd [m 17 5,m 18 0,ln 19 18,ls 20 17 19] [17,18,19] (i 20 .skip (x 2))) (s (b 3 (sd [ca 23 124 [k0],al 6 z3,so 3 6 23] [20,23] (s (sp [mv 7 k0] (b 4 (w KQ.l3))) (e [m 47 3,m 48 4,m 49 3,m 50 4,ia 51 1 49 50,q 52 [54] (.ld false 1 51),tt 53 3 6,o 54 (.a7 54 3 [53]),o 55 (.app 55 3 56 52 54),ia 56 1 47 48,so 1 56 55] (rl [6,7,27] 47 10))))) (d [m 21 5,ad 22 21 k1,m 5 22] [21,22])))
def KQ.l1:=(s (sd [m 11 4,m 12 0,ln 13 12,ls 14 11 13] [11,12,13] (i 14 .skip (x 0))) (s (b 1 (sd [mv 5 k0] [14] (b 2 (w KQ.l2)))) (d [m 15 4,ad 16 15 k1,m 4 16] [5,15,16,20])))
def KQ:AFn:=⟨1,(sd [mv 2 (.c .nil)] [2] (sd [m 8 0,ln 9 8,o 10 (.mk 10 1 24 [.nil] 9 9),m 3 10] [8,9,10] (s (sp [mv 4 k0] (b 0 (w KQ.l1))) (sd [m 57 3,m 2 57] [0,3,4,14,57] .ret)))),[.tmp 2],false⟩
def MS.l2:=(s (sd [m 14 6,m 15 0,ln 16 15,ls 17 14 16] [14,15,16] (i 17 .skip (x 2))) (s (b 3 (d [m 20 5,m 21 20,g 22 21 true (.m5 0),g 23 21 true (.m5 6),g 24 21 true (.u6 none 1 22 23),g 25 21 true (.ld false 1 24),g 26 21 true (.call 311 [25]),g 27 21 true (.call 125 [k1,(k 2)]),g 28 21 true (.call 127 [26,27]),g 29 21 true (.bin .leq 28 k0),pk 30 21 29 kf,m 5 30] (rl [17] 20 11))) (d [m 18 6,ad 19 18 k1,m 6 19] [18,19])))
def MS.l1:=(s (sd [m 10 4,bi 11 .leq 10 (k 64)] [10] (i 11 .skip (x 0))) (s (b 1 (sd [mv 5 kt] [11] (s (sp [mv 6 k0] (b 2 (w MS.l2))) (s (sd [m 31 5] [5,6,17] (i 31 (sd [m 32 4,m 2 32,mv 3 k0] [0,4,31,32] .ret) .skip)) (d [m 33 0,ca 34 313 [33],m 0 34] [31,33,34]))))) (d [m 12 4,bi 13 .mul (k 2) 12,m 4 13] [12,13])))
def MS:AFn:=⟨1,(sd [mv 2 k0,mv 3 k0] [2,3] (s (sd [m 7 0,ca 8 310 [7],nt 9 8] [7,8] (i 9 (sd [mv 2 k0,mv 3 (k 2)] [0,9] .ret) .skip)) (s (sd [mv 4 k1] [9] (b 0 (w MS.l1))) (sd [mv 2 k0,mv 3 (k 14)] [0,4,11] .ret)))),[.tmp 2,.tmp 3],false⟩
structure bn (L:Lib):Prop extends q8 L where
 UD:L 308=some F.UD
 UP:L 309=some F.UP
 PY:L 310=some F.PY
 PX:L 311=some F.PX
 KQ:L 313=some F.KQ
 MS:L 314=some F.MS
def VD:AFn:=⟨2,(sd [mv 4 (.c .nil)] [4] (s (sd [m 5 1,ls 6 5 k0] [5] (i 6 (d [o 7 (.bad),n (.bad)] [6,7]) .skip)) (s (sd [m 8 1,m 9 0,o 10 (.fx 9),m 11 0,ln 12 11,sb 13 10 12,sb 14 8 13,m 1 14] (rl [6] 8 7) (sd [m 15 1,bi 16 .gtr 15 k0] [15] (i 16 (d [m 17 0,m 18 0,o 19 (.fx 18),o 20 (.di 3 17 none (some 19)),m 21 1,o 22 (.pg 227022 3 56 20 21),m 23 0,ln 24 23,o 25 (.di 3 22 none (some 24)),m 0 25] (rl [1] 16 10)) .skip))) (sd [m 26 0,m 4 26] [0,1,16,26] .ret)))),[.tmp 4],false⟩
def MW.l1:=(sp [ls 12 11 10] (s (i 12 .skip (x 0)) (s (b 1 (sd [ia 13 1 9 11,uu 14 1 13,m 5 14] [12,13,14] (sd [m 15 3,m 16 5,ln 17 16,ad 18 15 17,m 3 18] (rl [5] 15 4) (sd [m 19 3,ls 20 19 k0] [19] (i 20 (d [o 21 (.bad),n (.bad)] [20,21]) .skip))))) (d [ad 22 11 k1,m 11 22] [20,22]))))
def MW.l2:=(sp [ls 28 27 26] (s (i 28 .skip (x 2)) (s (b 3 (sd [ia 29 1 25 27,uu 30 1 29,m 8 30] [28,29,30] (d [m 31 6,m 32 8,o 33 (.app 33 3 56 31 32),m 6 33] [8,31,32,33]))) (d [ad 34 27 k1,m 27 34] [34]))))
def MW:AFn:=⟨1,(sd [mv 2 (.c .nil)] [2] (sp [mv 3 k0] (s (sp [m 9 0,ln 10 9,mv 11 k0] (b 0 (w MW.l1))) (sd [m 23 3,o 24 (.c7 227 [(.c .nil),23]),m 6 24] [3,9,10,11,12,23,24] (s (sd [m 25 0,ln 26 25,mv 27 k0] [0] (b 2 (w MW.l2))) (sd [m 35 6,m 2 35] [6,25,26,27,28,35] .ret)))))),[.tmp 2],false⟩
def L2.l1:=(sp [ls 21 20 19] (s (i 21 .skip (x 0)) (s (b 1 (sd [ia 22 1 18 20,uu 23 1 22,m 5 23] [21,22,23] (sd [m 24 5,ln 25 24,m 26 3,bi 27 .neq 25 26] [5,24,25,26] (i 27 (sd [mv 2 kf] [3,18,19,20,27] .ret) .skip)))) (d [ad 28 20 k1,m 20 28] [27,28]))))
def L2:AFn:=⟨1,(sd [mv 2 kf] [2] (s (sd [m 6 0,ln 7 6,ls 8 7 k1,m 9 8,g 10 9 false (.m5 0),g 11 9 false (.len 10),g 12 9 false (.bin .gtr 11 (k 52)),pk 13 9 kt 12] (ra 6 7) (i 13 (sd [mv 2 kf] [0,13] .ret) .skip)) (sd [m 14 0,ia 15 1 14 k0,uu 16 1 15,ln 17 16,m 3 17] (ra 13 5) (s (sd [m 18 0,ln 19 18,mv 20 k0] [0] (b 0 (w L2.l1))) (sd [m 29 3,bi 30 .geq 29 k1,m 31 30,g 32 31 true (.m5 3),g 33 31 true (.bin .leq 32 (k 52)),pk 34 31 33 kf,m 2 34] (rl [3,18,19,20,21] 29 6) .ret))))),[.tmp 2],false⟩
def JT.l2:=(sp [ls 31 30 29] (s (i 31 .skip (x 2)) (s (b 3 (sd [ia 32 3 28 30,tt 33 3 32,o 10 (.alloc 231010 z3),so 3 10 33] [31,32,33] (sd [tt 34 3 8,tt 35 3 10,ca 36 99 [34,35],o 11 (.alloc 231011 z3),so 3 11 36] [10,34,35,36] (d [tt 37 3 8,fa 38 11 2,uu 39 1 38,o 40 (.build [(.bool false),.nil] [(1,1,39)]),o 41 (.a7 231041 1 [(.c (.int .u32 (1)))]),o 42 (.build z3 [(0,2,40),(2,1,41)]),ca 43 99 [37,42],so 3 8 43] (rl [11] 37 7))))) (d [ad 44 30 k1,m 30 44] [44]))))
def JT.l3:=(sp [ls 54 53 52] (s (i 54 .skip (x 4)) (s (b 5 (sd [m 55 53,ia 56 3 51 53,tt 57 3 56,o 13 (.alloc 231013 z3),m 12 55,so 3 13 57] (ra 54 4) (e [m 58 4,m 59 6,ia 60 1 58 59,uu 61 1 60,m 62 12,tt 63 3 13,tt 64 3 8,ca 65 99 [63,64],ia 66 3 61 62,so 3 66 65] (rl [12,13] 58 9)))) (d [ad 67 53 k1,m 53 67] [67]))))
def JT.l1:=(sp [ls 23 22 21] (s (i 23 .skip (x 0)) (s (b 1 (sd [m 24 22,ia 25 1 20 22,uu 26 1 25,m 6 24,m 7 26] (ra 23 4) (sd [ca 27 96 [k1],o 8 (.alloc 231008 z3),so 3 8 27] [27] (s (sp [m 28 7,ln 29 28,mv 30 k0] (b 2 (w JT.l2))) (sd [m 45 4,m 46 6,m 47 7,ln 48 47,o 49 (.mk 231049 3 56 z3 48 48),ia 50 1 45 46,so 1 50 49] (rl [28,29,30,31] 45 6) (s (sd [m 51 7,ln 52 51,mv 53 k0] [7] (b 4 (w JT.l3))) (d [m 68 5,m 69 6,tt 70 3 8,ia 71 3 68 69,so 3 71 70] (rl [6,8,51,52,53,54] 68 4)))))))) (d [ad 72 22 k1,m 22 72] [72]))))
def JT:AFn:=⟨1,(sd [mv 2 (.c .nil),mv 3 (.c .nil)] [2,3] (se [m 14 0,ln 15 14,o 16 (.mk 231016 1 24 [.nil] 15 15),m 17 0,ln 18 17,o 19 (.mk 231019 3 56 z3 18 18),m 4 16,m 5 19] (ra 14 6) (s (sd [m 20 0,ln 21 20,mv 22 k0] [0] (b 0 (w JT.l1))) (sd [m 73 4,m 74 5,m 2 73,m 3 74] [4,5,20,21,22,23,73,74] .ret)))),[.tmp 2,.tmp 3],false⟩
def OQ.l1:=(s (sd [m 21 10,m 22 0,ln 23 22,ls 24 21 23] [21,22,23] (i 24 .skip (x 0))) (s (b 1 (se [m 27 0,m 28 10,ia 29 3 27 28,q 30 [900011] (.ld true 3 29),q 31 [900011] (.ld true 3 8),q 32 [900011] (.call 99 [30,31]),m 33 1,m 34 10,ia 35 3 33 34,q 36 [900011] (.ld true 3 35),q 37 [900011] (.ld true 3 9),q 38 [900011] (.call 99 [36,37]),q 39 [900011] (.call 150 [32,38]),o 11 (.alloc 900011 z3),so 3 11 39] (rl [24] 27 13) (d [m 41 0,m 42 10,tt 43 3 11,tt 44 3 7,ca 45 100 [43,44],m 40 45,et 46 40 0,et 47 40 1,ia 48 3 41 42,so 3 48 46] (rl [11] 40 9)))) (d [m 25 10,ad 26 25 k1,m 10 26] [25,26])))
def OQ:AFn:=⟨4,(sd [o 7 (.box 900007 3)] [3] (se [m 12 1,m 13 2,ia 14 3 12 13,q 15 [900008,900009] (.ld true 3 14),m 16 0,m 17 2,ia 18 3 16 17,q 19 [900008,900009,900008] (.ld true 3 18),o 8 (.alloc 900008 z3),o 9 (.alloc 900009 z3),n (.pe 900008 3 8 15),so 3 9 19] (ra 12 8) (sd [m 20 2,m 10 20] [2,20] (b 0 (w OQ.l1))))),[],false⟩
def IR.l3:=(s (sd [m 24 11,m 25 0,ln 26 25,ls 27 24 26] [24,25,26] (i 27 .skip (x 4))) (s (b 5 (sd [m 30 0,m 31 11,ia 32 1 30 31,uu 33 1 32,m 34 8,ia 35 3 33 34,tt 36 3 35,ca 37 97 [36],bi 38 .neq 37 k0] (rl [27] 30 8) (i 38 (s (sd [m 39 11,m 40 7,bi 41 .neq 39 40] [38,39,40] (i 41 (se [m 42 0,m 43 11,m 44 0,m 45 7,m 46 0,m 47 7,ia 48 1 46 47,uu 49 1 48,m 50 0,m 51 11,ia 52 1 50 51,uu 53 1 52,ia 54 1 42 43,so 1 54 49,ia 55 1 44 45,so 1 55 53] (rl [11] 41 15) (d [m 56 9,nt 57 56,m 9 57] [56,57])) .skip)) (x 2)) .skip))) (d [m 28 11,ad 29 28 k1,m 11 29] [28,29,38])))
def IR.l2:=(s (sd [m 18 8,m 19 1,ls 20 18 19] [17,18,19] (i 20 .skip (x 2))) (s (b 3 (sd [m 23 7,m 11 23] [20,23] (b 4 (w IR.l3)))) (d [m 21 8,ad 22 21 k1,m 8 22] [11,21,22,27])))
def IR.l4:=(s (sd [m 63 12,m 64 0,ln 65 64,ls 66 63 65] [63,64,65] (i 66 .skip (x 6))) (s (b 7 (e [m 69 0,m 70 12,ia 71 1 69 70,uu 72 1 71,m 73 0,m 74 7,ia 75 1 73 74,uu 76 1 75,m 77 8,tt 78 3 10,o 79 (.c7 900 [72,76,77,78])] (rl [66] 69 11))) (d [m 67 12,ad 68 67 k1,m 12 68] [67,68])))
def IR.l1:=(s (sd [m 14 7,m 15 0,ln 16 15,ls 17 14 16] [14,15,16] (i 17 .skip (x 0))) (b 1 (.scope (s .skip (s (b 2 (w IR.l2)) (s (sd [m 58 8,m 59 1,bi 60 .geq 58 59] [11,20,41,58,59] (i 60 (x 0) .skip)) (s (sd [m 61 7,ad 62 61 k1,m 12 62] [60,61,62] (b 6 (w IR.l4))) (sd [m 80 0,m 81 7,ia 82 1 80 81,uu 83 1 82,m 84 8,ia 85 3 83 84,tt 86 3 85,so 3 10 86] (rl [12,66] 80 7) (sd [m 87 7,ad 88 87 k1,m 7 88] [87,88] (d [m 89 8,ad 90 89 k1,m 8 90] [89,90]))))))))))
def IR:AFn:=⟨2,(sd [mv 4 k0,o 5 (.alloc 233005 z3),mv 6 kf] [4,6] (sp [mv 7 k0,mv 8 k0,mv 9 kf] (sd [ca 13 96 [k1],o 10 (.alloc 233010 z3),so 3 10 13] [13] (s (b 0 (w IR.l1)) (se [m 91 7,tt 92 3 10,m 93 9,m 4 91,so 3 5 92,m 6 93] [0,1,7,8,9,10,17,60,91,92,93] .ret))))),[.tmp 4,.cell 5 true 3,.tmp 6],false⟩
def L3.l2:=(s (sd [m 32 10,m 33 0,ln 34 33,ls 35 32 34] [32,33,34] (i 35 .skip (x 2))) (s (b 3 (e [tt 38 3 9,m 39 0,m 40 8,ia 41 1 39 40,uu 42 1 41,m 43 10,ia 44 3 42 43,tt 45 3 44,m 46 7,m 47 10,ia 48 3 46 47,tt 49 3 48,ca 50 99 [45,49],ca 51 150 [38,50],so 3 9 51] (rl [35] 38 14))) (d [m 36 10,ad 37 36 k1,m 10 37] [36,37])))
def L3.l1:=(s (sd [m 17 8,bi 18 .geq 17 k0] [17] (i 18 .skip (x 0))) (s (b 1 (se [m 21 0,m 22 8,ia 23 1 21 22,q 24 [9] (.ld false 1 23),m 25 1,ia 26 3 24 25,q 27 [9] (.ld true 3 26),q 28 [9] (.ld true 3 5),q 29 [9] (.call 99 [27,28]),al 9 z3,so 3 9 29] (rl [18] 21 9) (s (sd [m 30 8,ad 31 30 k1,m 10 31] [30,31] (b 2 (w L3.l2))) (e [m 53 7,m 54 8,tt 55 3 9,m 56 0,m 57 8,ia 58 1 56 57,uu 59 1 58,m 60 8,ia 61 3 59 60,tt 62 3 61,ca 63 100 [55,62],m 52 63,et 64 52 0,et 65 52 1,ia 66 3 53 54,so 3 66 64] (rl [9,10,35] 52 15))))) (d [m 19 8,sb 20 19 k1,m 8 20] [19,20])))
def L3:AFn:=⟨3,(sd [bx 5 2,mv 6 (.c .nil)] [2,6] (sd [m 11 0,ln 12 11,o 13 (.mk 13 3 56 z3 12 12),m 7 13] [11,12,13] (s (sd [m 14 0,ln 15 14,sb 16 15 k1,m 8 16] [14,15,16] (b 0 (w L3.l1))) (sd [m 67 7,m 6 67] [0,1,5,7,8,18,67] .ret)))),[.tmp 6],false⟩
def I5.l1:=(sp [ls 26 25 24] (s (i 26 .skip (x 0)) (s (b 1 (sd [m 27 25,m 8 27] [26,27] (e [m 28 7,m 29 8,m 30 0,m 31 8,ia 32 1 30 31,uu 33 1 32,m 34 1,m 35 8,ia 36 1 34 35,uu 37 1 36,o 38 (.a7 38 1 [33,37]),ca 39 228 [38],ia 40 1 28 29,so 1 40 39] (rl [8] 28 13)))) (d [ad 41 25 k1,m 25 41] [41]))))
def I5.l2:=(sp [ls 62 61 60] (s (i 62 .skip (x 2)) (s (b 3 (sd [m 63 61,m 15 63] [62,63] (d [m 64 14,m 65 15,m 66 1,m 67 15,ia 68 1 66 67,uu 69 1 68,ln 70 69,o 71 (.mk 71 3 56 z3 70 70),ia 72 1 64 65,so 1 72 71] (rl [15] 64 9)))) (d [ad 73 61 k1,m 61 73] [73]))))
def I5.l4:=(sp [ls 89 88 87] (s (i 89 .skip (x 6)) (s (b 7 (sd [m 90 88,ia 91 3 86 88,tt 92 3 91,al 18 z3,m 17 90,so 3 18 92] (ra 89 4) (e [m 94 14,m 95 17,ia 96 1 94 95,uu 97 1 96,m 98 16,tt 99 3 18,tt 100 3 12,ca 101 100 [99,100],m 93 101,et 102 93 0,et 103 93 1,ia 104 3 97 98,so 3 104 102] (rl [17,18] 93 12)))) (d [ad 105 88 k1,m 88 105] [105]))))
def I5.l3:=(sp [ls 79 78 77] (s (i 79 .skip (x 4)) (s (b 5 (sd [m 80 78,m 16 80] [79,80] (sd [m 81 9,m 82 6,m 83 16,ad 84 82 83,tt 85 3 12,ca 86 234 [81,84,85],ln 87 86,mv 88 k0] (ra 81 5) (b 6 (w I5.l4))))) (d [ad 106 78 k1,m 78 106] [16,86,87,88,89,106]))))
def I5:AFn:=⟨2,(sd [mv 4 (.c .nil),mv 5 k0] [4,5] (sd [m 19 0,ln 20 19,m 6 20] [19,20] (sd [m 21 6,o 22 (.mk 22 1 24 [.nil] 21 21),m 7 22] [21,22] (s (sd [m 23 7,ln 24 23,mv 25 k0] [23] (b 0 (w I5.l1))) (sd [m 43 7,o 44 (.c7 231 [43]),m 42 44,et 45 42 0,et 46 42 1,m 9 45,m 10 46] (rl [0,7,10,24,25,26] 42 5) (sd [m 48 9,m 49 6,o 50 (.c7 233 [48,49]),m 47 50,et 51 47 0,et 52 47 1,et 53 47 2,al 12 z3,m 11 51,so 3 12 52,m 13 53] (rl [13] 47 7) (s (sd [m 54 11,m 55 6,ls 56 54 55] [11,54,55] (i 56 (sd [mv 4 (.c .nil),mv 5 (k 11)] [1,6,9,12,56] .ret) .skip)) (sd [m 57 6,o 58 (.mk 58 1 24 [.nil] 57 57),m 14 58] [56,57,58] (s (sd [m 59 14,ln 60 59,mv 61 k0] [59] (b 2 (w I5.l2))) (s (sd [m 74 1,ia 75 1 74 k0,uu 76 1 75,ln 77 76,mv 78 k0] [1,60,61,62,74,75,76] (b 4 (w I5.l3))) (sd [m 107 14,m 4 107,mv 5 k0] [6,9,12,14,77,78,79,107] .ret))))))))))),[.tmp 4,.tmp 5],false⟩
def L1.l1:=(sp [ls 36 35 34] (s (i 36 .skip (x 0)) (s (b 1 (sd [m 37 35,ia 38 3 33 35,tt 39 3 38,al 8 z3,m 7 37,so 3 8 39] (ra 36 4) (d [m 40 6,m 41 7,tt 42 3 8,o 43 (.a7 43 3 [42]),ia 44 1 40 41,so 1 44 43] (rl [7,8] 40 5)))) (d [ad 45 35 k1,m 35 45] [45]))))
def L1.l2:=(sp [ls 61 60 59] (s (i 61 .skip (x 2)) (s (b 3 (sd [m 62 60,m 12 62] [61,62] (d [m 63 11,m 64 12,m 65 9,m 66 12,ia 67 1 65 66,uu 68 1 67,ia 69 3 68 k0,tt 70 3 69,ia 71 3 63 64,so 3 71 70] (rl [12] 63 9)))) (d [ad 72 60 k1,m 60 72] [72]))))
def L1:AFn:=⟨2,(sd [mv 4 (.c .nil),mv 5 k0] [4,5] (s (sd [m 13 0,ca 14 229 [13],nt 15 14] [13,14] (i 15 (sd [mv 4 (.c .nil),mv 5 (k 2)] [0,1,15] .ret) .skip)) (s (sd [m 16 0,ia 17 1 16 k0,uu 18 1 17,ln 19 18,m 20 0,ln 21 20,bi 22 .neq 19 21,m 23 22,g 24 23 false (.m5 1),g 25 23 false (.len 24),g 26 23 false (.m5 0),g 27 23 false (.len 26),g 28 23 false (.bin .neq 25 27),pk 29 23 kt 28] (ra 15 14) (i 29 (sd [mv 4 (.c .nil),mv 5 k1] [0,1,29] .ret) .skip)) (sd [m 30 1,ln 31 30,o 32 (.mk 32 1 24 [.nil] 31 31),m 6 32] (ra 29 4) (s (sd [m 33 1,ln 34 33,mv 35 k0] [1] (b 0 (w L1.l1))) (sd [m 47 0,m 48 6,ca 49 235 [47,48],m 46 49,et 50 46 0,et 51 46 1,m 9 50,m 10 51] (rl [0,6,33,34,35,36] 46 6) (s (sd [m 52 10,bi 53 .neq 52 k0] [52] (i 53 (sd [m 54 10,mv 4 (.c .nil),m 5 54] [9,10,53,54] .ret) .skip)) (sd [m 55 9,ln 56 55,o 57 (.mk 57 3 56 z3 56 56),m 11 57] [10,53,55,56,57] (s (sd [m 58 9,ln 59 58,mv 60 k0] [58] (b 2 (w L1.l2))) (sd [m 73 11,m 4 73,mv 5 k0] [9,11,59,60,61,73] .ret)))))))))),[.tmp 4,.tmp 5],false⟩
structure u9 (L:Lib):Prop extends q9 L,q8 L where
 VD:L 227=some F.VD
 MW:L 228=some F.MW
 L2:L 229=some F.L2
 JT:L 231=some F.JT
 OQ:L 900=some F.OQ
 IR:L 233=some F.IR
 L3:L 234=some F.L3
 I5:L 235=some F.I5
 L1:L 237=some F.L1
def PQ.l1:=(sp [ls 30 29 28] (s (i 30 .skip (x 0)) (s (b 1 (sd [ia 31 1 27 29,uu 32 1 31,m 4 32] [30,31,32] (sd [m 33 4,ln 34 33,m 35 0,ia 36 1 35 k0,uu 37 1 36,ln 38 37,bi 39 .neq 34 38] (rl [4] 33 6) (i 39 (sd [mv 2 kf] [0,27,28,29,39] .ret) .skip)))) (d [ad 40 29 k1,m 29 40] [39,40]))))
def PQ:AFn:=⟨1,(sd [mv 2 kf] [2] (s (sd [m 5 0,ln 6 5,ls 7 6 k1,m 8 7,g 9 8 false (.m5 0),g 10 8 false (.len 9),g 11 8 false (.bin .gtr 10 (k 52)),pk 12 8 kt 11,m 13 12,g 14 13 false (.m5 0),g 15 13 false (.u6 none 1 14 k0),g 16 13 false (.ld false 1 15),g 17 13 false (.len 16),g 18 13 false (.bin .lss 17 k1),pk 19 13 kt 18,m 20 19,g 21 20 false (.m5 0),g 22 20 false (.u6 none 1 21 k0),g 23 20 false (.ld false 1 22),g 24 20 false (.len 23),g 25 20 false (.bin .gtr 24 (k 52)),pk 26 20 kt 25] (ra 5 21) (i 26 (sd [mv 2 kf] [0,26] .ret) .skip)) (s (sd [m 27 0,ln 28 27,mv 29 k0] [26] (b 0 (w PQ.l1))) (sd [mv 2 kt] (rl [0] 27 4) .ret)))),[.tmp 2],false⟩
structure jd (L:Lib):Prop extends k9 L where
 PQ:L 239=some F.PQ
end Go.c6.F

namespace Go.c6.F
open C
def UX:AFn:=⟨2,(sd [bx 2 0,bx 3 1,al 4 z3] [0,1] (sd [tt 8 3 2,tt 9 3 3,ca 10 154 [8,9],m 7 10,et 11 7 0,et 12 7 1,al 5 z3,so 3 5 11,m 6 12] (rl [2,3] 7 6) (s (sd [m 13 6,bi 14 .neq 13 k0] [6,13] (i 14 (sd [ca 15 124 [k0],so 3 4 15] [5,14,15] .ret) .skip)) (sd [tt 16 3 5,so 3 4 16] [5,14,16] .ret)))),[.cell 4 true 3],false⟩
def MR.l2:=(sp [ls 18 17 16] (s (i 18 .skip (x 2)) (s (b 3 (sd [ia 19 3 15 17,tt 20 3 19,o 8 (.alloc 277008 z3),so 3 8 20] [18,19,20] (d [m 21 6,tt 22 3 8,ca 23 123 [22],o 24 (.a7 277024 3 [23]),o 25 (.app 277025 3 56 21 24),m 6 25] (rl [8] 21 5)))) (d [ad 26 17 k1,m 17 26] [26]))))
def MR.l1:=(sp [ls 12 11 10] (s (i 12 .skip (x 0)) (s (b 1 (sd [ia 13 1 9 11,uu 14 1 13,m 5 14] [12,13,14] (sp [o 6 (.v5 277006 3)] (s (sd [m 15 5,ln 16 15,mv 17 k0] [5] (b 2 (w MR.l2))) (d [m 27 3,m 28 6,o 29 (.a7 277029 1 [28]),o 30 (.app 277030 1 24 27 29),m 3 30] (rl [6,15,16,17,18] 27 4)))))) (d [ad 31 11 k1,m 11 31] [31]))))
def MR:AFn:=⟨1,(sd [mv 2 (.c .nil)] [2] (sp [o 3 (.v5 277003 1)] (s (sd [m 9 0,ln 10 9,mv 11 k0] [0] (b 0 (w MR.l1))) (sd [m 32 3,m 2 32] [3,9,10,11,12,32] .ret)))),[.tmp 2],false⟩
namespace HT
def r0:=[mv 4 k0,o 5 (.alloc 901005 z3)]
def r1:=[ca 15 124 [k1],o 7 (.alloc 901007 z3),mv 6 k0,so 3 7 15]
def r2:=[mv 8 k0]
def r3:=[m 16 8,m 17 1,ls 18 16 17,m 19 18,g 20 19 true (.m5 6),g 21 19 true (.m5 0),g 22 19 true (.len 21),g 23 19 true (.bin .lss 20 22),
 pk 24 19 23 kf]
def r5:=[m 27 6,m 9 27]
def r6:=[m 28 9,m 29 0,ln 30 29,ls 31 28 30,m 32 31,g 33 32 true (.m5 0),g 34 32 true (.m5 9),g 35 32 true (.u6 none 1 33 34),
 g 36 32 true (.ld false 1 35),g 37 32 true (.m5 8),g 38 32 true (.u6 none 3 36 37),g 39 32 true (.ld true 3 38),g 40 32 true (.call 155 [39]),
 g 41 32 true (.bin .eql 40 k0),pk 42 32 41 kf]
def r7:=[m 43 9,ad 44 43 k1,m 9 44]
def r8:=[m 45 9,m 46 0,ln 47 46,bi 48 .eql 45 47]
def r9:=[m 49 9,m 50 6,bi 51 .neq 49 50]
def Q9:=[m 52 0,m 53 9,m 54 0,m 55 6,m 56 0,m 57 6,ia 58 1 56 57,uu 59 1 58,m 60 0,m 61 9,ia 62 1 60 61,
 uu 63 1 62,ia 64 1 52 53,so 1 64 59,ia 65 1 54 55,so 1 65 63]
def RA:=[tt 66 3 7,ca 67 152 [66],so 3 7 67]
def zs:=[m 68 0,m 69 6,ia 70 1 68 69,uu 71 1 70,m 72 8,ia 73 3 71 72,tt 74 3 73,
 o 10 (.alloc 901010 z3),so 3 10 74]
def W6:=[tt 75 3 7,tt 76 3 10,ca 77 128 [75,76],so 3 7 77]
def Co:=[m 78 0,m 79 6,ia 80 1 78 79,uu 81 1 80,ln 82 81,mv 83 k0]
def Cp:=[ls 84 83 82]
def Cq:=[m 85 83,m 11 85]
def W7:=[m 86 0,m 87 6,ia 88 1 86 87,uu 89 1 88,m 90 11,m 91 0,m 92 6,ia 93 1 91 92,uu 94 1 93,m 95 11,
 ia 96 3 94 95,tt 97 3 96,tt 98 3 10,ca 99 276 [97,98],ia 100 3 89 90,so 3 100 99]
def zt:=[ad 101 83 k1,m 83 101]
def En:=[m 102 0,ln 103 102,mv 104 k0]
def Fv:=[ls 105 104 103]
def Fw:=[m 106 104,m 12 106]
def Fx:=[m 107 0,m 108 12,ia 109 1 107 108,uu 110 1 109,m 111 8,ia 112 3 110 111,tt 113 3 112,
 o 13 (.alloc 901013 z3),so 3 13 113]
def Fy:=[m 114 12,m 115 6,bi 116 .eql 114 115,m 117 116,g 118 117 false (.ld true 3 13),g 119 117 false (.call 155 [118]),
 g 120 117 false (.bin .eql 119 k0),pk 121 117 kt 120]
def bG:=[m 122 0,m 123 12,ia 124 1 122 123,uu 125 1 124,ln 126 125,mv 127 k0]
def bH:=[ls 128 127 126]
def bI:=[m 129 127,m 14 129]
def bJ:=[m 130 0,m 131 12,ia 132 1 130 131,uu 133 1 132,m 134 14,m 135 0,m 136 12,ia 137 1 135 136,uu 138 1 137,
 m 139 14,ia 140 3 138 139,tt 141 3 140,tt 142 3 13,m 143 0,m 144 6,ia 145 1 143 144,uu 146 1 145,
 m 147 14,ia 148 3 146 147,tt 149 3 148,ca 150 128 [142,149],ca 151 153 [141,150],ia 152 3 133 134,
 so 3 152 151]
def bK:=[ad 153 127 k1,m 127 153]
def bL:=[ad 154 104 k1,m 104 154]
def Eo:=[m 155 6,ad 156 155 k1,m 6 156]
def r4:=[m 25 8,ad 26 25 k1,m 8 26]
def Fz:=[m 157 6,tt 158 3 7,m 4 157,so 3 5 158]
def l2:=(s (sd r6 (ra 28 14) (i 42 .skip (x 2))) (b 3 (d r7 [42,43,44])))
def l3:=(sp Cp (s (i 84 .skip (x 4)) (s (b 5 (sd Cq [84,85] (e W7 (rl [11] 86 15)))) (d zt [101]))))
def l5:=(sp bH (s (i 128 .skip (x 8)) (s (b 9 (sd bI [128,129] (e bJ (rl [14] 130 23)))) (d bK [153]))))
def l4:=(sp Fv (s (i 105 .skip (x 6)) (s (b 7 (sd Fw [105,106] (sd Fx (ra 107 7) (s (sd Fy (ra 114 7) (i 121 (x 7) .skip)) (sd bG (ra 121 5) (b 8 (w l5))))))) (d bL [12,13,121,126,127,128,154]))))
def l1:=(s (sd r3 (ra 16 8) (i 24 .skip (x 0))) (s (b 1 (sd r5 [24,27] (s (b 2 (w l2)) (s (sd r8 [42,45,46,47] (i 48 (x 1) .skip)) (s (sd r9 [48,49,50] (i 51 (se Q9 (rl [9] 51 15) (d RA [66,67])) .skip)) (sd zs (rl [9,51] 68 7) (sd W6 [75,76,77] (s (sd Co (ra 78 4) (b 4 (w l3))) (s (sd En [10,82,83,84,102] (b 6 (w l4))) (d Eo [103,104,105,155,156])))))))))) (d r4 [9,25,26,48])))
def c:=(sd r0 [4] (sd r1 [15] (s (sp r2 (b 0 (w l1))) (se Fz [0,1,6,7,8,24,157,158] .ret))))
end HT
def HT:AFn:=⟨2,HT.c,[.tmp 4,.cell 5 true 3],false⟩
def KO.l1:=(sp [ls 20 19 18] (s (i 20 .skip (x 0)) (s (b 1 (sd [m 21 19,m 7 21] [20,21] (e [m 22 6,m 23 7,m 24 6,m 25 7,ia 26 1 24 25,uu 27 1 26,m 28 1,m 29 7,ia 30 1 28 29,uu 31 1 30,o 32 (.app 32 3 56 27 31),ia 33 1 22 23,so 1 33 32] (rl [7] 22 12)))) (d [ad 34 19 k1,m 19 34] [34]))))
def KO.l3:=(sp [ls 60 59 58] (s (i 60 .skip (x 4)) (s (b 5 (sd [ia 61 3 57 59,tt 62 3 61,al 14 z3,so 3 14 62] [60,61,62] (d [m 63 12,tt 64 3 14,ca 65 123 [64],o 66 (.a7 66 3 [65]),o 67 (.app 67 3 56 63 66),m 12 67] (rl [14] 63 5)))) (d [ad 68 59 k1,m 59 68] [68]))))
def KO.l2:=(sp [ls 49 48 47] (s (i 49 .skip (x 2)) (s (b 3 (sd [m 50 48,m 11 50] [49,50] (sp [o 12 (.v5 12 3)] (s (sd [m 51 6,m 52 11,ia 53 1 51 52,uu 54 1 53,m 55 0,ln 56 55,o 57 (.di 3 54 (some 56) none),ln 58 57,mv 59 k0] (rl [11] 51 6) (b 4 (w KO.l3))) (d [m 69 10,m 70 12,o 71 (.a7 71 1 [70]),o 72 (.app 72 1 24 69 71),m 10 72] (rl [12,57,58,59,60] 69 4)))))) (d [ad 73 48 k1,m 48 73] [73]))))
def KO:AFn:=⟨2,(sd [mv 4 (.c .nil),mv 5 k0] [4,5] (sd [m 15 0,o 16 (.c7 277 [15]),m 6 16] [15,16] (s (sd [m 17 6,ln 18 17,mv 19 k0] [17] (b 0 (w KO.l1))) (s (sd [m 36 6,m 37 0,ln 38 37,o 39 (.c7 901 [36,38]),m 35 39,et 40 35 0,et 41 35 1,al 9 z3,m 8 40,so 3 9 41] (rl [1,9,18,19,20] 35 7) (sd [m 42 8,m 43 0,ln 44 43,ls 45 42 44] [8,42,43,44] (i 45 (sd [mv 4 (.c .nil),mv 5 (k 11)] [0,6,45] .ret) .skip))) (sd [o 10 (.v5 10 1)] [45] (s (sd [m 46 6,ln 47 46,mv 48 k0] [46] (b 2 (w KO.l2))) (sd [m 74 10,m 4 74,mv 5 k0] [0,6,10,47,48,49,74] .ret))))))),[.tmp 4,.tmp 5],false⟩
structure aj (L:Lib):Prop extends jd L where
 UX:L 276=some F.UX
 MR:L 277=some F.MR
 HT:L 901=some F.HT
 KO:L 278=some F.KO
end Go.c6.F

namespace Go.c6.F
open C
def VQ:AFn:=⟨2,(sd [mv 4 k0] [4] (s (sd [m 5 1,ls 6 5 k1] [5] (i 6 (sd [mv 4 k0] [0,1,6] .ret) .skip)) (sd [m 7 0,m 8 1,bi 9 .rem 7 8,m 0 9] (ra 6 4) (s (sd [m 10 0,ls 11 10 k0] [10] (i 11 (d [m 12 0,m 13 1,ad 14 12 13,m 0 14] (rl [1] 11 4)) .skip)) (sd [m 15 0,m 4 15] [0,1,11,15] .ret))))),[.tmp 4],false⟩
def VN:AFn:=⟨2,(sd [mv 4 k0] [4] (s (sd [m 5 1,bi 6 .geq 5 k0,m 7 6,g 8 7 true (.m5 1),g 9 7 true (.m5 0),g 10 7 true (.len 9),g 11 7 true (.bin .lss 8 10),pk 12 7 11 kf] (ra 5 7) (i 12 (sd [m 13 0,m 14 1,ia 15 1 13 14,uu 16 1 15,m 4 16] (rl [0,1] 12 5) .ret) .skip)) (sd [mv 4 k0] [0,1,12] .ret))),[.tmp 4],false⟩
def VR:AFn:=⟨4,(sp [al 8 [z,z,z,z]] (sd [m 10 0,ca 11 34 [10,(k 1099511627776)],m 0 11] [10,11] (sd [m 12 1,m 13 0,m 14 2,m 15 1,sb 16 14 15,ad 17 16 k1,bi 18 .rem 13 17,ad 19 12 18,o 20 (.build [z,z,z,z] [(0,1,19)]),al 9 [z,z,z,z],so 4 9 20] (ra 12 9) (sd [m 21 0,m 22 2,m 23 1,sb 24 22 23,ad 25 24 k1,bi 26 .quo 21 25,m 0 26] (rl [1,2] 21 6) (sd [fa 27 9 0,uu 28 1 27,sb 29 28 k1,m 30 3,sb 31 29 30,m 32 0,bi 33 .rem 32 (k 2),sb 34 31 33,fa 35 9 1,so 1 35 34] (rl [3] 27 9) (sd [m 36 0,bi 37 .quo 36 (k 2),m 0 37] [36,37] (sd [fa 38 9 1,uu 39 1 38,o 40 (.mm true [39,k0]),fa 41 9 1,so 1 41 40] (ra 38 4) (sd [m 42 0,bi 43 .rem 42 (k 3),ad 44 k1 43,m 45 0,bi 46 .quo 45 (k 3),bi 47 .rem 46 (k 2),ad 48 k1 47,fa 49 9 2,so 1 49 44,fa 50 9 3,so 1 50 48] (rl [0] 42 9) (sd [tt 51 4 9,so 4 8 51] [9,51] .ret))))))))),[.cell 8 true 4],false⟩
def P8.l1:=(s (sd [m 9 8,m 10 2,ls 11 9 10] [9,10] (i 11 .skip (x 0))) (s (b 1 (d [m 14 7,m 15 1,m 16 8,ca 17 35 [15,16],m 18 0,ad 19 17 18,m 20 0,bi 21 .mul (k 2) 20,ad 22 21 k1,ca 23 34 [19,22],m 24 0,sb 25 23 24,o 26 (.a7 26 1 [25]),o 27 (.app 27 1 8 14 26),m 7 27] (rl [11] 14 14))) (d [m 12 8,ad 13 12 k1,m 8 13] [12,13])))
def P8:AFn:=⟨3,(sd [mv 6 (.c .nil)] [6] (sp [o 7 (.v5 7 1)] (s (sp [mv 8 k0] (b 0 (w P8.l1))) (sd [m 28 7,m 6 28] [0,1,2,7,8,11,28] .ret)))),[.tmp 6],false⟩
def VP:AFn:=⟨1,(sd [bx 1 0,mv 2 k0] [0,2] (sd [fa 3 1 1,uu 4 1 3,cu 5 4,bi 6 .shl k1 5,m 2 6] [1,3,4,5,6] .ret)),[.tmp 2],false⟩
structure u5 (L:Lib):Prop extends e8 L where
 VQ:L 34=some F.VQ
 VN:L 35=some F.VN
 VR:L 36=some F.VR
 P8:L 40=some F.P8
 VP:L 41=some F.VP
structure nw (L:Lib):Prop extends u5 L,a6 L where
structure nq (L:Lib):Prop extends nw L where
def MQ.l1:=(sp [ls 36 35 34] (s (i 36 .skip (x 1)) (s (b 2 (sd [ia 37 3 33 35,tt 38 3 37,al 8 z3,so 3 8 38] [36,37,38] (d [m 39 6,tt 40 3 8,o 41 (.a7 41 3 [40]),o 42 (.a7 42 1 [41]),o 43 (.app 43 1 24 39 42),m 6 43] (rl [8] 39 5)))) (d [ad 44 35 k1,m 35 44] [44]))))
def MQ.l2:=(sp [ls 54 53 52] (s (i 54 .skip (x 3)) (s (b 4 (sd [ia 55 1 51 53,uu 56 1 55,m 13 56] [54,55,56] (d [m 57 11,m 58 13,ia 59 3 58 k0,tt 60 3 59,o 61 (.a7 61 3 [60]),o 62 (.app 62 3 56 57 61),m 11 62] (rl [13] 57 6)))) (d [ad 63 53 k1,m 53 63] [63]))))
def MQ:AFn:=⟨2,(sd [mv 4 (.c .nil),mv 5 k0] [4,5] (s (b 0 (sd [m 15 0,ca 16 239 [15],nt 17 16,m 14 17] [15,16,17] (i 14 (sd [mv 4 (.c .nil),mv 5 (k 2)] [0,1,14] .ret) (sd [m 19 0,ln 20 19,m 21 0,ia 22 1 21 k0,uu 23 1 22,ln 24 23,bi 25 .neq 20 24,m 26 25,g 27 26 false (.m5 1),g 28 26 false (.len 27),g 29 26 false (.m5 0),g 30 26 false (.len 29),g 31 26 false (.bin .neq 28 30),pk 32 26 kt 31,m 18 32] (rl [14] 19 14) (i 18 (sd [mv 4 (.c .nil),mv 5 k1] [0,1,18] .ret) .skip))))) (sd [o 6 (.v5 6 1)] [18] (s (sd [m 33 1,ln 34 33,mv 35 k0] [1] (b 1 (w MQ.l1))) (sd [m 46 0,m 47 6,ca 48 278 [46,47],m 45 48,et 49 45 0,et 50 45 1,m 9 49,m 10 50] (rl [0,6,33,34,35,36] 45 6) (sp [o 11 (.v5 11 3)] (s (sd [m 51 9,ln 52 51,mv 53 k0] [9] (b 3 (w MQ.l2))) (sd [m 64 11,m 65 10,m 4 64,m 5 65] [10,11,51,52,53,54,64,65] .ret)))))))),[.tmp 4,.tmp 5],false⟩
structure vo (L:Lib):Prop extends aj L where
 MQ:L 327=some F.MQ
def MI.l2:=(s (sd [m 13 5,fa 14 1 0,uu 15 1 14,ln 16 15,ls 17 13 16] (ra 13 4) (i 17 .skip (x 2))) (s (b 3 (d [m 20 3,m 21 4,m 22 5,o 23 (.build [z,z] [(0,1,21),(1,1,22)]),o 24 (.a7 24 2 [23]),o 25 (.app 25 2 16 20 24),m 3 25] (rl [17] 20 6))) (d [m 18 5,ad 19 18 k1,m 5 19] [18,19])))
def MI.l1:=(sp [ls 10 9 8] (s (i 10 .skip (x 0)) (s (b 1 (sd [m 11 9,m 4 11] [10,11] (sd [m 12 4,m 5 12] [12] (b 2 (w MI.l2))))) (d [ad 26 9 k1,m 9 26] [4,5,17,26]))))
def MI:AFn:=⟨1,(sd [bx 1 0,mv 2 (.c .nil)] [0,2] (sp [o 3 (.v5 3 2)] (s (sd [fa 6 1 0,uu 7 1 6,ln 8 7,mv 9 k0] [6,7] (b 0 (w MI.l1))) (sd [m 27 3,m 2 27] [1,3,8,9,10,27] .ret)))),[.tmp 2],false⟩
def O6.l1:=(sp [ls 14 13 12] (s (i 14 .skip (x 0)) (s (b 1 (sd [ia 15 2 11 13,tt 16 2 15,al 8 [z,z],so 2 8 16] [14,15,16] (se [fa 17 2 0,q 18 [9] (.ld false 1 17),fa 19 3 0,q 20 [9] (.ld false 1 19),ia 21 1 18 20,q 22 [9] (.ld false 1 21),fa 23 8 0,q 24 [9] (.ld false 1 23),ia 25 3 22 24,q 26 [9] (.ld true 3 25),fa 27 2 0,q 28 [9] (.ld false 1 27),fa 29 3 1,q 30 [9] (.ld false 1 29),ia 31 1 28 30,q 32 [9] (.ld false 1 31),fa 33 8 1,q 34 [9] (.ld false 1 33),ia 35 3 32 34,q 36 [9] (.ld true 3 35),q 37 [9] (.call 99 [26,36]),q 38 [9] (.call 199 [37]),al 9 z3,so 3 9 38] (ra 17 22) (s (sd [fa 39 8 0,uu 40 1 39,fa 41 8 1,uu 42 1 41,bi 43 .neq 40 42] (ra 39 4) (i 43 (e [tt 44 3 9,fa 45 2 0,uu 46 1 45,fa 47 3 0,uu 48 1 47,ia 49 1 46 48,uu 50 1 49,fa 51 8 1,uu 52 1 51,ia 53 3 50 52,tt 54 3 53,fa 55 2 0,uu 56 1 55,fa 57 3 1,uu 58 1 57,ia 59 1 56 58,uu 60 1 59,fa 61 8 0,uu 62 1 61,ia 63 3 60 62,tt 64 3 63,ca 65 99 [54,64],ca 66 150 [44,65],so 3 9 66] (ra 43 24)) .skip)) (s (sd [tt 67 2 8,tt 68 2 3,o 69 (.tk false 2 67 68)] [8,43,67,68] (i 69 (e [tt 70 3 9,ca 71 96 [k1],ca 72 98 [70,71],so 3 9 72] (ra 69 4)) .skip)) (d [m 73 6,tt 74 3 9,o 75 (.a7 75 3 [74]),o 76 (.app 76 3 56 73 75),m 6 76] (rl [9,69] 73 4))))))) (d [ad 77 13 k1,m 13 77] [77]))))
def O6:AFn:=⟨2,(sd [bx 2 0,bx 3 1,mv 4 (.c .nil),al 5 z3] [0,1,4] (sp [o 6 (.v5 6 3)] (s (sd [tt 10 2 2,ca 11 321 [10],ln 12 11,mv 13 k0] [10] (b 0 (w O6.l1))) (se [m 78 6,fa 79 2 1,uu 80 1 79,fa 81 3 0,uu 82 1 81,ia 83 3 80 82,tt 84 3 83,fa 85 2 1,uu 86 1 85,fa 87 3 1,uu 88 1 87,ia 89 3 86 88,tt 90 3 89,ca 91 99 [84,90],m 4 78,so 3 5 91] (rl [2,3,6,11,12,13,14] 78 14) .ret)))),[.tmp 4,.cell 5 true 3],false⟩
def KJ.l1:=(sp [ls 25 24 23] (s (i 25 .skip (x 0)) (s (b 1 (sd [m 26 24,m 5 26] [25,26] (d [m 27 4,m 28 5,fa 29 1 0,uu 30 1 29,ln 31 30,o 32 (.mk 32 3 56 z3 31 31),ia 33 1 27 28,so 1 33 32] (rl [5] 27 7)))) (d [ad 34 24 k1,m 24 34] [34]))))
def KJ.l2:=(sp [ls 46 45 44] (s (i 46 .skip (x 2)) (s (b 3 (sd [ia 47 2 43 45,tt 48 2 47,al 11 [z,z],so 2 11 48] [46,47,48] (sd [m 50 7,tt 51 2 11,o 52 (.m9 50 [51]),m 49 52,et 53 49 0,et 54 49 1,al 13 z3,m 12 53,so 3 13 54] (rl [11] 49 6) (sd [m 55 8,m 56 12,o 57 (.a7 57 1 [56]),o 58 (.app 58 1 24 55 57),m 8 58] (rl [12] 55 4) (d [m 59 9,tt 60 3 13,o 61 (.a7 61 3 [60]),o 62 (.app 62 3 56 59 61),m 9 62] (rl [13] 59 4)))))) (d [ad 63 45 k1,m 45 63] [63]))))
def KJ.l3:=(sp [ls 76 75 74] (s (i 76 .skip (x 4)) (s (b 5 (sd [m 77 75,ia 78 2 73 75,tt 79 2 78,al 17 [z,z],m 16 77,so 2 17 79] (ra 76 4) (se [m 80 4,fa 81 17 0,uu 82 1 81,ia 83 1 80 82,uu 84 1 83,fa 85 17 1,uu 86 1 85,m 87 14,m 88 16,ia 89 3 87 88,tt 90 3 89,ca 91 95 [90],ia 92 3 84 86,so 3 92 91] (ra 80 13) (e [m 93 4,fa 94 17 1,uu 95 1 94,ia 96 1 93 95,uu 97 1 96,fa 98 17 0,uu 99 1 98,m 100 14,m 101 16,ia 102 3 100 101,tt 103 3 102,ca 104 95 [103],ia 105 3 97 99,so 3 105 104] (rl [16,17] 93 13))))) (d [ad 106 75 k1,m 75 106] [106]))))
def KJ:AFn:=⟨1,(sd [bx 1 0,mv 2 (.c .nil),mv 3 k0] [0,2,3] (sd [fa 18 1 0,uu 19 1 18,ln 20 19,o 21 (.mk 21 1 24 [.nil] 20 20),m 4 21] (ra 18 4) (s (sd [m 22 4,ln 23 22,mv 24 k0] [22] (b 0 (w KJ.l1))) (sd [tt 35 2 1,ca 36 321 [35],m 6 36] [23,24,25,35,36] (s (sd [m 37 6,ln 38 37,bi 39 .eql 38 k0] [37,38] (i 39 (sd [m 40 4,m 2 40,mv 3 k0] [1,4,6,39,40] .ret) .skip)) (sd [tt 41 2 1,o 42 (.ti 322 41),m 7 42] [1,39,41,42] (sp [o 8 (.v5 8 1)] (sp [o 9 (.v5 9 3)] (s (sp [m 43 6,ln 44 43,mv 45 k0] (b 2 (w KJ.l2))) (sd [m 65 8,m 66 9,ca 67 237 [65,66],m 64 67,et 68 64 0,et 69 64 1,m 14 68,m 15 69] (rl [7,8,9,43,44,45,46] 64 6) (s (sd [m 70 15,bi 71 .neq 70 k0] [70] (i 71 (sd [m 72 15,mv 2 (.c .nil),m 3 72] [4,6,14,15,71,72] .ret) .skip)) (s (sd [m 73 6,ln 74 73,mv 75 k0] [6,15,71] (b 4 (w KJ.l3))) (sd [m 107 4,m 2 107,mv 3 k0] [4,14,73,74,75,76,107] .ret))))))))))))),[.tmp 2,.tmp 3],false⟩
def O4.l1:=(sp [ls 23 22 21] (s (i 23 .skip (x 0)) (s (b 1 (sd [ia 24 1 20 22,uu 25 1 24,m 7 25] [23,24,25] (sd [m 26 7,ln 27 26,m 28 0,ln 29 28,bi 30 .neq 27 29] (rl [7] 26 4) (i 30 (sd [mv 4 (.c .nil),mv 5 (k 2)] [0,1,20,21,22,30] .ret) .skip)))) (d [ad 31 22 k1,m 22 31] [30,31]))))
def O4:AFn:=⟨2,(sd [mv 4 (.c .nil),mv 5 k0] [4,5] (s (sd [m 10 0,ln 11 10,bi 12 .gtr 11 (k 8),m 13 12,g 14 13 false (.m5 1),g 15 13 false (.len 14),g 16 13 false (.m5 0),g 17 13 false (.len 16),g 18 13 false (.bin .neq 15 17),pk 19 13 kt 18] (ra 10 9) (i 19 (sd [mv 4 (.c .nil),mv 5 (k 2)] [0,1,19] .ret) .skip)) (s (sd [m 20 0,ln 21 20,mv 22 k0] [19] (b 0 (w O4.l1))) (s (sd [m 33 0,ca 34 306 [33],m 32 34,et 35 32 0,et 36 32 1,m 8 35,m 9 36] (rl [8,20,21,22,23] 32 5) (sd [m 37 9,bi 38 .neq 37 k0] [37] (i 38 (sd [m 39 9,mv 4 (.c .nil),m 5 39] [0,1,9,38,39] .ret) .skip))) (sd [m 40 0,m 41 1,o 42 (.build [.nil,.nil] [(0,1,40),(1,1,41)]),ca 43 323 [42],et 44 43 0,et 45 43 1,m 4 44,m 5 45] (rl [0,1,9,38] 40 6) .ret))))),[.tmp 4,.tmp 5],false⟩
def KR:AFn:=⟨3,(sd [mv 6 k0] [6] (sd [m 7 0,m 8 2,bi 9 .mul 7 8,m 10 0,m 11 0,sb 12 11 k1,bi 13 .mul 10 12,bi 14 .quo 13 (k 2),sb 15 9 14,m 16 1,ad 17 15 16,m 18 0,sb 19 17 18,m 6 19] (rl [0,1,2] 7 13) .ret)),[.tmp 6],false⟩
def HG.l4:=(s (sd [m 71 15,m 72 6,ls 73 71 72] [71,72] (i 73 .skip (x 6))) (s (b 7 (sd [m 76 14,m 77 15,o 78 (.mm false [76,77]),m 79 14,m 80 15,o 81 (.mm true [79,80]),m 82 6,ca 83 325 [78,81,82],m 16 83] (rl [73] 76 8) (e [m 84 13,m 85 16,m 86 13,m 87 16,ia 88 3 86 87,tt 89 3 88,m 90 0,m 91 11,ia 92 1 90 91,uu 93 1 92,m 94 14,ia 95 3 93 94,tt 96 3 95,m 97 0,m 98 12,ia 99 1 97 98,uu 100 1 99,m 101 15,ia 102 3 100 101,tt 103 3 102,ca 104 128 [96,103],ca 105 153 [89,104],ia 106 3 84 85,so 3 106 105] (rl [16] 84 23)))) (d [m 74 15,ad 75 74 k1,m 15 75] [74,75])))
def HG.l3:=(s (sd [m 66 14,m 67 6,ls 68 66 67] [66,67] (i 68 .skip (x 4))) (s (b 5 (sd [mv 15 k0] [68] (b 6 (w HG.l4)))) (d [m 69 14,ad 70 69 k1,m 14 70] [15,69,70,73])))
def HG.l2:=(s (sd [m 48 12,m 49 6,ls 50 48 49] [48,49] (i 50 .skip (x 2))) (s (b 3 (sd [m 53 6,m 54 6,ad 55 54 k1,bi 56 .mul 53 55,bi 57 .quo 56 (k 2),o 58 (.mk 58 3 56 z3 57 57),m 13 58] (rl [50] 53 6) (sd [m 59 13,m 60 11,m 61 12,m 62 6,ca 63 325 [60,61,62],ca 64 124 [k1],ia 65 3 59 63,so 3 65 64] (ra 59 7) (s (sp [mv 14 k0] (b 4 (w HG.l3))) (e [m 107 9,m 108 13,o 109 (.a7 109 1 [108]),o 110 (.app 110 1 24 107 109),m 111 10,m 112 1,m 113 11,ia 114 3 112 113,o 115 (.vm true 3 114),m 116 1,m 117 12,ia 118 3 116 117,o 119 (.vm true 3 118),ca 120 128 [115,119],o 121 (.a7 121 3 [120]),o 122 (.app 122 3 56 111 121),m 9 110,m 10 122] (rl [13,14,68] 107 16)))))) (d [m 51 12,ad 52 51 k1,m 12 52] [51,52])))
def HG.l1:=(s (sd [m 42 11,m 43 6,ls 44 42 43] [42,43] (i 44 .skip (x 0))) (s (b 1 (sd [m 47 11,m 12 47] [44,47] (b 2 (w HG.l2)))) (d [m 45 11,ad 46 45 k1,m 11 46] [12,45,46,50])))
def HG.l6:=(s (sd [m 139 21,m 140 6,ls 141 139 140] [139,140] (i 141 .skip (x 10))) (s (b 11 (e [m 144 19,m 145 20,m 146 19,m 147 20,ia 148 1 146 147,q 149 [161] (.ld false 1 148),m 150 17,m 151 20,m 152 21,o 153 (.mm false [151,152]),m 154 20,m 155 21,o 156 (.mm true [154,155]),m 157 6,ca 158 325 [153,156,157],ia 159 3 150 158,tt 160 3 159,o 161 (.a7 161 3 [160]),o 162 (.app 162 3 56 149 161),ia 163 1 144 145,so 1 163 162] (rl [141] 144 20))) (d [m 142 21,ad 143 142 k1,m 21 143] [142,143])))
def HG.l5:=(s (sd [m 134 20,m 135 6,ls 136 134 135] [134,135] (i 136 .skip (x 8))) (s (b 9 (sd [mv 21 k0] [136] (b 10 (w HG.l6)))) (d [m 137 20,ad 138 137 k1,m 20 138] [21,137,138,141])))
def HG:AFn:=⟨2,(sd [mv 4 (.c .nil),mv 5 k0] [4,5] (sd [m 22 0,ln 23 22,m 6 23] [22,23] (s (sd [m 24 6,bi 25 .gtr 24 (k 8),m 26 25,g 27 26 false (.m5 1),g 28 26 false (.len 27),g 29 26 false (.m5 6),g 30 26 false (.bin .neq 28 29),pk 31 26 kt 30] (ra 24 7) (i 31 (sd [mv 4 (.c .nil),mv 5 (k 2)] [0,1,6,31] .ret) .skip)) (s (sd [m 33 0,ca 34 314 [33],m 32 34,et 35 32 0,et 36 32 1,m 7 35,m 8 36] (rl [7] 31 6) (sd [m 37 8,bi 38 .neq 37 k0] [37] (i 38 (sd [m 39 8,mv 4 (.c .nil),m 5 39] [0,1,6,8,38,39] .ret) .skip))) (s (sd [m 40 6,bi 41 .eql 40 k0] [8,38,40] (i 41 (sd [mv 4 (.c .nil),mv 5 k0] [0,1,6,41] .ret) .skip)) (sd [o 9 (.v5 9 1)] [41] (sp [o 10 (.v5 10 3)] (s (sp [mv 11 k0] (b 0 (w HG.l1))) (sd [m 124 9,m 125 10,ca 126 327 [124,125],m 123 126,et 127 123 0,et 128 123 1,m 17 127,m 18 128] (rl [0,1,9,10,11,44] 123 6) (s (sd [m 129 18,bi 130 .neq 129 k0] [129] (i 130 (sd [m 131 18,mv 4 (.c .nil),m 5 131] [6,17,18,130,131] .ret) .skip)) (sd [m 132 6,o 133 (.mk 133 1 24 [.nil] 132 132),m 19 133] [18,130,132,133] (s (sp [mv 20 k0] (b 8 (w HG.l5))) (sd [m 164 19,m 4 164,mv 5 k0] [6,17,19,20,136,164] .ret))))))))))))),[.tmp 4,.tmp 5],false⟩
structure o9 (L:Lib):Prop extends v7 L,bn L,u9 L,aj L,nq L,vo L where
 MI:L 321=some F.MI
 O6:L 322=some F.O6
 KJ:L 323=some F.KJ
 O4:L 324=some F.O4
 KR:L 325=some F.KR
 HG:L 326=some F.HG
def TP:AFn:=⟨1,(sd [bx 1 0,mv 2 kf] [0,2] (sd [tt 3 6 1,ca 4 130 [3],m 5 4,g 6 5 true (.j4 1 0),g 7 5 true (.ld false 1 6),g 8 5 true (.len 7),g 9 5 true (.bin .leq 8 (k 8)),pk 10 5 9 kf,m 2 10] (rl [1] 3 8) .ret)),[.tmp 2],false⟩
def MH.l2:=(sp [ls 20 19 18] (s (i 20 .skip (x 2)) (s (b 3 (sd [m 21 19,m 7 21] [20,21] (e [tt 22 3 5,m 23 0,m 24 6,ia 25 1 23 24,uu 26 1 25,m 27 7,ia 28 3 26 27,tt 29 3 28,m 30 1,m 31 6,ia 32 3 30 31,tt 33 3 32,m 34 1,m 35 7,ia 36 3 34 35,tt 37 3 36,ca 38 99 [33,37],ca 39 99 [29,38],ca 40 98 [22,39],so 3 5 40] (rl [7] 22 19)))) (d [ad 41 19 k1,m 19 41] [41]))))
def MH.l1:=(sp [ls 12 11 10] (s (i 12 .skip (x 0)) (s (b 1 (sd [m 13 11,m 6 13] [12,13] (sd [m 14 0,m 15 6,ia 16 1 14 15,uu 17 1 16,ln 18 17,mv 19 k0] (ra 14 4) (b 2 (w MH.l2))))) (d [ad 42 11 k1,m 11 42] [6,18,19,20,42]))))
def MH:AFn:=⟨2,(sp [al 4 z3] (sd [ca 8 96 [k0],al 5 z3,so 3 5 8] [8] (s (sd [m 9 0,ln 10 9,mv 11 k0] [9] (b 0 (w MH.l1))) (sd [tt 43 3 5,so 3 4 43] [0,1,5,10,11,12,43] .ret)))),[.cell 4 true 3],false⟩
def O5.l2:=(sp [ls 21 20 19] (s (i 21 .skip (x 2)) (s (b 3 (sd [m 22 20,m 8 22] [21,22] (e [tt 23 3 7,m 24 0,m 25 8,ia 26 3 24 25,tt 27 3 26,m 28 1,m 29 8,ia 30 1 28 29,uu 31 1 30,m 32 6,ia 33 3 31 32,tt 34 3 33,ca 35 99 [27,34],ca 36 98 [23,35],so 3 7 36] (rl [8] 23 14)))) (d [ad 37 20 k1,m 20 37] [37]))))
def O5.l1:=(sp [ls 15 14 13] (s (i 15 .skip (x 0)) (s (b 1 (sd [m 16 14,m 6 16] [15,16] (sd [ca 17 96 [k0],al 7 z3,so 3 7 17] [17] (s (sd [m 18 0,ln 19 18,mv 20 k0] [18] (b 2 (w O5.l2))) (d [m 38 5,m 39 6,tt 40 3 7,ia 41 3 38 39,so 3 41 40] (rl [6,7,19,20,21] 38 4)))))) (d [ad 42 14 k1,m 14 42] [42]))))
def O5:AFn:=⟨2,(sd [mv 4 (.c .nil)] [4] (sd [m 9 0,ln 10 9,o 11 (.mk 11 3 56 z3 10 10),m 5 11] [9,10,11] (s (sd [m 12 5,ln 13 12,mv 14 k0] [12] (b 0 (w O5.l1))) (sd [m 43 5,m 4 43] [0,1,5,13,14,15,43] .ret)))),[.tmp 4],false⟩
def MG.l1:=(sp [ls 49 48 47] (s (i 49 .skip (x 0)) (s (b 1 (d [m 50 8,fa 51 2 0,uu 52 1 51,ca 53 330 [50,52],m 8 53] (ra 49 5))) (d [ad 54 48 k1,m 48 54] [54]))))
def MG:AFn:=⟨2,(sd [bx 2 0,al 4 z3,mv 5 k0] [0,5] (s (sd [tt 9 6 2,ca 10 328 [9],nt 11 10] [9,10] (i 11 (sd [o 12 (.build z3 []),so 3 4 12,mv 5 (k 2)] [1,2,11,12] .ret) .skip)) (s (sd [m 13 1,ls 14 13 k0,m 15 14,g 16 15 false (.m5 1),g 17 15 false (.bin .gtr 16 (k 64)),pk 18 15 kt 17] (rl [11] 13 5) (i 18 (sd [o 19 (.build z3 []),so 3 4 19,mv 5 k1] [1,2,18,19] .ret) .skip)) (sd [fa 21 2 0,uu 22 1 21,fa 23 2 1,uu 24 1 23,ca 25 324 [22,24],m 20 25,et 26 20 0,et 27 20 1,m 6 26,m 7 27] (rl [18] 20 8) (s (sd [m 28 7,bi 29 .neq 28 k0] [28] (i 29 (sd [o 30 (.build z3 []),m 31 7,so 3 4 30,m 5 31] [1,2,6,7,29,30,31] .ret) .skip)) (s (sd [m 32 1,bi 33 .eql 32 k0] [7,29,32] (i 33 (se [fa 34 2 3,tt 35 3 34,fa 36 2 3,tt 37 3 36,ca 38 99 [35,37],m 39 6,fa 40 2 2,uu 41 1 40,ca 42 329 [39,41],ca 43 98 [38,42],so 3 4 43,mv 5 k0] (rl [1,2,6] 33 11) .ret) .skip)) (sd [fa 44 2 2,uu 45 1 44,m 8 45] [33,44,45] (s (sd [m 46 1,sb 47 46 k1,mv 48 k0] [1,46] (b 0 (w MG.l1))) (sd [m 55 6,m 56 8,ca 57 329 [55,56],so 3 4 57,mv 5 k0] [2,6,8,47,48,49,55,56,57] .ret))))))))),[.cell 4 true 3,.tmp 5],false⟩
def TN:AFn:=⟨1,(sd [bx 1 0,al 2 z3,mv 3 k0] [0,3] (sd [tt 4 6 1,ca 5 331 [4,k0],et 6 5 0,et 7 5 1,so 3 2 6,m 3 7] [1,4,5,6,7] .ret)),[.cell 2 true 3,.tmp 3],false⟩
def U6:AFn:=⟨1,(sd [bx 1 0,mv 2 kf] [0,2] (sd [tt 3 6 1,ca 4 136 [3],m 5 4,g 6 5 true (.j4 1 0),g 7 5 true (.ld false 1 6),g 8 5 true (.len 7),g 9 5 true (.bin .leq 8 (k 8)),pk 10 5 9 kf,m 2 10] (rl [1] 3 8) .ret)),[.tmp 2],false⟩
def PZ:AFn:=⟨1,(sd [bx 1 0,al 2 z3,mv 3 k0] [0,3] (s (sd [tt 6 6 1,ca 7 333 [6],nt 8 7] [6,7] (i 8 (sd [o 9 (.build z3 []),so 3 2 9,mv 3 (k 2)] [1,8,9] .ret) .skip)) (sd [fa 11 1 0,uu 12 1 11,fa 13 1 1,uu 14 1 13,ca 15 326 [12,14],m 10 15,et 16 10 0,et 17 10 1,m 4 16,m 5 17] (rl [8] 10 8) (s (sd [m 18 5,bi 19 .neq 18 k0] [18] (i 19 (sd [o 20 (.build z3 []),m 21 5,so 3 2 20,m 3 21] [1,4,5,19,20,21] .ret) .skip)) (se [fa 22 1 3,tt 23 3 22,fa 24 1 3,tt 25 3 24,ca 26 128 [23,25],fa 27 1 2,uu 28 1 27,m 29 4,fa 30 1 2,uu 31 1 30,ca 32 138 [29,31],ca 33 137 [28,32],ca 34 126 [26,33],so 3 2 34,mv 3 k0] (rl [1,4,5,19] 22 13) .ret))))),[.cell 2 true 3,.tmp 3],false⟩
structure l8 (L:Lib):Prop extends o9 L where
 TP:L 328=some F.TP
 MH:L 329=some F.MH
 O5:L 330=some F.O5
 MG:L 331=some F.MG
 TN:L 332=some F.TN
 U6:L 333=some F.U6
 PZ:L 334=some F.PZ
def PB.l1:=(sp [ls 21 20 19] (s (i 21 .skip (x 0)) (s (b 1 (sd [ia 22 2 18 20,tt 23 2 22,al 8 [z,z],so 2 8 23] [21,22,23] (sd [fa 24 8 1,uu 25 1 24,m 26 5,bi 27 .rem 25 26,bi 28 .neq 27 k0] (rl [8] 24 4) (i 28 (d [mv 6 kf] [28]) .skip)))) (d [ad 29 20 k1,m 20 29] [28,29]))))
def PB:AFn:=⟨2,(sd [bx 2 0,al 4 z3] [0] (sd [fa 9 2 4,fa 10 9 1,uu 11 1 10,bi 12 .shl k1 11,m 5 12] (ra 9 4) (sp [mv 6 kt] (s (sd [fa 13 2 9,uu 14 1 13,m 15 1,ia 16 1 14 15,fa 17 16 0,uu 18 1 17,ln 19 18,mv 20 k0] (rl [1] 13 5) (b 0 (w PB.l1))) (s (b 2 (sd [m 31 6,m 30 31] [5,6,18,19,20,21,31] (i 30 (sd [ca 32 96 [k0],so 3 4 32] [2,30,32] .ret) (sd [fa 34 2 0,fa 35 34 2,uu 36 1 35,bi 37 .eql 36 (k 2),m 33 37] (rl [2,30] 34 4) (i 33 (sd [ca 38 151 [k1,(k 2)],so 3 4 38] [33,38] .ret) .skip))))) (sd [ca 39 96 [k1],so 3 4 39] [33,39] .ret)))))),[.cell 4 true 3],false⟩
structure jc (L:Lib):Prop extends v7 L where
 PB:L 350=some F.PB
structure vn (L:Lib):Prop extends jc L where
def O1.l1:=(sp [ls 37 36 35] (s (i 37 .skip (x 0)) (s (b 1 (sd [m 38 36,ia 39 1 34 36,uu 40 1 39,m 9 38,m 10 40] (ra 37 4) (e [fa 41 6 1,uu 42 1 41,m 43 9,m 44 8,m 45 10,ia 46 3 44 45,tt 47 3 46,ca 48 95 [47],ia 49 3 42 43,so 3 49 48] (rl [9,10] 41 9)))) (d [ad 50 36 k1,m 36 50] [50]))))
def O1:AFn:=⟨2,(sd [bx 2 0,al 4 z6,mv 5 k0] [0,5] (sd [tt 12 12 2,o 13 (.c7 146 [12]),m 11 13,et 14 11 0,et 15 11 1,al 6 z6,so 6 6 14,m 7 15] (ra 11 5) (s (sd [m 16 7,bi 17 .neq 16 k0] [16] (i 17 (sd [o 18 (.build z6 []),m 19 7,so 6 4 18,m 5 19] [1,2,6,7,17,18,19] .ret) .skip)) (s (sd [m 20 1,ls 21 20 k0,m 22 21,g 23 22 false (.m5 1),g 24 22 false (.j4 2 9),g 25 22 false (.ld false 1 24),g 26 22 false (.len 25),g 27 22 false (.bin .geq 23 26),pk 28 22 kt 27] (rl [7,17] 20 8) (i 28 (sd [o 29 (.build z6 []),so 6 4 29,mv 5 k1] [1,2,6,28,29] .ret) .skip)) (sd [tt 30 12 2,m 31 1,ca 32 144 [30,(k (-1)),31],m 8 32] [1,28,30,31,32] (s (sd [fa 33 2 10,uu 34 1 33,ln 35 34,mv 36 k0] [33] (b 0 (w O1.l1))) (sd [m 51 8,fa 52 2 11,uu 53 1 52,ia 54 3 51 53,tt 55 3 54,ca 56 95 [55],fa 57 6 3,so 3 57 56] (rl [2,8,34,35,36,37] 51 7) (sd [tt 58 6 6,so 6 4 58,mv 5 k0] [6,58] .ret)))))))),[.cell 4 true 6,.tmp 5],false⟩
def JB.l1:=(s (sd [m 30 6,fa 31 2 8,uu 32 1 31,ls 33 30 32] [30,31,32] (i 33 .skip (x 0))) (s (b 1 (d [m 36 5,fa 37 2 8,uu 38 1 37,ad 39 38 k1,m 40 6,o 41 (.n7 41 135 [39,40]),o 42 (.a7 42 1 [41]),o 43 (.app 43 1 24 36 42),m 5 43] (rl [33] 36 8))) (d [m 34 6,ad 35 34 k1,m 6 35] [34,35])))
def JB.l4:=(s (sd [m 75 11,m 76 8,ln 77 76,ls 78 75 77] [75,76,77] (i 78 .skip (x 6))) (s (b 7 (e [m 81 8,m 82 11,m 83 8,m 84 11,ia 85 3 83 84,tt 86 3 85,fa 87 10 1,uu 88 1 87,fa 89 2 4,fa 90 89 1,uu 91 1 90,cu 92 91,bi 93 .shl k1 92,ca 94 125 [88,93],m 95 5,fa 96 10 0,uu 97 1 96,ia 98 1 95 97,uu 99 1 98,m 100 11,ia 101 3 99 100,tt 102 3 101,ca 103 128 [94,102],ca 104 126 [86,103],ia 105 3 81 82,so 3 105 104] (rl [78] 81 25))) (d [m 79 11,ad 80 79 k1,m 11 80] [79,80])))
def JB.l3:=(s (sd [m 55 9,fa 56 2 9,uu 57 1 56,m 58 7,ia 59 1 57 58,fa 60 59 0,uu 61 1 60,ln 62 61,ls 63 55 62] (ra 55 8) (i 63 .skip (x 4))) (s (b 5 (sd [fa 66 2 9,uu 67 1 66,m 68 7,ia 69 1 67 68,fa 70 69 0,uu 71 1 70,m 72 9,ia 73 2 71 72,tt 74 2 73,al 10 [z,z],so 2 10 74] (rl [63] 66 9) (sp [mv 11 k0] (b 6 (w JB.l4))))) (d [m 64 9,ad 65 64 k1,m 9 65] [10,11,64,65,78])))
def JB.l2:=(s (sd [m 44 7,fa 45 2 9,uu 46 1 45,ln 47 46,ls 48 44 47] (ra 44 4) (i 48 .skip (x 2))) (s (b 3 (sd [fa 51 2 8,uu 52 1 51,ad 53 52 k1,o 54 (.n7 54 135 [53,(k (-1))]),m 8 54] (rl [48] 51 4) (s (sp [mv 9 k0] (b 4 (w JB.l3))) (s (sd [m 106 7,m 107 1,bi 108 .eql 106 107] [9,63,106,107] (i 108 (e [m 109 8,fa 110 2 8,uu 111 1 110,m 112 8,fa 113 2 8,uu 114 1 113,ia 115 3 112 114,tt 116 3 115,ca 117 124 [k1],ca 118 126 [116,117],ia 119 3 109 111,so 3 119 118] (ra 108 12)) .skip)) (d [m 120 5,m 121 8,o 122 (.a7 122 1 [121]),o 123 (.app 123 1 24 120 122),m 5 123] (rl [8,108] 120 4)))))) (d [m 49 7,ad 50 49 k1,m 7 50] [49,50])))
def JB:AFn:=⟨2,(sd [bx 2 0,mv 4 (.c .nil)] [0,4] (sp [o 5 (.v5 5 1)] (s (sd [m 12 1,bi 13 .geq 12 k0] [12] (i 13 (d [m 14 5,fa 15 2 8,uu 16 1 15,ad 17 16 k1,o 18 (.n7 18 135 [17,(k (-1))]),o 19 (.a7 19 1 [18]),o 20 (.app 20 1 24 14 19),m 5 20] (ra 13 8)) (d [m 21 5,fa 22 2 8,uu 23 1 22,ad 24 23 k1,fa 25 2 8,uu 26 1 25,o 27 (.n7 27 135 [24,26]),o 28 (.a7 28 1 [27]),o 29 (.app 29 1 24 21 28),m 5 29] (rl [13] 21 9)))) (s (sp [mv 6 k0] (b 0 (w JB.l1))) (s (sd [mv 7 k0] [6,33] (b 2 (w JB.l2))) (sd [m 124 5,m 4 124] [1,2,5,7,48,124] .ret)))))),[.tmp 4],false⟩
def PU.l1:=(s (sd [m 25 6,fa 26 2 8,uu 27 1 26,ls 28 25 27] [25,26,27] (i 28 .skip (x 0))) (s (b 1 (se [fa 31 5 0,q 32 [44] (.ld false 1 31),m 33 1,fa 34 2 10,uu 35 1 34,m 36 6,ia 37 1 35 36,uu 38 1 37,ia 39 1 33 38,uu 40 1 39,fa 41 2 8,uu 42 1 41,o 43 (.di 3 40 none (some 42)),o 44 (.a7 44 1 [43]),o 45 (.app 45 1 24 32 44),fa 46 5 0,so 1 46 45] (rl [28] 31 16) (e [fa 47 5 1,q 48 [61] (.ld false 1 47),m 49 1,fa 50 2 10,uu 51 1 50,m 52 6,ia 53 1 51 52,uu 54 1 53,ia 55 1 49 54,uu 56 1 55,fa 57 2 8,uu 58 1 57,ia 59 3 56 58,tt 60 3 59,o 61 (.a7 61 3 [60]),o 62 (.app 62 3 56 48 61),fa 63 5 1,so 1 63 62] (ra 47 17)))) (d [m 29 6,ad 30 29 k1,m 6 30] [29,30])))
def PU:AFn:=⟨2,(sd [bx 2 0,al 4 z6] [0] (se [m 7 1,fa 8 2 11,q 9 [5] (.ld false 1 8),ia 10 1 7 9,q 11 [5] (.ld false 1 10),fa 12 2 8,q 13 [5] (.ld false 1 12),o 14 (.di 3 11 none (some 13)),m 15 1,fa 16 2 11,q 17 [5] (.ld false 1 16),ia 18 1 15 17,q 19 [5] (.ld false 1 18),fa 20 2 8,q 21 [5] (.ld false 1 20),ia 22 3 19 21,q 23 [5] (.ld true 3 22),o 24 (.build z6 [(2,1,14),(3,3,23)]),al 5 z6,so 6 5 24] (ra 7 18) (s (sp [mv 6 k0] (b 0 (w PU.l1))) (sd [tt 64 6 5,so 6 4 64] [1,2,5,6,28,64] .ret)))),[.cell 4 true 6],false⟩
def U5:AFn:=⟨1,(sd [bx 1 0,al 2 z6,mv 3 k0] [0,3] (s (sd [tt 4 12 1,ca 5 27 [4],nt 6 5] [4,5] (i 6 (sd [o 7 (.build z6 []),so 6 2 7,mv 3 (k 2)] [1,6,7] .ret) .skip)) (se [tt 8 12 1,tt 9 12 1,ca 10 163 [9,(k (-1))],ca 11 164 [8,10],so 6 2 11,mv 3 k0] (rl [1,6] 8 4) .ret))),[.cell 2 true 6,.tmp 3],false⟩
def U4:AFn:=⟨2,(sd [bx 2 0,al 4 z6,mv 5 k0] [0,5] (s (sd [tt 6 12 2,ca 7 27 [6],nt 8 7] [6,7] (i 8 (sd [o 9 (.build z6 []),so 6 4 9,mv 5 (k 2)] [1,2,8,9] .ret) .skip)) (s (sd [m 10 1,fa 11 2 9,uu 12 1 11,ln 13 12,sb 14 13 k1,ca 15 10 [10,k0,14],nt 16 15] (rl [8] 10 6) (i 16 (sd [o 17 (.build z6 []),so 6 4 17,mv 5 k1] [1,2,16,17] .ret) .skip)) (se [tt 18 12 2,tt 19 12 2,m 20 1,ca 21 163 [19,20],ca 22 164 [18,21],so 6 4 22,mv 5 k0] (rl [1,2,16] 18 5) .ret)))),[.cell 4 true 6,.tmp 5],false⟩
structure v3 (L:Lib):Prop extends ak L,q9 L,k9 L where
 O1:L 161=some F.O1
 JB:L 163=some F.JB
 PU:L 164=some F.PU
 U5:L 165=some F.U5
 U4:L 166=some F.U4
structure nr (L:Lib):Prop extends a6 L where
def PW.l1:=(s (sd [m 20 7,fa 21 2 9,uu 22 1 21,m 23 1,ia 24 1 22 23,fa 25 24 0,uu 26 1 25,ln 27 26,ls 28 20 27] (ra 20 8) (i 28 .skip (x 0))) (s (b 1 (e [m 31 6,m 32 31,g 33 32 true (.j4 2 9),g 34 32 true (.ld false 1 33),g 35 32 true (.m5 1),g 36 32 true (.u6 none 1 34 35),g 37 32 true (.j4 36 0),g 38 32 true (.ld false 1 37),g 39 32 true (.m5 7),g 40 32 true (.u6 none 2 38 39),g 41 32 true (.j4 40 1),g 42 32 true (.ld false 1 41),g 43 32 true (.j4 2 4),g 44 32 true (.j4 43 1),g 45 32 true (.ld false 1 44),g 46 32 true (.conv .u64 45),g 47 32 true (.bin .shl k1 46),g 48 32 true (.bin .rem 42 47),g 49 32 true (.bin .eql 48 k0),pk 50 32 49 kf,m 6 50] (rl [28] 31 20))) (d [m 29 7,ad 30 29 k1,m 7 30] [29,30])))
def PW:AFn:=⟨2,(sd [bx 2 0,al 4 z3,mv 5 k0] [0,5] (s (sd [tt 8 12 2,ca 9 27 [8],nt 10 9] [8,9] (i 10 (sd [o 11 (.build z3 []),so 3 4 11,mv 5 (k 2)] [1,2,10,11] .ret) .skip)) (s (sd [m 12 1,fa 13 2 9,uu 14 1 13,ln 15 14,sb 16 15 k1,ca 17 10 [12,k0,16],nt 18 17] (rl [10] 12 6) (i 18 (sd [o 19 (.build z3 []),so 3 4 19,mv 5 k1] [1,2,18,19] .ret) .skip)) (sd [mv 6 kt] [18] (s (sp [mv 7 k0] (b 0 (w PW.l1))) (s (b 2 (sd [m 52 6,m 51 52] [1,6,7,28,52] (i 51 (sd [ca 53 124 [k0],so 3 4 53,mv 5 k0] [2,51,53] .ret) (sd [fa 55 2 0,fa 56 55 2,uu 57 1 56,bi 58 .eql 57 (k 2),m 54 58] (rl [2,51] 55 4) (i 54 (sd [ca 59 125 [k1,(k 2)],so 3 4 59,mv 5 k0] [54,59] .ret) .skip))))) (sd [ca 60 124 [k1],so 3 4 60,mv 5 k0] [54,60] .ret))))))),[.cell 4 true 3,.tmp 5],false⟩
structure df (L:Lib):Prop extends bn L,v3 L,nr L where
 PW:L 362=some F.PW
def TR:AFn:=⟨2,(sd [bx 2 0,al 4 z3,mv 5 k0] [0,5] (s (sd [tt 6 12 2,ca 7 21 [6],nt 8 7] [6,7] (i 8 (sd [o 9 (.build z3 []),so 3 4 9,mv 5 (k 2)] [1,2,8,9] .ret) .skip)) (s (sd [m 10 1,ls 11 10 k0,m 12 11,g 13 12 false (.m5 1),g 14 12 false (.j4 2 9),g 15 12 false (.ld false 1 14),g 16 12 false (.len 15),g 17 12 false (.bin .geq 13 16),pk 18 12 kt 17] (rl [8] 10 8) (i 18 (sd [o 19 (.build z3 []),so 3 4 19,mv 5 k1] [1,2,18,19] .ret) .skip)) (sd [tt 20 12 2,m 21 1,ca 22 350 [20,21],so 3 4 22,mv 5 k0] [1,2,18,20,21,22] .ret)))),[.cell 4 true 3,.tmp 5],false⟩
structure mc (L:Lib):Prop extends vn L,df L where
 TR:L 402=some F.TR
def I7.l2:=(sp [ls 59 58 57] (s (i 59 .skip (x 2)) (s (b 3 (sd [m 60 58,m 10 60] [59,60] (e [m 61 8,m 62 9,m 63 8,m 64 9,ia 65 1 63 64,q 66 [75] (.ld false 1 65),fa 67 4 0,uu 68 1 67,m 69 10,ia 70 1 68 69,uu 71 1 70,m 72 9,ia 73 3 71 72,tt 74 3 73,o 75 (.a7 75 3 [74]),o 76 (.app 76 3 56 66 75),ia 77 1 61 62,so 1 77 76] (rl [10] 61 17)))) (d [ad 78 58 k1,m 58 78] [78]))))
def I7.l1:=(sp [ls 53 52 51] (s (i 53 .skip (x 0)) (s (b 1 (sd [m 54 52,m 9 54] [53,54] (sd [fa 55 4 0,uu 56 1 55,ln 57 56,mv 58 k0] [55,56] (b 2 (w I7.l2))))) (d [ad 79 52 k1,m 52 79] [9,57,58,59,79]))))
def I7.l3:=(sp [ls 97 96 95] (s (i 97 .skip (x 4)) (s (b 5 (sd [m 98 96,m 13 98] [97,98] (sd [tt 100 12 1,m 101 13,ca 102 402 [100,101],m 99 102,et 103 99 0,et 104 99 1,al 14 z3,so 3 14 103,m 15 104] (ra 99 6) (s (sd [m 105 15,bi 106 .neq 105 k0] [105] (i 106 (sd [o 107 (.build z3 []),m 108 15,so 3 2 107,m 3 108] [1,11,12,13,14,15,95,96,106,107,108] .ret) .skip)) (s (sd [tt 109 3 14,ca 110 97 [109],bi 111 .leq 110 k0] [14,15,106,109,110] (i 111 (x 5) .skip)) (sd [tt 113 12 1,m 114 13,ca 115 161 [113,114],m 112 115,et 116 112 0,et 117 112 1,al 16 z6,so 6 16 116,m 15 117] (rl [13] 111 7) (s (sd [m 118 15,bi 119 .neq 118 k0] [118] (i 119 (sd [o 120 (.build z3 []),m 121 15,so 3 2 120,m 3 121] [1,11,12,15,16,95,96,119,120,121] .ret) .skip)) (se [fa 122 16 3,q 123 [17] (.ld true 3 122),fa 124 16 3,q 125 [17] (.ld true 3 124),q 126 [17] (.call 99 [123,125]),m 127 11,fa 128 16 1,q 129 [17] (.ld false 1 128),q 130 [17] (.call 329 [127,129]),q 131 [17] (.call 98 [126,130]),al 17 z3,so 3 17 131] (rl [15,16,119] 122 10) (d [tt 132 3 12,tt 133 3 17,ca 134 98 [132,133],so 3 12 134] [17,132,133,134]))))))))) (d [ad 135 96 k1,m 96 135] [13,111,135]))))
def I7:AFn:=⟨1,(sd [bx 1 0,al 2 z3,mv 3 k0] [0,3] (s (sd [tt 18 12 1,ca 19 21 [18],nt 20 19,m 21 20,g 22 21 false (.j4 1 8),g 23 21 false (.ld false 1 22),g 24 21 false (.bin .gtr 23 (k 8)),pk 25 21 kt 24] (ra 18 7) (i 25 (sd [o 26 (.build z3 []),so 3 2 26,mv 3 (k 2)] [1,25,26] .ret) .skip)) (sd [tt 28 12 1,ca 29 146 [28],m 27 29,et 30 27 0,et 31 27 1,al 4 z6,so 6 4 30,m 5 31] (rl [25] 27 5) (s (sd [m 32 5,bi 33 .neq 32 k0] [32] (i 33 (sd [o 34 (.build z3 []),m 35 5,so 3 2 34,m 3 35] [1,4,5,33,34,35] .ret) .skip)) (s (sd [fa 37 4 0,uu 38 1 37,ca 39 306 [38],m 36 39,et 40 36 0,et 41 36 1,m 6 40,m 7 41] (rl [5,6,33] 36 6) (sd [m 42 7,bi 43 .neq 42 k0] [42] (i 43 (sd [o 44 (.build z3 []),m 45 7,so 3 2 44,m 3 45] [1,4,7,43,44,45] .ret) .skip))) (sd [fa 46 4 0,uu 47 1 46,ln 48 47,o 49 (.mk 49 1 24 [.nil] 48 48),m 8 49] (rl [7,43] 46 4) (s (sd [m 50 8,ln 51 50,mv 52 k0] [50] (b 0 (w I7.l1))) (sd [m 81 8,fa 82 4 2,uu 83 1 82,o 84 (.build [.nil,.nil] [(0,1,81),(1,1,83)]),ca 85 323 [84],m 80 85,et 86 80 0,et 87 80 1,m 11 86,m 5 87] (rl [4,8,51,52,53] 80 8) (s (sd [m 88 5,bi 89 .neq 88 k0] [88] (i 89 (sd [o 90 (.build z3 []),m 91 5,so 3 2 90,m 3 91] [1,5,11,89,90,91] .ret) .skip)) (sd [ca 92 96 [k0],al 12 z3,so 3 12 92] [5,89,92] (s (sd [fa 93 1 9,uu 94 1 93,ln 95 94,mv 96 k0] [93,94] (b 4 (w I7.l3))) (se [tt 136 3 12,ca 137 151 [k1,(k 12)],ca 138 99 [136,137],so 3 2 138,mv 3 k0] [1,11,12,95,96,97,136,137,138] .ret)))))))))))),[.cell 2 true 3,.tmp 3],false⟩
def MT.l1:=(s (sd [m 40 9,fa 41 1 9,uu 42 1 41,ln 43 42,ls 44 40 43] (ra 40 4) (i 44 .skip (x 0))) (s (b 1 (sd [tt 48 12 1,m 49 9,ca 50 362 [48,49],m 47 50,et 51 47 0,et 52 47 1,al 10 z3,so 3 10 51,m 11 52] (rl [11,44] 47 6) (sd [tt 54 12 1,m 55 9,ca 56 166 [54,55],m 53 56,et 57 53 0,et 58 53 1,al 12 z6,so 6 12 57,m 13 58] (rl [13] 53 6) (sd [tt 59 3 10,ca 60 155 [59],bi 61 .gtr 60 k0] [10,59,60] (i 61 (sd [tt 63 6 12,ca 64 334 [63],m 62 64,et 65 62 0,et 66 62 1,al 14 z3,so 3 14 65,m 15 66] (rl [12,15] 61 6) (d [tt 67 3 4,tt 68 3 14,ca 69 126 [67,68],so 3 4 69] [14,67,68,69])) .skip))))) (d [m 45 9,ad 46 45 k1,m 9 46] [12,45,46,61])))
def MT:AFn:=⟨1,(sd [bx 1 0,al 2 z3,mv 3 k0] [0,3] (s (sd [tt 16 12 1,ca 17 27 [16],nt 18 17,m 19 18,g 20 19 false (.j4 1 8),g 21 19 false (.ld false 1 20),g 22 19 false (.bin .gtr 21 (k 8)),pk 23 19 kt 22] (ra 16 7) (i 23 (sd [o 24 (.build z3 []),so 3 2 24,mv 3 (k 2)] [1,23,24] .ret) .skip)) (sd [ca 25 124 [k0],al 4 z3,so 3 4 25] [23,25] (sd [tt 27 12 1,ca 28 165 [27],m 26 28,et 29 26 0,et 30 26 1,al 5 z6,so 6 5 29,m 6 30] (rl [6] 26 5) (s (sd [tt 32 6 5,ca 33 334 [32],m 31 33,et 34 31 0,et 35 31 1,al 7 z3,so 3 7 34,m 8 35] (rl [5,7] 31 5) (sd [m 36 8,bi 37 .neq 36 k0] [36] (i 37 (sd [o 38 (.build z3 []),m 39 8,so 3 2 38,m 3 39] [1,4,8,37,38,39] .ret) .skip))) (s (sd [mv 9 k0] [8,37] (b 0 (w MT.l1))) (se [tt 71 3 4,ca 72 124 [(k 12)],ca 73 154 [71,72],m 70 73,et 74 70 0,et 75 70 1,so 3 4 74] (rl [1,9,44] 70 6) (sd [tt 76 3 4,so 3 2 76,mv 3 k0] [4,76] .ret)))))))),[.cell 2 true 3,.tmp 3],false⟩
structure aq (L:Lib):Prop extends l8 L,mc L,df L,v3 L where
 I7:L 419=some F.I7
 MT:L 420=some F.MT
structure si (L:Lib):Prop extends w6 L,u5 L where
def LU.l1:=(sp [ls 37 36 35] (s (i 37 .skip (x 0)) (s (b 1 (sd [ia 38 1 34 36,uu 39 1 38,m 10 39] [37,38,39] (sd [tt 40 4 7,m 41 10,ca 42 5 [40,41],nt 43 42] [10,40,41,42] (i 43 (sd [mv 8 (k 17)] [1,7,34,35,36,43] .ret) .skip)))) (d [ad 44 36 k1,m 36 44] [43,44]))))
def LU.l2:=(sp [ls 48 47 46] (s (i 48 .skip (x 2)) (s (b 3 (sd [ia 49 1 45 47,uu 50 1 49,m 12 50] [48,49,50] (sd [tt 51 4 7,m 52 12,ca 53 5 [51,52],nt 54 53,m 55 54,g 56 55 false (.ld true 4 7),g 57 55 false (.m5 12),g 58 55 false (.un .neg 57),g 59 55 false (.call 5 [56,58]),g 60 55 false (.un .not 59),pk 61 55 kt 60] (rl [12] 51 10) (i 61 (sd [mv 8 (k 17)] [7,45,46,47,61] .ret) .skip)))) (d [ad 62 47 k1,m 47 62] [61,62]))))
def LU:AFn:=⟨4,(sd [bx 6 2,bx 7 3,mv 8 k0] [2,3,8] (s (sd [tt 13 4 6,ca 14 2 [13],nt 15 14,m 16 15,g 17 16 false (.ld true 4 7),g 18 16 false (.call 2 [17]),g 19 16 false (.un .not 18),pk 20 16 kt 19] (rl [6] 13 7) (i 20 (sd [mv 8 (k 2)] [0,1,7,20] .ret) .skip)) (s (sd [m 21 0,ln 22 21,bi 23 .eql 22 k0,m 24 23,g 25 24 false (.m5 0),g 26 24 false (.len 25),g 27 24 false (.bin .gtr 26 (k 49)),pk 28 24 kt 27,m 29 28,g 30 29 false (.m5 1),g 31 29 false (.len 30),g 32 29 false (.bin .gtr 31 (k 8)),pk 33 29 kt 32] (ra 20 13) (i 33 (sd [mv 8 (k 12)] [0,1,7,33] .ret) .skip)) (s (sd [m 34 0,ln 35 34,mv 36 k0] [0,33] (b 0 (w LU.l1))) (s (sd [m 45 1,ln 46 45,mv 47 k0] (rl [1] 34 4) (b 2 (w LU.l2))) (sd [mv 8 k0] (rl [7] 45 4) .ret)))))),[.tmp 8],false⟩
def OK.l1:=(sp [ls 16 15 14] (s (i 16 .skip (x 0)) (s (b 1 (sd [m 17 15,ia 18 1 13 15,uu 19 1 18,m 8 17,m 9 19] (ra 16 4) (d [m 20 7,m 21 8,m 22 2,m 23 8,ad 24 22 23,m 25 1,m 26 9,bi 27 .mul 25 26,o 28 (.build [z,z] [(0,1,24),(1,1,27)]),ia 29 2 20 21,so 2 29 28] (rl [8,9] 20 10)))) (d [ad 30 15 k1,m 15 30] [30]))))
def OK:AFn:=⟨3,(sd [mv 6 (.c .nil)] [6] (sd [m 10 0,ln 11 10,o 12 (.mk 12 2 16 [z,z] 11 11),m 7 12] [10,11,12] (s (sd [m 13 0,ln 14 13,mv 15 k0] [0] (b 0 (w OK.l1))) (sd [m 31 7,m 6 31] [1,2,7,13,14,15,16,31] .ret)))),[.tmp 6],false⟩
def OJ.l1:=(sp [ls 9 8 7] (s (i 9 .skip (x 0)) (s (b 1 (sd [ia 10 1 6 8,uu 11 1 10,m 5 11] [9,10,11] (d [m 12 3,m 13 5,o 14 (.app 14 2 16 12 13),m 3 14] [5,12,13,14]))) (d [ad 15 8 k1,m 8 15] [15]))))
def OJ:AFn:=⟨1,(sd [mv 2 (.c .nil)] [2] (sp [o 3 (.v5 3 2)] (s (sd [m 6 0,ln 7 6,mv 8 k0] [0] (b 0 (w OJ.l1))) (sd [m 16 3,m 2 16] [3,6,7,8,9,16] .ret)))),[.tmp 2],false⟩
def KD.l1:=(sp [ls 10 9 8] (s (i 10 .skip (x 0)) (s (b 1 (sd [m 11 9,m 6 11] [10,11] (sd [m 12 6,bi 13 .eql 12 k0] [12] (i 13 (d [m 14 0,m 15 6,m 16 2,ia 17 1 14 15,so 1 17 16] (rl [6] 13 5)) (d [m 18 0,m 19 6,m 20 1,m 21 6,ad 22 20 21,sb 23 22 k1,ia 24 1 18 19,so 1 24 23] (rl [6,13] 18 7)))))) (d [ad 25 9 k1,m 9 25] [25]))))
def KD:AFn:=⟨3,(sd [m 7 0,ln 8 7,mv 9 k0] [7] (b 0 (w KD.l1))),[],false⟩
def SF:AFn:=⟨4,(sd [bx 6 2,bx 7 3,al 8 [z,z,z,z,z,z,z,z,z,.nil,.nil,z],mv 9 k0] [2,3,9] (s (sd [m 14 0,m 15 1,tt 16 4 6,tt 17 4 7,ca 18 46 [14,15,16,17],m 10 18] (ra 14 5) (sd [m 19 10,bi 20 .neq 19 k0] [19] (i 20 (sd [o 21 (.build [z,z,z,z,z,z,z,z,z,.nil,.nil,z] []),m 22 10,so 12 8 21,m 9 22] [0,1,6,7,10,20,21,22] .ret) .skip))) (sd [m 23 0,ln 24 23,sb 25 24 k1,m 11 25] [10,20,23,24,25] (sd [m 26 11,m 27 1,ln 28 27,ad 29 26 28,m 12 29] (ra 26 4) (se [q 30 [34,13] (.ld true 4 6),q 31 [34,13] (.ld true 4 7),m 32 12,m 33 12,o 34 (.mk 34 1 8 [z] 33 33),m 35 12,ad 36 35 k1,o 37 (.build [z,z,z,z,z,z,z,z,z,.nil,.nil,z] [(0,4,30),(4,4,31),(8,1,32),(10,1,34),(11,1,36)]),al 13 [z,z,z,z,z,z,z,z,z,.nil,.nil,z],so 12 13 37] (rl [6,7,12] 30 8) (sd [m 38 0,ca 39 47 [38,k1,k0],m 40 1,m 41 11,ad 42 41 k1,ca 43 47 [40,(k (-1)),42],o 44 (.a7 44 1 [39,43]),ca 45 48 [44],o 46 (.build [.nil] [(0,1,45)]),o 47 (.a7 47 1 [46]),fa 48 13 9,so 1 48 47] (rl [0,1] 38 11) (sd [fa 49 13 10,uu 50 1 49,m 51 11,o 52 (.di 1 50 none (some 51)),o 53 (.c7 49 [52,k1,k0])] (ra 49 5) (se [fa 54 13 10,uu 55 1 54,m 56 11,o 57 (.di 1 55 (some 56) none),m 58 11,ad 59 58 k1,fa 60 13 11,uu 61 1 60,o 62 (.c7 49 [57,59,61])] (rl [11] 54 9) (sd [tt 63 12 13,so 12 8 63,mv 9 k0] [13,63] .ret))))))))),[.cell 8 true 12,.tmp 9],false⟩
def SG:AFn:=⟨4,(sd [bx 6 2,bx 7 3,al 8 [z,z,z,z,z,z,z,z,z,.nil,.nil,z],mv 9 k0] [2,3,9] (s (sd [m 15 0,m 16 1,tt 17 4 6,tt 18 4 7,ca 19 46 [15,16,17,18],m 10 19] (ra 15 5) (sd [m 20 10,bi 21 .neq 20 k0] [20] (i 21 (sd [o 22 (.build [z,z,z,z,z,z,z,z,z,.nil,.nil,z] []),m 23 10,so 12 8 22,m 9 23] [0,1,6,7,10,21,22,23] .ret) .skip))) (sd [m 24 0,ln 25 24,sb 26 25 k1,m 27 1,ln 28 27,o 29 (.mm true [26,28]),m 11 29] (rl [10,21] 24 6) (sd [m 30 11,ad 31 30 k1,m 12 31] [30,31] (se [q 32 [36,13] (.ld true 4 6),q 33 [36,13] (.ld true 4 7),m 34 11,m 35 11,o 36 (.mk 36 1 8 [z] 35 35),m 37 12,ad 38 37 k1,o 39 (.build [z,z,z,z,z,z,z,z,z,.nil,.nil,z] [(0,4,32),(4,4,33),(8,1,34),(10,1,36),(11,1,38)]),al 13 [z,z,z,z,z,z,z,z,z,.nil,.nil,z],so 12 13 39] (rl [6,11] 32 8) (sd [fa 40 7 1,uu 41 1 40,bi 42 .shl k1 41,o 43 (.a7 43 1 [42]),m 14 43] (rl [7] 40 4) (se [m 44 14,ca 45 47 [44,k1,k0],m 46 1,ca 47 47 [46,(k (-1)),k1],o 48 (.a7 48 1 [45,47]),ca 49 48 [48],o 50 (.build [.nil] [(0,1,49)]),m 51 0,o 52 (.di 1 51 none (some k1)),m 53 12,ca 54 47 [52,k1,53],m 55 0,o 56 (.di 1 55 (some k1) none),ca 57 47 [56,k1,k1],o 58 (.a7 58 1 [54,57]),ca 59 48 [58],o 60 (.build [.nil] [(0,1,59)]),o 61 (.a7 61 1 [50,60]),fa 62 13 9,so 1 62 61] (rl [0,1,14] 44 19) (sd [fa 63 13 10,uu 64 1 63,m 65 12,o 66 (.c7 49 [64,k1,65])] (rl [12] 63 4) (sd [tt 67 12 13,so 12 8 67,mv 9 k0] [13,67] .ret))))))))),[.cell 8 true 12,.tmp 9],false⟩
def OI.l1:=(sp [ls 48 47 46] (s (i 48 .skip (x 0)) (s (b 1 (sd [m 49 47,m 15 49] [48,49] (sp [mv 16 (.c .nil)] (s (sd [m 50 15,m 51 0,ln 52 51,ls 53 50 52] [50,51,52] (i 53 (d [m 54 16,m 55 0,m 56 15,m 57 15,ad 58 57 k1,o 59 (.di 1 55 (some 56) (some 58)),ca 60 47 [59,k1,k0],o 61 (.a7 61 1 [54,60]),ca 62 48 [61],m 16 62] (ra 53 10)) .skip)) (s (sd [m 63 15,bi 64 .geq 63 k1,m 65 64,g 66 65 true (.m5 15),g 67 65 true (.m5 1),g 68 65 true (.len 67),g 69 65 true (.bin .leq 66 68),pk 70 65 69 kf] (rl [53] 63 7) (i 70 (d [m 71 16,m 72 1,m 73 15,sb 74 73 k1,m 75 15,o 76 (.di 1 72 (some 74) (some 75)),m 77 12,ca 78 47 [76,(k (-1)),77],o 79 (.a7 79 1 [71,78]),ca 80 48 [79],m 16 80] (ra 70 11)) .skip)) (s (sd [m 81 15,m 82 11,ls 83 81 82] [70,81,82] (i 83 (d [m 84 16,m 85 14,m 86 15,ad 87 86 k1,ca 88 47 [85,k1,87],o 89 (.a7 89 1 [84,88]),ca 90 48 [89],m 16 90] (ra 83 8)) .skip)) (s (sd [m 91 15,bi 92 .geq 91 k1] [83,91] (i 92 (d [fa 93 13 10,uu 94 1 93,m 95 15,sb 96 95 k1,m 97 12,m 98 15,ad 99 97 98,ia 100 1 94 96,so 1 100 99] (rl [15] 92 9)) .skip)) (d [fa 101 13 9,uu 102 1 101,m 103 16,o 104 (.build [.nil] [(0,1,103)]),o 105 (.a7 105 1 [104]),o 106 (.app 106 1 24 102 105),fa 107 13 9,so 1 107 106] (rl [15,16,92] 101 7))))))))) (d [ad 108 47 k1,m 47 108] [108]))))
def OI:AFn:=⟨4,(sd [bx 6 2,bx 7 3,al 8 [z,z,z,z,z,z,z,z,z,.nil,.nil,z],mv 9 k0] [2,3,9] (s (sd [m 17 0,m 18 1,tt 19 4 6,tt 20 4 7,ca 21 46 [17,18,19,20],m 10 21] (ra 17 5) (sd [m 22 10,bi 23 .neq 22 k0] [22] (i 23 (sd [o 24 (.build [z,z,z,z,z,z,z,z,z,.nil,.nil,z] []),m 25 10,so 12 8 24,m 9 25] [0,1,6,7,10,23,24,25] .ret) .skip))) (sd [m 26 0,ln 27 26,sb 28 27 k1,m 29 1,ln 30 29,o 31 (.mm true [28,30]),m 11 31] (rl [10,23] 26 6) (sd [m 32 11,ad 33 32 k1,m 12 33] [32,33] (se [q 34 [38,13] (.ld true 4 6),q 35 [38,13] (.ld true 4 7),m 36 11,m 37 11,o 38 (.mk 38 1 8 [z] 37 37),m 39 12,o 40 (.build [z,z,z,z,z,z,z,z,z,.nil,.nil,z] [(0,4,34),(4,4,35),(8,1,36),(10,1,38),(11,1,39)]),al 13 [z,z,z,z,z,z,z,z,z,.nil,.nil,z],so 12 13 40] (rl [6] 34 7) (sd [fa 41 7 1,uu 42 1 41,bi 43 .shl k1 42,o 44 (.a7 44 1 [43]),m 14 44] (rl [7] 41 4) (s (sd [m 45 11,ad 46 45 k1,mv 47 k0] [45] (b 0 (w OI.l1))) (sd [tt 109 12 13,so 12 8 109,mv 9 k0] [0,1,11,12,13,14,46,47,48,109] .ret)))))))),[.cell 8 true 12,.tmp 9],false⟩
structure m6 (L:Lib):Prop extends si L where
 LU:L 46=some F.LU
 OK:L 47=some F.OK
 OJ:L 48=some F.OJ
 KD:L 49=some F.KD
 SF:L 50=some F.SF
 SG:L 51=some F.SG
 OI:L 52=some F.OI
def KF.l1:=(sp [ls 30 29 28] (s (i 30 .skip (x 0)) (s (b 1 (sd [ia 31 1 27 29,uu 32 1 31,m 8 32] [30,31,32] (sd [tt 33 4 5,m 34 8,ca 35 5 [33,34],nt 36 35] [8,33,34,35] (i 36 (sd [mv 6 (k 17)] [0,5,27,28,29,36] .ret) .skip)))) (d [ad 37 29 k1,m 29 37] [36,37]))))
def KF.l2:=(sp [ls 41 40 39] (s (i 41 .skip (x 2)) (s (b 3 (sd [ia 42 1 38 40,uu 43 1 42,m 10 43] [41,42,43] (sd [tt 44 4 5,m 45 10,ca 46 5 [44,45],nt 47 46,m 48 47,g 49 48 false (.ld true 4 5),g 50 48 false (.m5 10),g 51 48 false (.un .neg 50),g 52 48 false (.call 5 [49,51]),g 53 48 false (.un .not 52),pk 54 48 kt 53] (rl [10] 44 10) (i 54 (sd [mv 6 (k 17)] [0,5,38,39,40,54] .ret) .skip)))) (d [ad 55 40 k1,m 40 55] [54,55]))))
def KF.l3:=(sp [ls 59 58 57] (s (i 59 .skip (x 4)) (s (b 5 (sd [ia 60 1 56 58,uu 61 1 60,m 12 61] [59,60,61] (sd [m 62 12,m 63 12,o 64 (.un .neg 63),o 65 (.mm true [62,64]),fa 66 5 1,uu 67 1 66,bi 68 .shl k1 67,bi 69 .geq 65 68] (rl [12] 62 7) (i 69 (sd [mv 6 (k 14)] [5,56,57,58,69] .ret) .skip)))) (d [ad 70 58 k1,m 58 70] [69,70]))))
def KF:AFn:=⟨3,(sd [bx 5 2,mv 6 k0] [2,6] (s (sd [tt 13 4 5,ca 14 2 [13],nt 15 14] [13,14] (i 15 (sd [mv 6 (k 2)] [0,1,5,15] .ret) .skip)) (s (sd [m 16 0,ln 17 16,bi 18 .gtr 17 (k 8),m 19 18,g 20 19 false (.m5 1),g 21 19 false (.len 20),g 22 19 false (.m5 0),g 23 19 false (.len 22),g 24 19 false (.bin .add 23 k1),g 25 19 false (.bin .neq 21 24),pk 26 19 kt 25] (ra 15 11) (i 26 (sd [mv 6 (k 12)] [0,1,5,26] .ret) .skip)) (s (sd [m 27 1,ln 28 27,mv 29 k0] [1,26] (b 0 (w KF.l1))) (s (sd [m 38 0,ln 39 38,mv 40 k0] (ra 27 4) (b 2 (w KF.l2))) (s (sd [m 56 0,ln 57 56,mv 58 k0] (rl [0] 38 4) (b 4 (w KF.l3))) (sd [mv 6 k0] (rl [5] 56 4) .ret))))))),[.tmp 6],false⟩
def LZ.l1:=(s (sd [m 49 15,bi 50 .geq 49 k1] [49] (i 50 .skip (x 0))) (s (b 1 (sd [m 53 14,m 54 15,sb 55 54 k1,m 56 11,ad 57 k1 56,m 58 11,ad 59 57 58,m 60 15,sb 61 59 60,ia 62 1 53 55,so 1 62 61] (rl [50] 53 10) (e [fa 63 13 9,q 64 [79,81] (.ld false 1 63),m 65 14,m 66 15,ia 67 1 65 66,uu 68 1 67,m 69 12,o 70 (.build [z,z] [(0,1,68),(1,1,69)]),m 71 15,m 72 0,m 73 15,sb 74 73 k1,ia 75 1 72 74,uu 76 1 75,o 77 (.un .neg 76),o 78 (.build [z,z] [(0,1,71),(1,1,77)]),o 79 (.a7 79 2 [70,78]),o 80 (.build [.nil] [(0,1,79)]),o 81 (.a7 81 1 [80]),o 82 (.app 82 1 24 64 81),fa 83 13 9,so 1 83 82] (ra 63 21)))) (d [m 51 15,sb 52 51 k1,m 15 52] [51,52])))
def LZ.l2:=(s (sd [m 101 18,m 102 11,bi 103 .leq 101 102] [101,102] (i 103 .skip (x 2))) (s (b 3 (sd [m 106 16,m 107 18,m 108 11,bi 109 .mul (k 2) 108,m 110 18,ad 111 109 110,ia 112 1 106 107,so 1 112 111] (rl [103] 106 7) (se [fa 113 13 9,q 114 [129,131] (.ld false 1 113),m 115 14,m 116 18,sb 117 116 k1,ia 118 1 115 117,uu 119 1 118,m 120 0,m 121 18,sb 122 121 k1,ia 123 1 120 122,uu 124 1 123,o 125 (.build [z,z] [(0,1,119),(1,1,124)]),m 126 18,m 127 12,o 128 (.build [z,z] [(0,1,126),(1,1,127)]),o 129 (.a7 129 2 [125,128]),o 130 (.build [.nil] [(0,1,129)]),o 131 (.a7 131 1 [130]),o 132 (.app 132 1 24 114 131),fa 133 13 9,so 1 133 132] (ra 113 21) (se [fa 134 17 0,q 135 [145] (.ld false 1 134),m 136 16,m 137 18,ia 138 1 136 137,uu 139 1 138,m 140 1,m 141 18,ia 142 1 140 141,uu 143 1 142,o 144 (.build [z,z] [(0,1,139),(1,1,143)]),o 145 (.a7 145 2 [144]),o 146 (.app 146 2 16 135 145),fa 147 17 0,so 1 147 146] (ra 134 14) (e [fa 148 13 10,uu 149 1 148,m 150 18,sb 151 150 k1,m 152 16,m 153 18,sb 154 153 k1,ia 155 1 152 154,uu 156 1 155,ia 157 1 149 151,so 1 157 156] (ra 148 10)))))) (d [m 104 18,ad 105 104 k1,m 18 105] [104,105])))
def LZ:AFn:=⟨4,(sd [bx 6 2,bx 7 3,al 8 [z,z,z,z,z,z,z,z,z,.nil,.nil,z],mv 9 k0] [2,3,9] (s (sd [tt 19 4 6,ca 20 2 [19],nt 21 20] [19,20] (i 21 (sd [o 22 (.build [z,z,z,z,z,z,z,z,z,.nil,.nil,z] []),so 12 8 22,mv 9 (k 2)] [0,1,6,7,21,22] .ret) .skip)) (s (sd [m 23 0,m 24 1,tt 25 4 7,ca 26 345 [23,24,25],m 10 26] (rl [21] 23 4) (sd [m 27 10,bi 28 .neq 27 k0] [27] (i 28 (sd [o 29 (.build [z,z,z,z,z,z,z,z,z,.nil,.nil,z] []),m 30 10,so 12 8 29,m 9 30] [0,1,6,7,10,28,29,30] .ret) .skip))) (sd [m 31 0,ln 32 31,m 11 32] [10,28,31,32] (sd [fa 33 7 1,uu 34 1 33,bi 35 .shl k1 34,m 12 35] [33,34,35] (se [q 36 [40,13] (.ld true 4 6),q 37 [40,13] (.ld true 4 7),m 38 11,m 39 11,o 40 (.mk 40 1 8 [z] 39 39),m 41 11,bi 42 .mul (k 3) 41,ad 43 42 k1,o 44 (.build [z,z,z,z,z,z,z,z,z,.nil,.nil,z] [(0,4,36),(4,4,37),(8,1,38),(10,1,40),(11,1,43)]),al 13 [z,z,z,z,z,z,z,z,z,.nil,.nil,z],so 12 13 44] (rl [6,7] 36 9) (sd [m 45 11,ad 46 45 k1,o 47 (.mk 47 1 8 [z] 46 46),m 14 47] [45,46,47] (s (sd [m 48 11,m 15 48] [48] (b 0 (w LZ.l1))) (sd [m 84 11,ad 85 84 k1,o 86 (.mk 86 1 8 [z] 85 85),m 16 86] [15,50,84,85,86] (sd [m 87 16,m 88 14,ia 89 1 88 k0,uu 90 1 89,ia 91 1 87 k0,so 1 91 90] (ra 87 5) (se [m 92 14,ia 93 1 92 k0,q 94 [17] (.ld false 1 93),m 95 1,ia 96 1 95 k0,q 97 [17] (.ld false 1 96),o 98 (.build [z,z] [(0,1,94),(1,1,97)]),o 99 (.a7 99 2 [98]),o 100 (.build [.nil] [(0,1,99)]),al 17 [.nil],so 1 17 100] (ra 92 9)
 (s (sp [mv 18 k1] (b 2 (w LZ.l2))) (sd [fa 158 13 9,uu 159 1 158,tt 160 1 17,o 161 (.a7 161 1 [160]),o 162 (.app 162 1 24 159 161),fa 163 13 9,so 1 163 162] (rl [0,1,11,12,14,16,17,18,103] 158 6) (sd [tt 164 12 13,so 12 8 164,mv 9 k0] [13,164] .ret)))))))))))))),[.cell 8 true 12,.tmp 9],false⟩
def VO:AFn:=⟨2,(sd [bx 2 0,mv 4 (.c .nil)] [0,4] (sd [fa 8 2 1,uu 9 1 8,cu 10 9,bi 11 .shl k1 10,m 5 11] (rl [2] 8 4) (s (sd [m 12 1,ca 13 35 [12,k0],ca 14 34 [13,(k 3)]] [12,13] (b 0 (sd [bi 16 .eql 14 k0,m 15 16] [16] (i 15 (sd [mv 4 (.c .nil)] [1,5,14,15] .ret) (sd [bi 18 .eql 14 k1,m 17 18] [14,15,18] (i 17 (sd [m 19 5,bi 20 .mul 19 (k 3),bi 21 .quo 20 (k 4),m 22 1,ca 23 35 [22,k1],o 24 (.a7 24 1 [23]),ca 25 40 [21,24,k1],m 4 25] (rl [1,5,17] 19 7) .ret) .skip)))))) (sd [m 26 5,bi 27 .quo 26 (k 2),m 28 1,ca 29 35 [28,k1],o 30 (.a7 30 1 [29]),ca 31 40 [27,30,k1],ia 32 1 31 k0,uu 33 1 32,m 6 33] (rl [17] 26 8) (sd [m 34 5,m 35 6,ad 36 34 35,bi 37 .quo 36 (k 2),m 38 1,ca 39 35 [38,(k 2)],o 40 (.a7 40 1 [39]),ca 41 40 [37,40,k1],ia 42 1 41 k0,uu 43 1 42,m 7 43] (rl [1,5] 34 10) (sd [m 44 7,m 45 6,o 46 (.a7 46 1 [44,45]),m 4 46] [6,7,44,45,46] .ret)))))),[.tmp 4],false⟩
structure bm (L:Lib):Prop extends m6 L where
 KF:L 345=some F.KF
 LZ:L 346=some F.LZ
 VO:L 347=some F.VO
def KG:AFn:=⟨1,(sd [bx 1 0,al 2 [z,z,z,z,z,z,z,z,z,.nil,.nil,z],mv 3 kf] [0,3] (se [fa 11 1 1,q 12 [4,5] (.ld false 1 11),q 13 [4,5] (.call 36 [12,(k 5),(k 8),k1]),fa 14 1 2,q 15 [4,5] (.ld false 1 14),q 16 [4,5] (.call 36 [15,(k 4),(k 6),k1]),al 4 [z,z,z,z],al 5 [z,z,z,z],so 4 4 13,so 4 5 16] (ra 11 6) (se [fa 17 5 0,uu 18 1 17,sb 19 18 k1,cu 20 19,bi 21 .shl k1 20,sb 22 21 k1,fa 23 1 3,uu 24 1 23,fa 25 1 3,uu 26 1 25,ln 27 26,ca 28 34 [27,(k 3)],ad 29 k1 28,ca 30 40 [22,24,29],m 6 30] (ra 17 14) (sd [tt 31 4 5,fa 32 1 4,uu 33 1 32,ca 34 347 [31,33],m 7 34] (ra 31 4) (sp [al 8 [z,z,z,z,z,z,z,z,z,.nil,.nil,z]] (sd [mv 9 k0] [9]
 (s (sd [fa 35 1 0,uu 36 1 35,ca 37 34 [36,(k 4)]] [35,36] (b 0 (sd [bi 69 .eql 37 k0,m 68 69] [69] (i 68 (d [m 71 6,m 72 7,tt 73 4 4,tt 74 4 5,ca 75 50 [71,72,73,74],m 70 75,et 76 70 0,et 77 70 1,so 12 8 76,m 9 77] (rl [1,4,5,6,7,37,68] 70 8)) (sd [bi 79 .eql 37 k1,m 78 79] [68,79] (i 78 (d [m 81 6,m 82 7,tt 83 4 4,tt 84 4 5,ca 85 51 [81,82,83,84],m 80 85,et 86 80 0,et 87 80 1,so 12 8 86,m 9 87] (rl [1,4,5,6,7,37,78] 80 8)) (sd [bi 89 .eql 37 (k 2),m 88 89] [37,78,89] (i 88 (d [m 91 6,m 92 7,tt 93 4 4,tt 94 4 5,ca 95 52 [91,92,93,94],m 90 95,et 96 90 0,et 97 90 1,so 12 8 96,m 9 97] (rl [1,4,5,6,7,88] 90 8)) (se [tt 38 4 5,ca 39 41 [38],bi 40 .mul 39 (k 3),bi 41 .quo 40 (k 4),fa 42 1 4,uu 43 1 42,fa 44 1 4,uu 45 1 44,ln 46 45,ca 47 34 [46,(k 3)],ca 48 40 [41,43,47],m 10 48] [6,7,38,39,40,41,42,43,44,45,46,47,48,88] (e [m 50 10,fa 51 5 0,uu 52 1 51,sb 53 52 k1,cu 54 53,bi 55 .shl k1 54,sb 56 55 k1,fa 57 1 3,uu 58 1 57,m 59 10,ln 60 59,ad 61 60 k1,ca 62 40 [56,58,61],tt 63 4 4,tt 64 4 5,ca 65 346 [50,62,63,64],m 49 65,et 66 49 0,et 67 49 1,so 12 8 66,m 9 67] (rl [1,4,5,10] 49 19))))))))))) (sd [tt 98 12 8,m 99 9,bi 100 .eql 99 k0,so 12 2 98,m 3 100] [8,9,98,99,100] .ret)))))))),[.cell 2 true 12,.tmp 3],false⟩
structure fu (L:Lib):Prop extends bm L where
 KG:L 421=some F.KG
def TD:AFn:=⟨0,(sd [mv 0 kf] [0] (sd [ca 9 124 [k1],ca 10 125 [k1,(k 2)],al 1 z3,al 2 z3,so 3 1 9,so 3 2 10] [9,10] (se [q 12 [17,3] (.ld true 3 1),o 13 (.a7 13 3 [12]),q 14 [13,3] (.ld true 3 1),q 15 [13,3] (.ld true 3 2),q 16 [13,3] (.call 152 [15]),o 17 (.a7 17 3 [14,16]),o 18 (.build [.nil,.nil] [(0,1,13),(1,1,17)]),q 19 [3] (.call 207 [18]),m 11 19,et 20 11 0,et 21 11 1,al 3 z6,so 6 3 20,m 4 21] (rl [1,2] 11 11) (sd [tt 23 6 3,ca 24 332 [23],m 22 24,et 25 22 0,et 26 22 1,al 5 z3,so 3 5 25,m 6 26] (ra 22 5) (sd [tt 28 6 3,ca 29 331 [28,k1],m 27 29,et 30 27 0,et 31 27 1,al 7 z3,so 3 7 30,m 8 31] (rl [3] 27 5) (se [m 32 4,bi 33 .eql 32 k0,m 34 33,g 35 34 true (.m5 6),g 36 34 true (.bin .eql 35 k0),pk 37 34 36 kf,m 38 37,g 39 38 true (.m5 8),g 40 38 true (.bin .eql 39 k0),pk 41 38 40 kf,m 42 41,g 43 42 true (.ld true 3 5),g 44 42 true (.call 125 [(k 4),(k 3)]),g 45 42 true (.call 127 [43,44]),g 46 42 true (.bin .eql 45 k0),pk 47 42 46 kf,m 48 47,g 49 48 true (.ld true 3 7),g 50 48 true (.call 125 [k1,(k 3)]),g 51 48 true (.call 127 [49,50]),g 52 48 true (.bin .eql 51 k0),pk 53 48 52 kf,m 0 53] (rl [4,5,6,7,8] 32 22) .ret)))))),[.tmp 0],false⟩
structure ft (L:Lib):Prop extends l8 L where
 TD:L 336=some F.TD
def L0.l1:=(s (sd [m 43 10,fa 44 3 9,uu 45 1 44,ln 46 45,ls 47 43 46,m 48 47,g 49 48 true (.m5 6),g 50 48 true (.bin .eql 49 k0),pk 51 48 50 kf] (ra 43 8) (i 51 .skip (x 0))) (s (b 1 (sd [tt 55 12 3,m 56 10,ca 57 362 [55,56],m 54 57,et 58 54 0,et 59 54 1,al 11 z3,so 3 11 58,m 12 59] (rl [12,51] 54 6) (sd [tt 61 12 3,m 62 10,ca 63 161 [61,62],m 60 63,et 64 60 0,et 65 60 1,al 13 z6,so 6 13 64,m 14 65] (ra 60 6) (sd [tt 67 6 13,ca 68 332 [67],m 66 68,et 69 66 0,et 70 66 1,al 15 z3,so 3 15 69,m 16 70] (rl [13] 66 5) (s (sd [m 71 14,bi 72 .neq 71 k0,m 73 72,g 74 73 false (.m5 16),g 75 73 false (.bin .neq 74 k0),pk 76 73 kt 75] (rl [14,16] 71 5) (i 76 (sd [mv 2 kf] [3,5,6,9,10,11,15,76] .ret) .skip)) (d [m 77 9,m 78 77,g 79 78 true (.ld true 3 11),g 80 78 true (.call 155 [79]),g 81 78 true (.bin .eql 80 k0),g 82 78 true (.m5 81),g 83 82 false (.ld true 3 15),g 84 82 false (.call 155 [83]),g 85 82 false (.bin .eql 84 k0),g 86 78 true (.pick 82 kt 85),pk 87 78 86 kf,m 9 87] (rl [11,15] 76 12))))))) (d [m 52 10,ad 53 52 k1,m 10 53] [52,53])))
def L0:AFn:=⟨1,(sd [bx 1 0,mv 2 kf] [0,2] (sd [tt 18 5 1,ca 19 421 [18],m 17 19,et 20 17 0,et 21 17 1,al 3 [z,z,z,z,z,z,z,z,z,.nil,.nil,z],so 12 3 20,m 4 21] (rl [1] 17 5) (s (sd [m 22 4,nt 23 22] [4,22] (i 23 (sd [mv 2 kf] [3,23] .ret) .skip)) (sd [tt 25 12 3,ca 26 419 [25],m 24 26,et 27 24 0,et 28 24 1,al 5 z3,so 3 5 27,m 6 28] (ra 23 6) (sd [tt 30 12 3,ca 31 420 [30],m 29 31,et 32 29 0,et 33 29 1,al 7 z3,so 3 7 32,m 8 33] (ra 29 5) (s (sd [m 34 6,m 35 8,bi 36 .neq 34 35,m 37 36,g 38 37 false (.ld true 3 5),g 39 37 false (.ld true 3 7),g 40 37 false (.call 127 [38,39]),g 41 37 false (.bin .neq 40 k0),pk 42 37 kt 41] (rl [7,8] 34 8) (i 42 (sd [mv 2 kf] [3,5,6,42] .ret) .skip)) (sd [mv 9 kt] [42] (s (sp [mv 10 k0] (b 0 (w L0.l1))) (sd [ca 88 336 [],m 89 88,g 90 89 true (.m5 6),g 91 89 true (.bin .neq 90 k0),g 92 89 true (.m5 91),g 93 92 false (.m5 9),g 94 92 false (.ld true 3 5),g 95 92 false (.call 155 [94]),g 96 92 false (.bin .eql 95 k0),g 97 92 false (.beq false 93 96),g 98 89 true (.pick 92 kt 97),pk 99 89 98 kf,m 2 99] (rl [3,5,6,9,10,51] 88 12) .ret))))))))),[.tmp 2],false⟩
structure nu (L:Lib):Prop extends aq L,fu L,ft L where
 L0:L 422=some F.L0
end Go.c6.F

namespace Go.c6
def eJ:Value->AV->Bool
 | .int k n,.int k' n'=>k == k'&&n == n'
 | .bool b,.bool b'=>b == b'
 | .slice none 0 0,.nil=>true
 | .string s,.cp (.string s')=>s.data.toList == s'.data.toList
 | .nilFunc,.cp .nilFunc=>true
 | _,_=>false
def QM:List Value->u_->Bool
 | [],[]=>true
 | v::r,a::l=>eJ v a&&QM r l
 | _,_=>false
def mO:Value->AV->Bool
 | .agg cs,.agg l=>QM cs.toList l
 | v,a=>eJ v a
def B5:Operand->AU->Bool
 | .tmp t,.t n=>t == n
 | .const v,.c a=>mO v a
 | .func g,.c (.fn _ _ g' [])=>g == g'
 | _,_=>false
def EV:List Operand->List AU->Bool
 | [],[]=>true
 | v::r,a::l=>B5 v a&&EV r l
 | _,_=>false
def OM:Option Operand->Option AU->Bool
 | none,none=>true
 | some x,some y=>B5 x y
 | _,_=>false
section
variable (P:Program)
def V1 (t:TypeId):Option Bool :=
 match P.underlying t with
 | some (.struct _)=>some true
 | some (.array _ _)=>some true
 | some _=>some false
 | none=>none
def J5 (t:TypeId) (n:Nat):Bool:=match P.info? t with|some i=>i.size == n|none=>false
def ZZ (t:TypeId) (n:Nat):Bool:=match P.info? t with|some i=>i.bytes == n|none=>false
def XT (t:TypeId) (l:u_):Bool:=match P.info? t with|some i=>(match i.zero with|some z=>QM z.cells.toList l|none=>false)|none=>false
def LF (t:TypeId) (f:TypeId->Bool):Bool:=match P.underlying t with|some (.slice e)=>f e|_=>false
def yW (t:TypeId) (i off n:Nat):Bool:=match P.underlying t with
 | some (.struct fs)=>(match fs[i]? with|some f=>f.offset == off&&J5 P f.type n&&n != 0|none=>false)
 | _=>false
def yX (t:TypeId) (i:Nat) (agg:Bool):Bool:=match P.underlying t with
 | some (.struct fs)=>(match fs[i]? with|some f=>V1 P f.type == some agg|none=>false)
 | _=>false
def W4 (place:Nat->Option (Nat × Nat)):List (Nat × Operand)->List (Nat × Nat × AU)->Bool
 | [],[]=>true
 | (i,x)::r,(off,n,y)::l=>place i == some (off,n)&&B5 x y&&W4 place r l
 | _,_=>false
def kR (t:TypeId) (ps:List (Nat × Operand)) (ff:List (Nat × Nat × AU)):Bool:=match P.underlying t with
 | some (.struct fs)=>(match fs.toList.mapM (λ f=>(P.info? f.type).map λ i=>(f.offset,i.size)) with|some places=>W4 (places.toArray[·]?) ps ff|none=>false)
 | some (.array _ e)=>(match P.info? e with|some ie=>W4 (λ i=>some (i*ie.size,ie.size)) ps ff|none=>false)
 | _=>false
def WF (k:Nat):List (Nat × Operand)->List AU->Bool
 | [],[]=>true
 | (i,x)::r,y::l=>i == k&&B5 x y&&WF (k+1) r l
 | _,_=>false
def fieldsI:Nat->List Field->Nat->Bool
 | k,[],n=>k == n
 | k, f :: fs, n => f.name != "_" && f.offset == k && (match P.underlying f.type with | some (.int _) => true | _ => false) && fieldsI (k + 1) fs n
def nI (t:TypeId) (n:Nat):Bool:=(match P.underlying t with|some (.struct fs)=>fieldsI P 0 fs.toList n|_=>false) && !P.stoodInHeld t && !P.eqGuardType P.depth t
def BI (num:Nat->Nat) (op:Op):EI->Bool
 | .m5 y=>match op with | .move x=>B5 x y | .assign x=>B5 x y|_=>false
 | .v5 _ z=>z != 0&&(match op with | .move (.const (.slice none 0 0))=>true | .assign (.const (.slice none 0 0))=>true|_=>false)
 | .pick c' a' b'=>match op with | .pick c a b=>B5 c c'&&B5 a a'&&B5 b b'|_=>false
 | .bin Em x' y'=>match op with | .binOp op _ x y _=>op == Em&&B5 x x'&&B5 y y'|_=>false
 | .beq ne x' y'=>match op with | .binOp op t x y _=>(if ne then op == .neq else op == .eql)&&(match P.underlying t with|some .bool=>true|_=>false)&&B5 x x'&&B5 y y'|_=>false
 | .un Em x'=>match op with | .unOp op _ x=>op == Em&&B5 x x'|_=>false
 | .conv k x'=>match op with | .convert s d x=>(P.underlying s).isSome&&(match P.underlying d with|some (.int k')=>k == k'|_=>false)&&B5 x x'|_=>false
 | .box _ x'=>match op with | .box _ x=>B5 x x'|_=>false
 | .alloc _ z=>match op with | .alloc t=>XT P t z|_=>false
 | .build z ff=>match op with | .build t ps=>XT P t z&&kR P t ps.toList ff|_=>false
 | .a7 _ a8 ff=>match op with
  | .buildSlice t n ps=>LF P t (λ e=>J5 P e a8)&&a8 != 0&&n == ff.length&&decide (n*a8<=16777216)&&WF 0 ps.toList ff&&(n == 0||LF P t (λ e=>match P.info? e with|some i=>(match i.zero with|some z=>z.cells.size == a8|none=>false)|none=>false))
  | _=>false
 | .j4 x' off=>match op with
  | .fieldAddr s x f=>B5 x x'&&(match P.underlying s with|some (.struct fs)=>(match fs[f]? with|some fd=>fd.offset == off&&(match P.info? fd.type with|some i=>i.size != 0|none=>false)|none=>false)|_=>false)
  | _=>false
 | .pn x' off n agg=>match op with | .field t x f=>B5 x x'&&yW P t f off n&&yX P t f agg|_=>false
 | .u6 arr a8 x' i'=>match op with
  | .indexAddr t x i=>B5 x x'&&B5 i i'&&(match P.underlying t,arr with|some (.array len e),some ur=>len == ur&&J5 P e a8&&decide (1<len)|some (.slice e),none=>J5 P e a8&&a8 != 0|_,_=>false)
  | _=>false
 | .ld agg n x'=>match op with | .load t x=>B5 x x'&&V1 P t == some agg&&(if agg then J5 P t n else n == 1)|_=>false
 | .vm agg n x'=>match op with | .load t x=>B5 x x'&&V1 P t == some agg&&(if agg then J5 P t n else n == 1)|_=>false
 | .st n x' v'=>match op with | .store t x v=>B5 x x'&&B5 v v'&&J5 P t n|_=>false
 | .mk _ a8 bytes z l' c'=>match op with
  | .makeSlice t l c=>B5 l l'&&B5 c c'&&LF P t (λ e=>J5 P e a8&&ZZ P e bytes&&XT P e z)&&a8 != 0
  | _=>false
 | .di a8 x' qe o5=>match op with
  | .slice t x lo hi none=>B5 x x'&&OM lo qe&&OM hi o5&&LF P t (λ e=>J5 P e a8)&&a8 != 0
  | _=>false
 | .ext x' i'=>match op with | .extract x i=>B5 x x'&&i == i'|_=>false
 | .len x'=>match op with
  | .call ⟨.builtin .len,xs,ts⟩=>(match xs.toList,ts.toList with|[x],[t]=>B5 x x'&&LF P t (λ_=>true)|_,_=>false)
  | _=>false
 | .mm max n0=>match op with
  | .call ⟨.builtin .min,xs,_⟩ => !max&&EV xs.toList n0
  | .call ⟨.builtin .max,xs,_⟩=>max&&EV xs.toList n0
  | _=>false
 | .app _ a8 bytes x' y'=>match op with
  | .call ⟨.builtin .append,xs,ts⟩=>(match xs.toList,ts.toList with
   | [x,y],[t,u]=>B5 x x'&&B5 y y'&&LF P t (λ e=>J5 P e a8&&ZZ P e bytes&&(match P.info? e with|some i=>(match i.zero with|some z=>z.cells.size == a8|none=>false)|none=>false))&&a8 != 0&&LF P u (λ_=>true)
   | _,_=>false)
  | _=>false
 | .call f' n0=>match op with
  | .call ⟨.value (.func f),xs,_⟩=>f == num f'&&EV xs.toList n0
  | _=>false
 | .c7 f' n0=>match op with
  | .call ⟨.value (.func f),xs,_⟩=>f == num f'&&EV xs.toList n0
  | _=>false
 | .cg _ f' n0=>match op with
  | .call ⟨.value (.func f),xs,_⟩=>f == num f'&&EV xs.toList n0
  | _=>false
 | .uq ne x'=>match op with
  | .binOp op t x (.const (.slice none 0 0)) _=>(if ne then op == .neq else op == .eql)&&LF P t (λ_=>true)&&B5 x x'
  | _=>false
 | .bad=>true
 | .fx x'=>match op with
  | .call ⟨.builtin .cap,xs,ts⟩=>(match xs.toList,ts.toList with|[x],[t]=>B5 x x'&&LF P t (λ_=>true)|_,_=>false)
  | _=>false
 | .pg _ a8 bytes x' y'=>match op with
  | .call ⟨.builtin .append,xs,ts⟩=>(match xs.toList,ts.toList with
   | [x,y],[t,u]=>B5 x x'&&B5 y y'&&LF P t (λ e=>J5 P e a8&&ZZ P e bytes&&(match P.info? e with|some i=>(match i.zero with|some z=>z.cells.size == a8|none=>false)|none=>false))&&a8 != 0&&(match P.underlying u with|some (.int _)=>true|_=>false)
   | _,_=>false)
  | _=>false
 | .gx tb i'=>match op with
  | .index t (.const (.string s)) i=>(match P.underlying t with|some .string=>true|_=>false)&&s.data.toList.map (λ b=>b.toNat) == tb&&B5 i i'
  | _=>false
 | .ri _ f' n0=>match op with
  | .makeFunc (.func f) first xs=>f == num f'&&first.toList.isEmpty&&EV xs.toList n0
  | _=>false
 | .ti f' x'=>match op with
  | .makeFunc (.func f) first xs=>f == num f'&&(match first.toList with|[x]=>B5 x x'|_=>false)&&xs.toList.isEmpty
  | _=>false
 | .j6 f' n0=>match op with
  | .call ⟨.value (.func f),xs,_⟩=>f == num f'&&EV xs.toList n0
  | _=>false
 | .tk ne n x' y'=>match op with | .binOp op t x y _=>(if ne then op == .neq else op == .eql)&&nI P t n&&B5 x x'&&B5 y y'|_=>false
 | .n7 _ f' n0=>match op with
  | .call ⟨.value (.func f),xs,_⟩=>f == num f'&&EV xs.toList n0
  | _=>false
 | .pe _ n x' v'=>match op with | .store t x v=>B5 x x'&&B5 v v'&&J5 P t n|_=>false
 | .m9 x' n0=>match op with
  | .call ⟨.value x,xs,_⟩=>B5 x x'&&EV xs.toList n0
  | _=>false
def aX (ops:Array Oper):Option (Nat × Bool)->Option (Nat × Bool)->Bool
 | none,none=>true
 | some (j,b),some (t,b')=>b == b'&&(match ops[j]? with|some o=>o.dst == some t|none=>false)
 | _,_=>false
def gY (num:Nat->Nat) (N:Nat) (ops:Array Oper) (o:Oper) (a:AI):Bool :=
 o.dst == a.dst&&(match a.dst with|some d=>decide (d<N)|none=>true)&&aX ops o.guard a.guard&&BI P num o.op a.op
def Q8 (num:Nat->Nat) (N:Nat) (ops:Array Oper):List Oper->List AI->Bool
 | [],[]=>true
 | o::r,a::l=>gY P num N ops o a&&Q8 num N ops r l
 | _,_=>false
def HJ:EI->Bool
 | .st .. | .app .. | .c7 .. | .m9 .. => true
 | _=>false
def W9:EI->Bool
 | .ld .. | .call .. | .n7 .. => true
 | _=>false
def L5 (a:EI):Bool:=HJ a||W9 a||(E3 a).isSome
def C6:AU->N'
 | .t n=>[n]
 | .c _=>[]
def pL:Option AU->N'
 | some x=>C6 x
 | none=>[]
def IH:EI->N'
 | .m5 x=>C6 x
 | .v5 _ _=>[]
 | .pick c a b=>C6 c++C6 a++C6 b
 | .bin _ x y=>C6 x++C6 y
 | .beq _ x y=>C6 x++C6 y
 | .un _ x=>C6 x
 | .conv _ x=>C6 x
 | .box _ x=>C6 x
 | .alloc _ _=>[]
 | .build _ ps=>ps.flatMap (λ p=>C6 p.2.2)
 | .a7 _ _ ps=>ps.flatMap C6
 | .j4 x _=>C6 x
 | .pn x _ _ _=>C6 x
 | .u6 _ _ x i=>C6 x++C6 i
 | .ld _ _ x=>C6 x
 | .vm _ _ x=>C6 x
 | .st _ x v=>C6 x++C6 v
 | .mk _ _ _ _ l c=>C6 l++C6 c
 | .di _ x lo hi=>C6 x++pL lo++pL hi
 | .ext x _=>C6 x
 | .len x=>C6 x
 | .mm _ xs=>xs.flatMap C6
 | .app _ _ _ x y=>C6 x++C6 y
 | .call _ xs=>xs.flatMap C6
 | .c7 _ xs=>xs.flatMap C6
 | .uq _ x=>C6 x
 | .gx _ x=>C6 x
 | .ri _ _ xs=>xs.flatMap C6
 | .ti _ x=>C6 x
 | .m9 x xs=>C6 x++xs.flatMap C6
 | .j6 _ xs=>xs.flatMap C6
 | .pe _ _ x v=>C6 x++C6 v
 | .n7 _ _ xs=>xs.flatMap C6
 | .cg _ _ xs=>xs.flatMap C6
 | .tk _ _ x y=>C6 x++C6 y
 | .bad=>[]
 | .fx x=>C6 x
 | .pg _ _ _ x y=>C6 x++C6 y
def YR (x:AI):N':=IH x.op++(match x.guard with|some (g,_)=>[g]|none=>[])++x.dst.toList
def JV (b:Array Nat) (i j:Nat):Bool:=(b.getD (max i j) 0).testBit (min i j)
def OP (x:AI):Option Nat:=match x.op,x.b7 with
 | .c7 _ _,[s]=>some s
 | _,_=>none
def YO (x y:AI):Bool:=match OP x with
 | some s=>E3 y.op == some s&&(!HJ y.op && !W9 y.op)
 | none=>false
def Wy (b:Array Nat) (x:AI) (i:Nat) (y:AI) (j:Nat):Bool :=
 i == j||JV b i j ||
  ((match y.dst with|some t => !(YR x).contains t|none=>true) &&
   (!HJ x.op || !L5 y.op||YO x y) &&
   (!W9 x.op||(match E3 y.op with|some s=>x.b7.contains s|none=>true)) )
def WD (ops:Array Oper) (l:List AI):Bool :=
 let b:=Region.before ops
 (l.zipIdx.all λ(x,i)=>l.zipIdx.all λ(y,j)=>Wy b x i y j&&(i == j||JV b i j||(match E3 x.op,E3 y.op with|some s,some s'=>s != s'|_,_=>true))) &&
 (ops.toList.zipIdx.all λ(o,i)=>o.after.all λ e=>decide (e.on<i)||(match e.ground with | .gcOnly _=>true|_=>false)) &&
 (!Region.departs ops||(List.range ops.size).all (λ i=>(Region.linearise .gc ops 0).contains i))
def FQ (num:Nat->Nat) (N:Nat):Code->BK->Bool
 | c,.dr a _ _=>FQ num N c a
 | c',.skip=>match c' with | .skip=>true | .label _=>true|_=>false
 | c',.scope a=>match c' with | .scope c=>FQ num N c a|_=>false
 | c',.ops l sj=>match c' with | .region _ ops draw=>draw == sj&&Q8 P num N ops ops.toList l&&(!draw||WD ops l)|_=>false
 | c',.seq a' b'=>match c' with | .seq a b=>FQ num N a a'&&FQ num N b b'|_=>false
 | c',.cond x' a' b'=>match c' with | .cond x a b=>B5 x x'&&FQ num N a a'&&FQ num N b b'|_=>false
 | c',.block i' a=>match c' with | .block i c=>i == i'&&FQ num N c a|_=>false
 | c',.loop a=>match c' with | .loop c=>FQ num N c a|_=>false
 | c',.exit i'=>match c' with | .exit i=>i == i'|_=>false
 | c',.ret=>match c' with | .ret=>true|_=>false
def NJ:List ResultVar->List KW->Bool
 | [],[]=>true
 | .tmp t::r,.tmp t'::l=>t == t'&&NJ r l
 | .cell a t::r,.cell a' agg n::l=>a == a'&&V1 P t == some agg&&(if agg then J5 P t n else n == 1)&&NJ r l
 | _,_=>false
def okFn (num:Nat->Nat) (fn:Func) (a:AFn):Bool :=
 fn.params.size+fn.nfree == a.ay&&decide (a.ay<=fn.ntmps)&&NJ P fn.results.toList a.res&&(match fn.body with|some c=>FQ P num fn.ntmps c a.body|none=>false)
end
end Go.c6





namespace Go.c6
abbrev BB:Nat:=4294967296
@[irreducible] def E9 (a b : Nat) : Nat := (a + 18446744073709551616 - b) % 18446744073709551616
theorem XP (a b:Nat):E9 a b=(a+18446744073709551616-b)%18446744073709551616:=by unfold E9;rfl
def val:N'->Nat
 | []=>0
 | d::l=>d+4294967296*val l
def A7 (l:N'):Prop := ∀ d∈l,d<4294967296
def dg (n:Nat):N':=if h:n=0 then [] else n%4294967296::dg (n/4294967296)
termination_by n
decreasing_by omega
theorem FY:dg 0=[]:=by rw[dg];simp
theorem KB {n:Nat} (h:n≠0):dg n=n%4294967296::dg (n/4294967296):=by rw[dg];simp [h]
theorem J7:val []=0:=rfl
theorem RM (d:Nat) (l:N'):val (d::l)=d+4294967296*val l:=rfl
theorem B2 (n:Nat):val (dg n)=n:=by
 induction n using Ca with
 | ind n ih =>
  by_cases h:n=0
  ·subst h;rw[FY];rfl
  ·rw[KB h,RM,ih _ O']
   omega
theorem EF (n:Nat):A7 (dg n):=by
 induction n using Ca with
 | ind n ih =>
  by_cases h:n=0
  ·subst h;rw[FY];intro d hd;cases hd
  ·rw[KB h]
   intro d hd;rcases Hb.1 hd with rfl|hd
   ·omega
   ·exact ih _ O' d hd
theorem A7.tail {d:Nat} {l:N'} (h:A7 (d::l)):A7 l:=λ x hx=>h x (List.mem_cons_of_mem _ hx)
theorem A7.head {d:Nat} {l:N'} (h:A7 (d::l)):d<4294967296:=h d List.mem_cons_self
theorem A7.at {l:N'} (h:A7 l) {i d:Nat} (hd:l[i]? = some d):d<4294967296:=h d (zM hd)
theorem A7.take {l:N'} (h:A7 l) (n:Nat):A7 (l.take n):=λ x hx=>h x (List.mem_of_mem_take hx)
theorem A7.drop {l:N'} (h:A7 l) (n:Nat):A7 (l.drop n):=λ x hx=>h x (List.mem_of_mem_drop hx)
theorem X8:A7 []:=λ_ h=>by cases h
theorem A7.append {a b:N'} (h:A7 a) (h':A7 b):A7 (a++b):=λ x hx=>(List.mem_append.1 hx).elim (h x) (h' x)
theorem IP {d:Nat} (h:d<4294967296):A7 [d]:=λ x hx=>by simp at hx;omega
theorem A7.set {l:N'} (h:A7 l) (i:Nat) {d:Nat} (hd:d<4294967296):A7 (l.set i d):=λ x hx=>by
 rcases List.mem_or_eq_of_mem_set hx with h1|h1
 ·exact h x h1
 ·omega
theorem KC (n:Nat):A7 (ya n 0):=λ x hx=>by rw[(List.mem_replicate.1 hx).2];omega
theorem ZF (a b:N'):val (a++b)=val a+4294967296^a.length*val b:=by
 induction a with
 | nil=>simp [val]
 | cons d l ih=>rw[List.cons_append,RM,RM,ih,oa,ob];grind
theorem NX (l:N') (v:Nat):val (l++[v])=val l+4294967296^l.length*v:=by
 rw[ZF];simp [val]
theorem FZ {l:N'} (h:A7 l):val l<4294967296^l.length:=by
 induction l with
 | nil=>simp [val]
 | cons d l ih =>
  have h1:=ih h.tail;have h2:=h.head;rw[RM,oa,ob];omega
theorem EO {l:N'} {i v:Nat} (h:l[i]? = some v):val (l.take (i+1))=val (l.take i)+4294967296^i*v:=by
 have hi:=(zS h).1;rw[Ob,h,Option.toList_some,NX,ea,Qa O']
theorem LI (l:N') (i:Nat) (h:i<=l.length):val l=val (l.take i)+4294967296^i*val (l.drop i):=by
 have:=ZF (l.take i) (l.drop i)
 rw[List.take_append_drop,ea,Qa h]at this;exact this
theorem jP (n:Nat):val (ya n 0)=0:=by
 induction n with
 | zero=>rfl
 | succ n ih=>rw[List.replicate_succ,RM,ih]
theorem Af6 {l:N'} (h:A7 l) (ht:l=[] \/ ∃ d,l[l.length-1]? = some d/\d≠0):dg (val l)=l:=by
 induction l with
 | nil=>exact FY
 | cons d l ih =>
  have h1:=h.head;by_cases hl:l=[]
  ·subst hl
   rcases ht with ht|⟨x,hx,qy⟩
   ·cases ht
   ·simp at hx
    subst hx;rw[RM,J7,KB O',show (d+4294967296*0)/4294967296=0 by omega,FY,show (d+4294967296*0)%4294967296=d by omega]
  ·have nm : ∃ x,l[l.length-1]? = some x/\x≠0:=by
    rcases ht with ht|⟨x,hx,qy⟩
    ·cases ht
    ·refine ⟨x,?_,qy⟩
     have:l.length≠0:=λ e=>hl (Ga e)
     rw[oa,show l.length+1-1=(l.length-1)+1 by omega,ub]at hx;exact hx
   have Rp:=ih h.tail (Or.inr nm);have ug:val l≠0:=by
    intro e;rw[e,FY]at Rp;exact hl Rp.symm
   rw[RM,KB O',show (d+4294967296*val l)/4294967296=val l by omega,Rp,show (d+4294967296*val l)%4294967296=d by omega]
theorem HD {l:N'} (h:A7 l) {n:Nat} (hn:n<=l.length) (hz : ∀ i,n<=i->i<l.length->l[i]? = some 0) (ht:n=0 \/ ∃ d,l[n-1]? = some d/\d≠0):l.take n=dg (val l):=by
 have hv:val l=val (l.take n):=by
  have h0:l.drop n=ya (l.length-n) 0:=by
   apply List.ext_getElem?;intro i;rw[List.getElem?_drop,List.getElem?_replicate];by_cases hi:n+i<l.length
   ·rw[hz (n+i) O' hi,if_pos O']
   ·rw[List.getElem?_eq_none O',if_neg O']
  rw[LI l n hn,h0,jP];omega
 rw[hv];refine (Af6 (h.take n) ?_).symm;rcases ht with rfl|⟨d,hd,vb⟩
 ·exact Or.inl Z'
 ·have j9:=(zS hd).1
  by_cases Ao:n=0
  ·subst Ao;exact Or.inl Z'
  ·refine Or.inr ⟨d,?_,vb⟩
   rw[ea,Qa hn,List.getElem?_take,if_pos O'];exact hd
theorem OH {n k:Nat}:(dg n).length<=k↔n<4294967296^k:=by
 induction k generalizing n with
 | zero =>
  by_cases h:n=0
  ·subst h;simp [FY]
  ·rw[KB h];simp;omega
 | succ k ih =>
  by_cases h:n=0
  ·subst h;simp [FY];exact Pb Z'
  ·rw[KB h,oa,Nat.succ_le_succ_iff,ih,ob]
   rw[ua O']
theorem FN {l:N'} (h:A7 l):(dg (val l)).length<=l.length:=OH.2 (FZ h)
theorem lX {n:Nat} (h:n≠0) : ∃ d,(dg n)[(dg n).length-1]? = some d/\d≠0:=by
 induction n using Ca with
 | ind n ih =>
  rw[KB h];by_cases h2:n/4294967296=0
  ·rw[h2,FY]
   exact ⟨n%4294967296,Z',O'⟩
  ·obtain ⟨d,hd,vb⟩:=ih _ O' h2
   refine ⟨d,?_,vb⟩;have hl:(dg (n/4294967296)).length≠0:=λ e=>by rw[Ga e]at hd;simp at hd
   rw[oa,show (dg (n/4294967296)).length+1-1=(dg (n/4294967296)).length-1+1 by omega,ub];exact hd
theorem lT {n:Nat}:dg n=[]↔n=0:=by
 constructor
 ·intro h
  by_cases h0:n=0
  ·exact h0
  ·rw[KB h0]at h;cases h
 ·rintro rfl;exact FY
theorem aB {n:Nat} (h:n≠0):1<=(dg n).length:=by rw[KB h];simp
theorem Amx {o:N'} {i v:Nat} (h:i<o.length):(o.set i v).take (i+1)=o.take i++[v]:=by
 rw[Ob,qb h,Rb (xa i)];rfl
theorem G4 {o:N'} {i v:Nat} (h:i<o.length):val ((o.set i v).take (i+1))=val (o.take i)+4294967296^i*v:=by
 rw[Amx h,NX,ea,Qa O']
theorem QI (V p t:Nat):V+p*(t%4294967296)+p*4294967296*(t/4294967296)=V+p*t:=by
 have h:=Ba t 4294967296;have:p*(t%4294967296)+p*4294967296*(t/4294967296)=p*t:=by
  rw[Pa,<-Ra,h]
 omega
theorem DM {l:N'} {n:Nat} (h:l.length<=n):val (l.take n)=val l:=by rw[zT h]
theorem Vf (i:Nat):1<=4294967296^i:=Pb Z'
theorem II {l:N'} {i d:Nat} (h:l[i]? = some d):val (l.drop i)=d+4294967296*val (l.drop (i+1)):=by
 obtain ⟨hi,rfl⟩:=zS h;rw[List.drop_eq_getElem_cons hi,RM]
theorem jL {a b:N'} (ha:A7 a) (hb:A7 b) (hl:a.length=b.length) {i:Nat} {x y:Nat} (hx:a[i]? = some x) (hy:b[i]? = some y) (he:a.drop (i+1)=b.drop (i+1)) (h:x<y):val a<val b:=by
 have hia:=(zS hx).1;have Ks:=(zS hy).1;rw[LI a i O',LI b i O',II hx,II hy,he];have h1:=FZ (ha.take i);rw[ea,Qa O']at h1;generalize val (b.drop (i+1))=r;generalize 4294967296^i=p at *;have:p*(x+4294967296*r)+p<=p*(y+4294967296*r):=by
  rw[<-nb];exact va p O'
 omega
theorem jM {o:N'} {k v old:Nat} (h:o[k]? = some old):val (o.set k v)+4294967296^k*old=val o+4294967296^k*v:=by
 have hk:=(zS h).1;have h1:val (o.set k v)=val (o.take k)+4294967296^k*(v+4294967296*val (o.drop (k+1))):=by
  rw[LI (o.set k v) k G',Rb (xa k),II (l:=o.set k v) (d:=v) (by rw[qb hk]),List.drop_set_of_lt O']
 have h2:val o=val (o.take k)+4294967296^k*(old+4294967296*val (o.drop (k+1))):=by
  rw[LI o k O',II h]
 rw[h1,h2,Ra,Ra];omega
theorem cD {l:N'} (h:A7 l):l.take (dg (val l)).length=dg (val l):=by
 induction l with
 | nil=>rw[J7,FY];rfl
 | cons d l ih =>
  have h1:=h.head;by_cases h0:val (d::l)=0
  ·rw[h0,FY];rfl
  ·rw[KB h0,RM,show (d+4294967296*val l)/4294967296=val l by omega,show (d+4294967296*val l)%4294967296=d by omega,oa,List.take_succ_cons,ih h.tail]
theorem ZG {a b:Nat} (h:(dg a).length<(dg b).length):a<b:=by
 have h1:a<4294967296^(dg a).length:=OH.1 (xa _);have h2 : ¬ b<4294967296^((dg b).length-1):=λ h3=>by have:=OH.2 h3;omega
 have h3:4294967296^(dg a).length<=4294967296^((dg b).length-1):=Ma O' O';omega
end Go.c6

namespace Go.c6
section
variable {U V UL VL p u0 u1 u2 v1 v2 top q r:Nat}
theorem Ajq (hU:U=UL+p*(u2+4294967296*top)) (hV:V=VL+p*(v2+4294967296*v1)) (hl:UL<p) (h2:u2<4294967296) (ag:0<V):U/V*v1<=top:=by
 have h1:U/V*V<=U:=Qb U V;generalize U/V=Q at *;have h3:U<p*(4294967296*(top+1)):=by
  have:p*(u2+4294967296*top)+p<=p*(4294967296*(top+1)):=by
   rw[<-nb];exact va p O'
  omega
 have h4:p*(4294967296*(Q*v1))<=Q*V:=by
  have e:Q*V=Q*VL+Q*(p*v2)+p*(4294967296*(Q*v1)):=by rw[hV];grind
  omega
 have h5:p*(4294967296*(Q*v1))<p*(4294967296*(top+1)):=O'
 have:=Nat.lt_of_mul_lt_mul_left h5
 omega
theorem Ajp (hU:U=UL+p*(u2+4294967296*top)) (hV:V=VL+p*(v2+4294967296*v1)) (hl:UL<p) (hq:q*v1+r=top) (h:r*4294967296+u2<q*v2) (ag:0<V):U/V<q:=by
 rw[ua ag];have e:q*V=q*VL+p*(q*v2+4294967296*(q*v1)):=by rw[hV];grind
 have h1:p*(u2+4294967296*top)+p<=p*(q*v2+4294967296*(q*v1)):=by
  rw[<-nb];exact va p O'
 omega
theorem Ajo (h:U<4294967296*V) (hq:4294967296<=q) (ag:0<V):U/V<q:=by
 have:U/V<4294967296:=(ua ag).2 h
 omega
theorem zY (hU:U=UL+p*(u2+4294967296*top)) (hV:V=VL+p*(v2+4294967296*v1)) (Dd:VL<p) (h1:2147483648<=v1) (hq:q*v1+r=top) (h:q*v2<=r*4294967296+u2) (hqB:q<4294967296):q<=U/V+1:=by
 have ag:0<V:=by
  have:p*4294967296<=p*(v2+4294967296*v1):=va p O'
  omega
 by_cases h0:q=0
 ·subst h0;exact Nat.zero_le _
 have e:q*V=q*VL+p*(q*v2+4294967296*(q*v1)):=by rw[hV];grind
 have h2:p*(q*v2+4294967296*(q*v1))<=p*(u2+4294967296*top):=va p O';have h3:q*VL<V:=by
  have a1:q*VL<=4294967296*VL:=zR _ O';have a2:p*4294967296<=p*(v2+4294967296*v1):=va p O';omega
 have h4:(q-1)*V<U+1:=by
  have:(q-1)*V+V=q*V:=by
   have:q=q-1+1:=O'
   rw[<-Nat.succ_mul,Nat.succ_eq_add_one,<-this]
  omega
 have h5:q-1<=U/V:=(Na ag).2 O';omega
end
theorem vH {U V U' q:Nat} (ag:0<V) (h1:U/V<=q) (h:U'+q*V=U):q=U/V/\U'=U%V:=by
 have h2:q*V<=U:=O'
 have h3:q<=U/V:=(Na ag).2 h2;have h4:q=U/V:=O'
 have:=Kb U V
 rw[Ia,<-h4]at this;exact ⟨h4,O'⟩
theorem vG {U V U' q P:Nat} (ag:0<V) (h2:q<=U/V+1) (Fa:U'<P) (h:U'+q*V=U+P):q-1=U/V/\1<=q/\U'+V=U%V+P:=by
 have h3:U/V*V<=U:=Qb U V;have h4:U/V<q:=by
  rcases gb (U/V) q with h|h
  ·exact h
  ·have:q*V<=U/V*V:=zR _ h
   omega
 have h6:=Kb U V;rw[Ia]at h6;generalize U/V=Q at *;generalize U%V=R at *;obtain rfl:q=Q+1:=O'
 rw[db,Eb]at h;exact ⟨O',O',O'⟩
theorem jE {u pl bw:Nat} (hu:u<4294967296) (hp:pl<4294967296) (hb:bw<=1):E9 (E9 u pl) bw%4294967296+pl+bw=u+4294967296*(E9 (E9 u pl) bw/9223372036854775808)/\E9 (E9 u pl) bw/9223372036854775808<=1:=by
 rw[XP,XP];omega
theorem Am4 {d e bw:Nat} (hu:d<4294967296) (hp:e<4294967296) (hb:bw<=1):E9 (E9 d bw) e%4294967296+e+bw=d+4294967296*(E9 (E9 d bw) e/9223372036854775808)/\E9 (E9 d bw) e/9223372036854775808<=1:=by
 rw[XP,XP];omega
theorem Am3 {d bw:Nat} (hu:d<4294967296) (hb:bw<=1):E9 d bw%4294967296+bw=d+4294967296*(E9 d bw/9223372036854775808)/\E9 d bw/9223372036854775808<=1:=by
 rw[XP];omega
theorem Xv {V Y X p D e bw cz d:Nat} (h:V+Y=X+p*bw) (hd:D+e+bw=d+4294967296*cz):V+p*D+(Y+p*e)=X+p*d+p*4294967296*cz:=by
 have h2:p*D+p*e+p*bw=p*d+p*4294967296*cz:=by
  rw[<-Ra,<-Ra,hd,Ra,Pa]
 omega
theorem YW {a b:Nat} (ha:a<4294967296) (hb:b<4294967296):a*b<=18446744065119617025 :=
 Ib (show a<=4294967295 by omega) (show b<=4294967295 by omega)
theorem vK {X Y s:Nat} (hs:0<s):X*s/(Y*s)=X/Y/\X*s%(Y*s)/s=X%Y:=by
 refine ⟨Nat.mul_div_mul_right X Y hs,?_⟩;rw[fb,Nat.mul_div_cancel _ hs]
end Go.c6

namespace Go.c6
@[irreducible] def RD (d s : Nat) : Nat := d * 2 ^ s % 4294967296
@[irreducible] def XC (d s : Nat) : Nat := d * 2 ^ s / 4294967296
theorem qJ (d s:Nat):RD d s=d*2^s%4294967296:=by unfold RD;rfl
theorem XD (d s:Nat):XC d s=d*2^s/4294967296:=by unfold XC;rfl
theorem VK {s:Nat} (hs:s<=32):4294967296=2^s*2^(32-s):=by
 rw[<-da,show s+(32-s)=32 by omega]
theorem Amz (d s:Nat):RD d s+4294967296*XC d s=d*2^s:=by
 rw[qJ,XD];exact Ba _ _
theorem Yr {d s:Nat} (hs:s<=32):RD d s=2^s*(d%2^(32-s)):=by
 rw[qJ,VK hs,Ia d,Nat.mul_mod_mul_left]
theorem Yq {d s:Nat} (hs:s<=32):XC d s=d/2^(32-s):=by
 rw[XD,VK hs,Ia d,Nat.mul_div_mul_left _ _ (qa s)]
theorem XF {d s:Nat} (hd:d<4294967296) (hs:s<=32):RD d s%2^s=0/\XC d s<2^s/\RD d s+2^s<=4294967296/\d*2^s<=18446744073709551615:=by
 refine ⟨by rw[Yr hs,Nat.mul_mod_right],?_,?_,?_⟩
 ·rw[Yq hs,ua (qa _),<-da,show s+(32-s)=32 by omega];exact hd
 ·rw[Yr hs]
  have h1:d%2^(32-s)+1<=2^(32-s):=Ab _ (qa _);have h2:=va (2^s) h1;rw[Ra,Nat.mul_one,<-VK hs]at h2;exact h2
 ·have h1:2^s<=2^32:=Ma O' hs
  have h2:d*2^s<=4294967295*4294967296:=Ib O' h1;omega
theorem bD {s:Nat} (hs:s<=32):2^s<=4294967296:=(Ma O' hs:2^s<=2^32)
theorem Sx {V X p lo s d:Nat} (h:V+p*lo=X*2^s):V+p*(RD d s+lo)+p*4294967296*XC d s=(X+p*d)*2^s:=by
 have h1:=Amz d s;have h2:p*(RD d s+lo)+p*4294967296*XC d s=p*lo+p*(d*2^s):=by
  rw[<-h1];grind
 rw[db,<-h,Pa p d];omega
theorem oR {d V s:Nat} (hs:s<=32):(d+4294967296*V)/2^s=d/2^s+V%2^s*2^(32-s)+4294967296*(V/2^s):=by
 have e:4294967296*V=2^s*(2^(32-s)*V):=by rw[<-Pa,<-VK hs]
 rw[e,Nat.add_mul_div_left _ _ (qa s)];have h:=Ba V (2^s);have h2:2^(32-s)*V=V%2^s*2^(32-s)+4294967296*(V/2^s):=by
  have h3:2^(32-s)*V=2^(32-s)*(V%2^s+2^s*(V/2^s)):=by rw[h]
  rw[h3,VK hs];grind
 omega
theorem Ti {d V s:Nat} (hs:s<=32):(d+4294967296*V)%2^s=d%2^s:=by
 have e:4294967296*V=2^s*(2^(32-s)*V):=by rw[<-Pa,<-VK hs]
 rw[e,Nat.add_mul_mod_self_left]
theorem AkG {d s:Nat} (hs:s<=32):d*2^(32-s)%4294967296=d%2^s*2^(32-s):=by
 have e:4294967296=2^s*2^(32-s):=VK hs;rw[e,fb]
theorem Th {d V s:Nat} (hd:d<4294967296) (hs:s<=32):d/2^s<2^(32-s)/\V%2^s*2^(32-s)%2^(32-s)=0/\V%2^s*2^(32-s)+2^(32-s)<=4294967296:=by
 refine ⟨?_,Nat.mul_mod_left _ _,?_⟩
 ·rw[ua (qa _),<-da,show 32-s+s=32 by omega];exact hd
 ·have h1:V%2^s+1<=2^s:=Ab _ (qa _)
  have h2:=zR (2^(32-s)) h1;rw[db,Eb,<-VK hs]at h2;exact h2
def n9 (x:Nat):Nat:=if x=0 then 0 else x.log2+1
theorem tQ {x:Nat} (h:x≠0):2^(n9 x-1)<=x/\x<2^n9 x/\1<=n9 x:=by
 unfold n9;rw[if_neg h];exact ⟨Lb h,Mb,O'⟩
theorem dI {x k:Nat} (h:x<2^k):n9 x<=k:=by
 by_cases h0:x=0
 ·subst h0;unfold n9;simp
 ·obtain ⟨h1,_,h3⟩:=tQ h0
  have h2:2^(n9 x-1)<2^k:=O'
  have:=(Nat.pow_lt_pow_iff_right O').1 h2
  omega
theorem ZY {x:Nat} (n:Nat) (h:2^n<=x):n9 (x/2^n)+n=n9 x:=by
 have hp:=qa n;have hx:x≠0:=O'
 have hq:x/2^n≠0:=by have:=Nat.div_pos h hp;omega
 unfold n9;rw[if_neg hx,if_neg hq];have:(x/2^n).log2+n=x.log2:=by
  symm
  rw[Nat.log2_eq_iff hx];have h1:=Lb hq;have h2:x/2^n<2^((x/2^n).log2+1):=Mb;rw[Na hp,<-da]at h1;rw[ua hp,<-da]at h2;exact ⟨h1,by rw[show (x/2^n).log2+n+1=(x/2^n).log2+1+n by omega];exact h2⟩
 omega
theorem oS {x:Nat} (h0:x≠0) (hx:x<4294967296):n9 x<=32/\1<=n9 x/\2147483648<=x*2^(32-n9 x)/\x*2^(32-n9 x)<4294967296:=by
 obtain ⟨h1,h2,h3⟩:=tQ h0;have hk:n9 x<=32:=dI (k:=32) hx;refine ⟨hk,h3,?_,?_⟩
 ·have:=zR (2^(32-n9 x)) h1
  rw[<-da,show n9 x-1+(32-n9 x)=31 by omega]at this;exact this
 ·have:=Nat.mul_lt_mul_of_pos_right h2 (qa (32-n9 x))
  rw[<-da,show n9 x+(32-n9 x)=32 by omega]at this;exact this
def jW (a b c d:Int):Prop:=(0<=a/\b<=0/\c<=0/\0<=d)\/(a<=0/\0<=b/\0<=c/\d<=0)
structure VY (P Q a b c d p q:Int):Prop where
 hp:p=a*P+b*Q
 hq:q=c*P+d*Q
 sg:jW a b c d
 pa:0<=p+a
 pb:0<=p+b
 qc:0<=q+c
 qd:0<=q+d
theorem VY.start {P Q:Int} (hP:0<=P) (hQ:0<=Q):VY P Q 1 0 0 1 P Q :=
 ⟨O',O',Or.inl O',O',O',O',O'⟩
def ZO (P Q a b c d:Int):Prop := ∀ x y K e1 e2:Int,0<K->x=K*P+e1->y=K*Q+e2->0<=e1->e1<=K->0<=e2->e2<=K ->
 0<=c*x+d*y/\c*x+d*y<a*x+b*y/\a*x+b*y<=y/\zb (a*x+b*y) (c*x+d*y)=zb x y
def XY (P Q a b c d:Int):Prop := ∀ x y K e1 e2:Int,0<K->x=K*P+e1->y=K*Q+e2->0<=e1->e1<=K->0<=e2->e2<=K ->
 c*x+d*y<=y/\zb (a*x+b*y) (c*x+d*y)=zb x y
theorem XY.start (P Q:Int):XY P Q 1 0 0 1:=by
 intro x y K e1 e2 _ _ _ _ _ _ _;simp
theorem ZO.half {P Q a b c d:Int} (h:ZO P Q a b c d):XY P Q a b c d:=λ x y K e1 e2 h1 h2 h3 h4 h5 h6 h7=>by
 obtain ⟨g1,g2,g3,g4⟩:=h x y K e1 e2 h1 h2 h3 h4 h5 h6 h7;exact ⟨O',g4⟩
theorem Ai9 (X Y f:Int):zb Y (X-f*Y)=zb X Y:=by
 rw[Int.gcd_comm X Y];exact Int.gcd_sub_mul_right_right Y X f
theorem VY.step {P Q a b c d p q f:Int} (h:VY P Q a b c d p q) (hc:q+c≠0) (hd:q+d≠0) (h1:f=(p+a)/(q+c)) (h2:f=(p+b)/(q+d)) :
  VY P Q c d (a-f*c) (b-f*d) q (p-f*q)/\0<=f/\p-f*q<q/\(XY P Q a b c d->ZO P Q c d (a-f*c) (b-f*d)):=by
 have c0:0<q+c:=by have:=h.qc;omega
 have d0:0<q+d:=by have:=h.qd;omega
 have f0:0<=f:=by rw[h1];exact Int.ediv_nonneg h.pa h.qc
 have m1:p-f*q+(a-f*c)=(p+a)%(q+c):=by
  have:=eb (p+a) (q+c)
  rw[<-h1]at this;grind
 have m2:p-f*q+(b-f*d)=(p+b)%(q+d):=by
  have:=eb (p+b) (q+d)
  rw[<-h2]at this;grind
 have n1:0<=p-f*q+(a-f*c):=by rw[m1];exact Jb _ hc
 have n2:0<=p-f*q+(b-f*d):=by rw[m2];exact Jb _ hd
 have n3:p-f*q+(a-f*c)<q+c:=by rw[m1];exact Nb _ c0
 have n4:p-f*q+(b-f*d)<q+d:=by rw[m2];exact Nb _ d0
 have Cb:p-f*q=(a-f*c)*P+(b-f*d)*Q:=by rw[h.hp,h.hq];grind
 have um:jW c d (a-f*c) (b-f*d):=by
  rcases h.sg with ⟨s1,s2,s3,s4⟩|⟨s1,s2,s3,s4⟩
  ·have t1:f*c<=0:=Ja f0 s3
   have t2:0<=f*d:=ga f0 s4;exact Or.inr O'
  ·have t1:0<=f*c:=ga f0 s3
   have t2:f*d<=0:=Ja f0 s4;exact Or.inl O'
 have j9:p-f*q<q:=by
  rcases um with ⟨s1,s2,s3,s4⟩|⟨s1,s2,s3,s4⟩
  ·omega
  ·omega
 refine ⟨⟨h.hq,Cb,um,h.qc,h.qd,n1,n2⟩,f0,j9,λ hh => ?_⟩;intro x y K e1 e2 hK hx hy a1 a2 b1 b2;obtain ⟨k1,k2⟩:=hh x y K e1 e2 hK hx hy a1 a2 b1 b2;have eY:c*x+d*y=K*q+c*e1+d*e2:=by rw[hx,hy,h.hq];grind
 have eX:(a-f*c)*x+(b-f*d)*y=K*(p-f*q)+(a-f*c)*e1+(b-f*d)*e2:=by rw[hx,hy,Cb];grind
 have eS:(a-f*c)*x+(b-f*d)*y=(a*x+b*y)-f*(c*x+d*y):=A'
 generalize hE:a-f*c=E at *;generalize hG:b-f*d=G at *;generalize xm:p-f*q=q2 at *;have key:0<=E*x+G*y/\E*x+G*y<c*x+d*y:=by
  rw[eX,eY];rcases um with ⟨s1,s2,s3,s4⟩|⟨s1,s2,s3,s4⟩
  ·-- c≥0,d<=0,E<=0,G≥0
   have t1:E*K<=E*e1:=Ea s3 a2;have t2:0<=G*e2:=ga s4 b1;have t3:0<=K*(q2+E):=ga O' n1;have t4:(G-d)*e2<=(G-d)*K:=Da b2 O';have t5:(E-c)*e1<=0:=Ka O' a1;have t6:0<K*((q+d)-(q2+G)):=Db hK O';constructor
   ·grind
   ·grind
  ·have t1:G*K<=G*e2:=Ea s4 b2
   have t2:0<=E*e1:=ga s3 a1;have t3:0<=K*(q2+G):=ga O' n2;have t4:(E-c)*e1<=(E-c)*K:=Da a2 O';have t5:(G-d)*e2<=0:=Ka O' b1;have t6:0<K*((q+c)-(q2+E)):=Db hK O';constructor
   ·grind
   ·grind
 refine ⟨key.1,key.2,k1,?_⟩;rw[<-k2,eS];exact Ai9 _ _ _
end Go.c6



























namespace Go.c6
open Go.RowKit
theorem IJ (b o n:Nat):(⟨b,o,none⟩:Addr).add n=⟨b,o+n,none⟩:=by
 unfold Addr.add;split<;>simp_all
inductive Rd (w:World) (R:Bool->Nat->Prop):AV->Value->Prop
 | int (k:IntKind) (n:Int):Rd w R (.int k n) (.int k n)
 | bool (b:Bool):Rd w R (.bool b) (.bool b)
 | str (s:ByteArray):Rd w R (.cp (.string s)) (.string s)
 | my:Rd w R (.cp .nilFunc) .nilFunc
 | ka (l:Bool) (a:Option Addr) (cap:Nat):Rd w R (.sl l []) (.slice a 0 cap)
 | emp (b:Bool) (a:Option Addr) (cap:Nat) (h:a.isNone=b):Rd w R (.cp (.bool b)) (.slice a 0 cap)
 | sl (l:Bool) (es:o_) (b o a8 cap:Nat) (u:Nat->Nat->Value) (k7:es≠[]) (hp:0<a8) (hR:R l b) (ae:es.length<=cap) (hz : ∀ e∈es,e.length=a8)
   (hc : ∀ i e,es[i]? = some e -> ∀ j c,e[j]? = some c->w.cell? ⟨b,o+(i*a8+j),none⟩=some (u i j))
   (hr : ∀ i e,es[i]? = some e -> ∀ j c,e[j]? = some c->Rd w R c (u i j)) :
   Rd w R (.sl l es) (.slice (some ⟨b,o,none⟩) es.length cap)
theorem Rd.one {w:World} {R:Bool->Nat->Prop} {a:AV} {v:Value} (h:Rd w R a v):v.oneCell'=true:=by
 cases h<;>rfl
theorem V4 {w:World} {a:Addr} {u:Value} (h:w.cell? a=some u):a.block<w.heap.size:=by
 unfold World.cell? at h;split at h
 ·rename_i hh
  exact (za.1 hh).1
 ·cases h
theorem aN {es:o_} {a8:Nat} (k7:es≠[]) (hp:0<a8) (hz : ∀ e∈es,e.length=a8) : ∃ e c,es[0]? = some e/\e[0]? = some c:=by
 cases es with
 | nil=>exact absurd rfl k7
 | cons e r =>
  have:=hz e Z'
  cases e with
  | nil=>simp at this;omega
  | cons c q=>exact ⟨c::q,c,rfl,rfl⟩
theorem Rd.mono {w w':World} {R R':Bool->Nat->Prop} (hR : ∀ l b,b<w.heap.size->R l b->R' l b)
  (hw : ∀ l b,b<w.heap.size->R l b->w'.heap[b]? = w.heap[b]?) {a:AV} {v:Value} (h:Rd w R a v):Rd w' R' a v:=by
 induction h with
 | int k n=>exact .int k n
 | bool b=>exact .bool b
 | str s=>exact .str s
 | my=>exact .my
 | ka l a cap=>exact .ka l a cap
 | emp b a cap h=>exact .emp b a cap h
 | sl l es b o a8 cap u k7 hp h1 ae hz hc hr ih =>
  obtain ⟨e,c,he,ib⟩:=aN k7 hp hz;have hb:b<w.heap.size:=V4 (hc 0 e he 0 c ib);refine .sl l es b o a8 cap u k7 hp (hR l b hb h1) ae hz (λ i e he j c Bq => ?_) ih;rw[World.cell?_of_block (w:=w) (hw l b hb h1)];exact hc i e he j c Bq
structure M where
 ν:Nat->Nat->Option Nat
 own:AJ
 w:World
section
variable (B:Nat) (S:Nat->Prop)
def safe (m:M) (l:Bool) (b:Nat):Prop :=
 (S b/\b<B)\/(B<=b /\ ∀ s t,(m.own.get s t).isSome=true->m.ν s t≠some b)\/(l=true/\b<B)
inductive CC (m:M):AV->Value->Prop
 | rd {a:AV} {v:Value} (h:Rd m.w (safe B S m) a v):CC m a v
 | nil:CC m .nil (.slice none 0 0)
 | row (s t z off len:Nat) (a:Option Addr) (cap:Nat) (ht:t<m.own.g7 s) (bu:0<z) (pt:len<=cap) (ha:0<len->a.isSome=true)
   (h : ∀ b,m.own.get s t=some b->b.a8=z/\((len=0/\cap=0) \/ ∃ g arr e,m.ν s t=some g/\a=some ⟨g,off*z,none⟩/\m.w.heap[g]? = some (.cells arr e (0,0))/\(off+cap)*z<=arr.size)) :
   CC m (.row s t z off len) (.slice a len cap)
 | ptr (s t i j:Nat) (a:Addr) (ht:t<m.own.g7 s) (h : ∀ b,m.own.get s t=some b -> ∃ g,m.ν s t=some g/\a=⟨g,i*b.a8+j,none⟩):CC m (.ptr s t i j) (.pointer (some a))
 | s9 (cs:u_) (b o:Nat) (u:Nat->Value) (l:Bool) (hR:cs≠[]->safe B S m l b) (hc : ∀ j c,cs[j]? = some c->m.w.cell? ⟨b,o+j,none⟩=some (u j)) (hr : ∀ j c,cs[j]? = some c->Rd m.w (safe B S m) c (u j)) :
   CC m (.s9 cs) (.pointer (some ⟨b,o,none⟩))
def CL (m:M) (cs:u_) (vs:List Value):Prop:=cs.length=vs.length /\ ∀ (j:Nat) (c:AV) (v:Value),cs[j]? = some c->vs[j]? = some v->CC B S m c v
inductive CA (m:M):AV->Value->Prop
 | one {a:AV} {v:Value} (h:CC B S m a v):CA m a v
 | agg (cs:u_) (vs:List Value) (h:CL B S m cs vs):CA m (.agg cs) (.agg vs.toArray)
 | fn (p:Bool) (f g:Nat) (cs:u_) (vs:List Value) (hp:p=true->cs=[]) (h:CL B S m cs vs):CA m (.fn p f g cs) (.func (.func g) #[] vs.toArray)
 | ux (f g:Nat) (cs:u_) (vs:List Value) (hp:cs≠[]) (h:CL B S m cs vs):CA m (.fn true f g cs) (.func (.func g) #[.agg vs.toArray] #[])
inductive CV (m:M):AV->Value->Prop
 | any (v:Value):CV m .any v
 | ca {a:AV} {v:Value} (h:CA B S m a v):CV m a v
 | c5 (as:u_) (vs:List Value) (hl:as.length=vs.length) (h : ∀ (j:Nat) (c:AV) (v:Value),as[j]? = some c->vs[j]? = some v->CA B S m c v):CV m (.c5 as) (.tuple vs.toArray)
def AdZ (m:M) (s t:Nat) (b:EP):Prop :=
 (∀ e∈b.es,e.length=b.a8)/\match m.ν s t with
  | none=>b.es=[]
  | some g=>B<=g /\ ∃ arr e,m.w.heap[g]? = some (.cells arr e (0,0)) /\
    ∀ i cs,b.es[i]? = some cs -> ∀ j c,cs[j]? = some c -> ∃ u,arr[i*b.a8+j]? = some u/\CC B S m c u
structure BW (w0:World) (m:M):Prop where
 below:Below B w0 m.w
 size:B<=m.w.heap.size
 fresh : ∀ s t,m.own.g7 s<=t->m.own.get s t=none
 c9 : ∀ s t b,m.own.get s t=some b->AdZ B S m s t b
 inj : ∀ s t s' t' b b' g,m.own.get s t=some b->m.own.get s' t'=some b'->m.ν s t=some g->m.ν s' t'=some g->s=s'/\t=t'
structure DY (m m':M):Prop where
 size:m.w.heap.size<=m'.w.heap.size
 yh : ∀ b,b<m.w.heap.size->safe B S m true b->m'.w.heap[b]? = m.w.heap[b]?
 Cr : ∀ l b,b<m.w.heap.size->safe B S m l b->safe B S m' l b
 g7 : ∀ s,m.own.g7 s<=m'.own.g7 s
 name : ∀ s t b',t<m.own.g7 s->m'.own.get s t=some b' -> ∃ b,m.own.get s t=some b/\b'.a8=b.a8/\m'.ν s t=m.ν s t /\
   ∀ g arr e,m.ν s t=some g->m.w.heap[g]? = some (.cells arr e (0,0)) -> ∃ v9,m'.w.heap[g]? = some (.cells v9 e (0,0))/\v9.size=arr.size
end
section
variable {B:Nat} {S:Nat->Prop}
theorem qE {m:M} {l:Bool} {b:Nat} (h:safe B S m l b):safe B S m true b:=by
 rcases h with h|h|⟨_,h⟩
 ·exact .inl h
 ·exact .inr (.inl h)
 ·exact .inr (.inr ⟨rfl,h⟩)
theorem DY.rd {m m':M} (h:DY B S m m') {a:AV} {v:Value} (hr:Rd m.w (safe B S m) a v):Rd m'.w (safe B S m') a v :=
 hr.mono h.Cr (λ_ b hb hs=>h.yh b hb (qE hs))
theorem DY.cc {m m':M} (h:DY B S m m') {a:AV} {v:Value} (hc:CC B S m a v):CC B S m' a v:=by
 cases hc with
 | rd hr=>exact .rd (h.rd hr)
 | nil=>exact .nil
 | row s t z off len a cap ht bu pt ha hb =>
  refine .row s t z off len a cap (ja ht (h.g7 s)) bu pt ha λ b' k8 => ?_
  obtain ⟨b,h1,h2,h3,h4⟩:=h.name s t b' ht k8;obtain ⟨hz,z8⟩:=hb b h1;refine ⟨h2.trans hz,?_⟩;rcases z8 with h0|⟨g,arr,e,hg,mf,hh,hle⟩
  ·exact .inl h0
  ·obtain ⟨v9,Ni,uj⟩:=h4 g arr e hg hh
   exact .inr ⟨g,v9,e,h3.trans hg,mf,Ni,uj ▸ hle⟩
 | ptr s t i j a ht hb =>
  refine .ptr s t i j a (ja ht (h.g7 s)) λ b' k8 => ?_
  obtain ⟨b,h1,h2,h3,_⟩:=h.name s t b' ht k8;obtain ⟨g,hg,mf⟩:=hb b h1;exact ⟨g,h3.trans hg,h2 ▸ mf⟩
 | s9 cs b o u l hR hc hr =>
  have j9:cs≠[]->b<m.w.heap.size:=λ k7=>by
   cases cs with
   | nil=>exact absurd rfl k7
   | cons c r=>exact V4 (hc 0 c rfl)
  refine .s9 cs b o u l (λ k7=>h.Cr l b (j9 k7) (hR k7)) (λ j c hj => ?_) (λ j c hj=>h.rd (hr j c hj));have k7:cs≠[]:=λ e=>by subst e;simp at hj
  rw[World.cell?_of_block (w:=m.w) (h.yh b (j9 k7) (qE (hR k7)))];exact hc j c hj
theorem DY.cl {m m':M} (h:DY B S m m') {cs:u_} {vs:List Value} (hc:CL B S m cs vs):CL B S m' cs vs :=
 ⟨hc.1,λ j c v h1 h2=>h.cc (hc.2 j c v h1 h2)⟩
theorem DY.ca {m m':M} (h:DY B S m m') {a:AV} {v:Value} (hc:CA B S m a v):CA B S m' a v:=by
 cases hc with
 | one hc=>exact .one (h.cc hc)
 | agg cs vs hc=>exact .agg cs vs (h.cl hc)
 | fn p f g cs vs hp hc=>exact .fn p f g cs vs hp (h.cl hc)
 | ux f g cs vs hp hc=>exact .ux f g cs vs hp (h.cl hc)
theorem DY.cv {m m':M} (h:DY B S m m') {a:AV} {v:Value} (hc:CV B S m a v):CV B S m' a v:=by
 cases hc with
 | any v=>exact .any v
 | ca hc=>exact .ca (h.ca hc)
 | c5 as vs hl hc=>exact .c5 as vs hl λ j c v h1 h2=>h.ca (hc j c v h1 h2)
theorem DY.refl (m:M):DY B S m m :=
 ⟨xa _,λ_ _ _=>rfl,λ_ _ _ h=>h,λ_=>xa _,λ_ _ b' _ h=>⟨b',h,rfl,rfl,λ_ arr _ _ h=>⟨arr,h,rfl⟩⟩⟩
theorem DY.trans {m m' m'':M} (h:DY B S m m') (k:DY B S m' m''):DY B S m m'' where
 size:=Ha h.size k.size
 yh b hb hs:=(k.yh b (ja hb h.size) (h.Cr true b hb hs)).trans (h.yh b hb hs)
 Cr l b hb hs:=k.Cr l b (ja hb h.size) (h.Cr l b hb hs)
 g7 s:=Ha (h.g7 s) (k.g7 s)
 name s t b'' ht Nm:=by
  obtain ⟨b',h1,h2,h3,h4⟩:=k.name s t b'' (ja ht (h.g7 s)) Nm;obtain ⟨b,g1,g2,g3,g4⟩:=h.name s t b' ht h1;refine ⟨b,g1,h2.trans g2,h3.trans g3,λ g arr e hg ha => ?_⟩;obtain ⟨v9,Ni,uj⟩:=g4 g arr e hg ha;obtain ⟨Gd,Nj,Qm⟩:=h4 g v9 e (g3.trans hg) Ni;exact ⟨Gd,Nj,Qm.trans uj⟩
theorem CC.one {m:M} {a:AV} {v:Value} (h:CC B S m a v):v.oneCell'=true:=by
 cases h with
 | rd h=>exact h.one
 | _=>rfl
end
end Go.c6

namespace Go.c6
open Go.RowKit
section
variable {B:Nat} {S:Nat->Prop} {w0:World}
def live (m:M) (s t:Nat):Prop := ∃ b,m.own.get s t=some b
theorem BW.ge {m:M} (h:BW B S w0 m) {s t g:Nat} (hl:live m s t) (hg:m.ν s t=some g):B<=g /\ ∃ arr e,m.w.heap[g]? = some (.cells arr e (0,0)):=by
 obtain ⟨b,hb⟩:=hl;obtain ⟨_,h2⟩:=h.c9 s t b hb;rw[hg]at h2;obtain ⟨h3,arr,e,h4,_⟩:=h2;exact ⟨h3,arr,e,h4⟩
theorem WM {m m':M} (hm:BW B S w0 m) (hs:m.w.heap.size<=m'.w.heap.size)
  (hk : ∀ b,b<m.w.heap.size->(∀ s t,live m s t->m.ν s t≠some b)->m'.w.heap[b]? = m.w.heap[b]?) (Dk : ∀ s,m.own.g7 s<=m'.own.g7 s)
  (Im : ∀ s t b',t<m.own.g7 s->m'.own.get s t=some b' -> ∃ b,m.own.get s t=some b/\b'.a8=b.a8/\m'.ν s t=m.ν s t /\
   ∀ g arr e,m.ν s t=some g->m.w.heap[g]? = some (.cells arr e (0,0)) -> ∃ v9,m'.w.heap[g]? = some (.cells v9 e (0,0))/\v9.size=arr.size)
  (mj : ∀ s t g,live m' s t->m'.ν s t=some g->g<m.w.heap.size -> ∃ s0 t0,live m s0 t0/\m.ν s0 t0=some g):DY B S m m':=by
 have ju : ∀ b,safe B S m true b -> ∀ s t,live m s t->m.ν s t≠some b:=by
  intro b hb s t hl hg;have mi:=(hm.ge hl hg).1;rcases hb with ⟨_,h⟩|⟨_,h⟩|⟨_,h⟩
  ·omega
  ·obtain ⟨b',k8⟩:=hl
   exact h s t (by simp [k8]) hg
  ·omega
 refine ⟨hs,λ b hb xp=>hk b hb (ju b xp),λ l b hb xp => ?_,Dk,Im⟩;rcases xp with h|⟨h,hn⟩|h
 ·exact .inl h
 ·refine .inr (.inl ⟨h,λ s t hl hg => ?_⟩)
  obtain ⟨b',k8⟩:=Option.isSome_iff_exists.1 hl;obtain ⟨s0,t0,⟨b0,zf⟩,Ds⟩:=mj s t b ⟨b',k8⟩ hg hb;exact hn s0 t0 (by simp [zf]) Ds
 ·exact .inr (.inr h)
theorem grow {m:M} (hm:BW B S w0 m) {w':World} (hb:Below m.w.heap.size m.w w') :
  BW B S w0 ⟨m.ν,m.own,w'⟩/\DY B S m ⟨m.ν,m.own,w'⟩:=by
 have he:DY B S m ⟨m.ν,m.own,w'⟩:=by
  refine WM hm hb.size (λ b k8 _=>hb.block b k8) (λ_=>xa _) (λ s t b' _ k8=>⟨b',k8,rfl,rfl,λ g arr e hg ha=>⟨arr,?_,rfl⟩⟩) (λ s t g hl hg _=>⟨s,t,hl,hg⟩);have:g<m.w.heap.size:=(za.1 ha).1
  exact (hb.block g this).trans ha
 refine ⟨⟨hm.below.trans (hb.mono hm.size),Ha hm.size hb.size,hm.fresh,λ s t b hg => ?_,hm.inj⟩,he⟩;obtain ⟨h1,h2⟩:=hm.c9 s t b hg;refine ⟨h1,?_⟩;show match m.ν s t with|none=>_|some g=>_
 cases hν:m.ν s t with
 | none=>rw[hν]at h2;exact h2
 | some g =>
  rw[hν]at h2;obtain ⟨h3,arr,e,h4,h5⟩:=h2;refine ⟨h3,arr,e,?_,λ i cs hi j c hj => ?_⟩
  ·exact (hb.block g (za.1 h4).1).trans h4
  ·obtain ⟨u,hu,w7⟩:=h5 i cs hi j c hj
   exact ⟨u,hu,he.cc w7⟩
theorem HA (o:AJ) (s s' t':Nat) (b:EP):(o.put s ((o s).new b)).get s' t'=if s'=s/\t'=o.g7 s then some b else o.get s' t':=by
 unfold AJ.get AJ.put CO.new AJ.g7;by_cases h:s'=s
 ·subst h
  by_cases h2:t'=(o s').g7<;>simp [h2]
 ·simp [h]
theorem M8 (o:AJ) (s s':Nat) (b:EP):(o.put s ((o s).new b)).g7 s'=if s'=s then o.g7 s+1 else o.g7 s':=by
 unfold AJ.g7 AJ.put CO.new;by_cases h:s'=s<;>simp [h]
theorem aR (o:AJ) (s t s' t':Nat) (b:Option EP):(o.put s ((o s).q6 t b)).get s' t'=if s'=s/\t'=t then b else o.get s' t':=by
 unfold AJ.get AJ.put CO.q6;by_cases h:s'=s
 ·subst h
  by_cases h2:t'=t<;>simp [h2]
 ·simp [h]
theorem uS (o:AJ) (s t s':Nat) (b:Option EP):(o.put s ((o s).q6 t b)).g7 s'=o.g7 s':=by
 unfold AJ.g7 AJ.put CO.q6;by_cases h:s'=s<;>simp [h]
def g8 (m:M) (s:Nat) (g:Option Nat):Nat->Nat->Option Nat:=λ s' t'=>if s'=s/\t'=m.own.g7 s then g else m.ν s' t'
theorem gV {m:M} (hm:BW B S w0 m) (s:Nat) : ¬ live m s (m.own.g7 s):=λ⟨b,hb⟩=>by
 rw[hm.fresh s _ (xa _)]at hb;cases hb
theorem dG {m:M} (hm:BW B S w0 m) (s:Nat) (b:EP) (arr:Array Value) (e:TypeId) (hz : ∀ x∈b.es,x.length=b.a8)
  (hc : ∀ i cs,b.es[i]? = some cs -> ∀ j c,cs[j]? = some c -> ∃ u,arr[i*b.a8+j]? = some u/\CC B S m c u) :
  BW B S w0 ⟨g8 m s (some m.w.heap.size),m.own.put s ((m.own s).new b),m.w.alloc (.cells arr e)⟩ /\
  DY B S m ⟨g8 m s (some m.w.heap.size),m.own.put s ((m.own s).new b),m.w.alloc (.cells arr e)⟩:=by
 have w4:(m.w.alloc (.cells arr e)).heap.size=m.w.heap.size+1:=Z'
 have hν : ∀ s' t',live m s' t'->g8 m s (some m.w.heap.size) s' t'=m.ν s' t':=λ s' t' hl=>by
  unfold g8;rw[if_neg];rintro ⟨rfl,rfl⟩
  exact gV hm _ hl
 have he:DY B S m ⟨g8 m s (some m.w.heap.size),m.own.put s ((m.own s).new b),m.w.alloc (.cells arr e)⟩:=by
  refine WM hm (by rw[w4];omega) (λ k hk _=>Below.heap_alloc _ _ _ hk) (λ s' => ?_) (λ s' t' b' ht k8 => ?_) (λ s' t' g hl hg j9 => ?_)
  ·rw[M8];split
   ·rename_i h;subst h;omega
   ·exact xa _
  ·rw[HA]at k8
   rw[if_neg (by rintro ⟨rfl,rfl⟩;omega)]at k8;refine ⟨b',k8,rfl,hν s' t' ⟨b',k8⟩,λ g ar e' hg ha=>⟨ar,?_,rfl⟩⟩;exact (Below.heap_alloc _ _ _ (za.1 ha).1).trans ha
  ·obtain ⟨b',k8⟩:=hl
   have u4:=k8;rw[HA]at k8;by_cases h:s'=s/\t'=m.own.g7 s
   ·simp only[g8,if_pos h,La]at hg
    omega
   ·rw[if_neg h]at k8
    exact ⟨s',t',⟨b',k8⟩,by rw[<-hν s' t' ⟨b',k8⟩];exact hg⟩
 refine ⟨⟨hm.below.alloc hm.size _,by rw[w4];have:=hm.size;omega,λ s' t' ht => ?_,λ s' t' b' k8 => ?_,λ s1 t1 s2 t2 b1 b2 g h1 h2 g1 g2 => ?_⟩,he⟩
 ·rw[M8]at ht
  rw[HA,if_neg]
  ·refine hm.fresh s' t' ?_
   split at ht
   ·rename_i h;subst h;omega
   ·exact ht
  ·rintro ⟨rfl,rfl⟩
   simp at ht;omega
 ·rw[HA]at k8
  by_cases h:s'=s/\t'=m.own.g7 s
  ·rw[if_pos h]at k8
   obtain rfl:b=b':=by simpa using k8
   refine ⟨hz,?_⟩;show match g8 m s (some m.w.heap.size) s' t' with|none=>_|some g=>_
   rw[show g8 m s (some m.w.heap.size) s' t'=some m.w.heap.size by simp [g8,h]];refine ⟨hm.size,arr,e,heap_alloc_new _ _,λ i cs hi j c hj => ?_⟩;obtain ⟨u,hu,w7⟩:=hc i cs hi j c hj;exact ⟨u,hu,he.cc w7⟩
  ·rw[if_neg h]at k8
   obtain ⟨h1,h2⟩:=hm.c9 s' t' b' k8;refine ⟨h1,?_⟩;show match g8 m s (some m.w.heap.size) s' t' with|none=>_|some g=>_
   rw[hν s' t' ⟨b',k8⟩];cases hv:m.ν s' t' with
   | none=>rw[hv]at h2;exact h2
   | some g =>
    rw[hv]at h2;obtain ⟨h3,ar,e',h4,h5⟩:=h2;refine ⟨h3,ar,e',(Below.heap_alloc _ _ _ (za.1 h4).1).trans h4,λ i cs hi j c hj => ?_⟩;obtain ⟨u,hu,w7⟩:=h5 i cs hi j c hj;exact ⟨u,hu,he.cc w7⟩
 ·rw[HA]at h1 h2
  have lt : ∀ s' t' b',m.own.get s' t'=some b'->g8 m s (some m.w.heap.size) s' t'=some g->g<m.w.heap.size:=λ s' t' b' hb hg=>by
   rw[hν s' t' ⟨b',hb⟩]at hg;obtain ⟨_,ar,e',h4⟩:=hm.ge ⟨b',hb⟩ hg;exact (za.1 h4).1
  have at_ : ∀ s' t',s'=s/\t'=m.own.g7 s->g8 m s (some m.w.heap.size) s' t'=some g->g=m.w.heap.size:=λ s' t' h hg=>by
   simp only[g8,if_pos h,La]at hg;exact hg.symm
  by_cases p1:s1=s/\t1=m.own.g7 s<;>by_cases p2:s2=s/\t2=m.own.g7 s
  ·exact ⟨p1.1.trans p2.1.symm,p1.2.trans p2.2.symm⟩
  ·rw[if_neg p2]at h2
   have:=lt s2 t2 b2 h2 g2
   have:=at_ s1 t1 p1 g1
   omega
  ·rw[if_neg p1]at h1
   have:=lt s1 t1 b1 h1 g1
   have:=at_ s2 t2 p2 g2
   omega
  ·rw[if_neg p1]at h1
   rw[if_neg p2]at h2;exact hm.inj s1 t1 s2 t2 b1 b2 g h1 h2 (by rw[<-hν s1 t1 ⟨b1,h1⟩];exact g1) (by rw[<-hν s2 t2 ⟨b2,h2⟩];exact g2)
theorem Zr {m:M} (hm:BW B S w0 m) (s a8:Nat) :
  BW B S w0 ⟨g8 m s none,m.own.put s ((m.own s).new ⟨a8,[]⟩),m.w⟩/\DY B S m ⟨g8 m s none,m.own.put s ((m.own s).new ⟨a8,[]⟩),m.w⟩:=by
 have hν : ∀ s' t',live m s' t'->g8 m s none s' t'=m.ν s' t':=λ s' t' hl=>by
  unfold g8;rw[if_neg];rintro ⟨rfl,rfl⟩
  exact gV hm _ hl
 have he:DY B S m ⟨g8 m s none,m.own.put s ((m.own s).new ⟨a8,[]⟩),m.w⟩:=by
  refine WM hm (xa _) (λ k hk _=>rfl) (λ s' => ?_) (λ s' t' b' ht k8 => ?_) (λ s' t' g hl hg j9 => ?_)
  ·rw[M8];split
   ·rename_i h;subst h;omega
   ·exact xa _
  ·rw[HA]at k8
   rw[if_neg (by rintro ⟨rfl,rfl⟩;omega)]at k8;exact ⟨b',k8,rfl,hν s' t' ⟨b',k8⟩,λ g ar e' hg ha=>⟨ar,ha,rfl⟩⟩
  ·obtain ⟨b',k8⟩:=hl
   rw[HA]at k8;by_cases h:s'=s/\t'=m.own.g7 s
   ·simp [g8,if_pos h]at hg
   ·rw[if_neg h]at k8
    exact ⟨s',t',⟨b',k8⟩,by rw[<-hν s' t' ⟨b',k8⟩];exact hg⟩
 refine ⟨⟨hm.below,hm.size,λ s' t' ht => ?_,λ s' t' b' k8 => ?_,λ s1 t1 s2 t2 b1 b2 g h1 h2 g1 g2 => ?_⟩,he⟩
 ·rw[M8]at ht
  rw[HA,if_neg]
  ·refine hm.fresh s' t' ?_
   split at ht
   ·rename_i h;subst h;omega
   ·exact ht
  ·rintro ⟨rfl,rfl⟩
   simp at ht;omega
 ·rw[HA]at k8
  by_cases h:s'=s/\t'=m.own.g7 s
  ·rw[if_pos h]at k8
   obtain rfl:(⟨a8,[]⟩:EP)=b':=by simpa using k8
   refine ⟨Z',?_⟩;show match g8 m s none s' t' with|none=>_|some g=>_
   rw[show g8 m s none s' t'=none by simp [g8,h]]
  ·rw[if_neg h]at k8
   obtain ⟨h1,h2⟩:=hm.c9 s' t' b' k8;refine ⟨h1,?_⟩;show match g8 m s none s' t' with|none=>_|some g=>_
   rw[hν s' t' ⟨b',k8⟩];cases hv:m.ν s' t' with
   | none=>rw[hv]at h2;exact h2
   | some g =>
    rw[hv]at h2;obtain ⟨h3,ar,e',h4,h5⟩:=h2;refine ⟨h3,ar,e',h4,λ i cs hi j c hj => ?_⟩;obtain ⟨u,hu,w7⟩:=h5 i cs hi j c hj;exact ⟨u,hu,he.cc w7⟩
 ·rw[HA]at h1 h2
  by_cases p1:s1=s/\t1=m.own.g7 s
  ·simp [g8,if_pos p1]at g1
  ·by_cases p2:s2=s/\t2=m.own.g7 s
   ·simp [g8,if_pos p2]at g2
   ·rw[if_neg p1]at h1
    rw[if_neg p2]at h2;exact hm.inj s1 t1 s2 t2 b1 b2 g h1 h2 (by rw[<-hν s1 t1 ⟨b1,h1⟩];exact g1) (by rw[<-hν s2 t2 ⟨b2,h2⟩];exact g2)
theorem Ans {m:M} (hm:BW B S w0 m) (s t:Nat) (b b':EP) (hb:m.own.get s t=some b) (g:Nat) (hg:m.ν s t=some g) (arr v9:Array Value) (e:TypeId)
  (ha:m.w.heap[g]? = some (.cells arr e (0,0))) (hz':b'.a8=b.a8) (hz : ∀ x∈b'.es,x.length=b'.a8) (w4:v9.size=arr.size)
  (hc : ∀ i cs,b'.es[i]? = some cs -> ∀ j c,cs[j]? = some c -> ∃ u,v9[i*b'.a8+j]? = some u/\CC B S m c u) (w':World) (jr:Below B w0 w') (Cd:w'.heap.size=m.w.heap.size)
  (hk : ∀ k,k≠g->w'.heap[k]? = m.w.heap[k]?) (Dt:w'.heap[g]? = some (.cells v9 e (0,0))) :
  BW B S w0 ⟨m.ν,m.own.put s ((m.own s).q6 t (some b')),w'⟩/\DY B S m ⟨m.ν,m.own.put s ((m.own s).q6 t (some b')),w'⟩:=by
 have j9:t<m.own.g7 s:=by
  rcases gb t (m.own.g7 s) with h|h
  ·exact h
  ·rw[hm.fresh s t h]at hb;cases hb
 have he:DY B S m ⟨m.ν,m.own.put s ((m.own s).q6 t (some b')),w'⟩:=by
  refine WM hm (by rw[Cd];exact xa _) (λ k je hn=>hk k (λ e=>hn s t ⟨b,hb⟩ (e ▸ hg))) (λ s'=>by rw[uS];exact xa _) (λ s' t' b2 ht u4 => ?_) (λ s' t' g' hl fk _ => ?_)
  ·rw[aR]at u4
   by_cases h:s'=s/\t'=t
   ·obtain ⟨rfl,rfl⟩:=h
    rw[if_pos ⟨rfl,rfl⟩]at u4;obtain rfl:b'=b2:=by simpa using u4
    refine ⟨b,hb,hz',rfl,λ g2 ar e' ke Dg => ?_⟩;obtain rfl:g=g2:=by rw[hg]at ke;simpa using ke
    rw[ha]at Dg;obtain ⟨rfl,rfl⟩:arr=ar/\e=e':=by simpa using Dg
    exact ⟨v9,Dt,w4⟩
   ·rw[if_neg h]at u4
    refine ⟨b2,u4,rfl,rfl,λ g2 ar e' ke Dg=>⟨ar,?_,rfl⟩⟩;rw[<-Dg];exact hk g2 (λ e2=>h (by
     subst e2;exact hm.inj s' t' s t b2 b g2 u4 hb ke hg))
  ·obtain ⟨b2,u4⟩:=hl
   rw[aR]at u4;by_cases h:s'=s/\t'=t
   ·obtain ⟨rfl,rfl⟩:=h
    exact ⟨s',t',⟨b,hb⟩,fk⟩
   ·rw[if_neg h]at u4
    exact ⟨s',t',⟨b2,u4⟩,fk⟩
 refine ⟨⟨jr,by rw[Cd];exact hm.size,λ s' t' ht => ?_,λ s' t' b2 u4 => ?_,λ s1 t1 s2 t2 b1 b2 g1 h1 h2 e1 e2 => ?_⟩,he⟩
 ·rw[uS]at ht
  rw[aR,if_neg (by rintro ⟨rfl,rfl⟩;omega)];exact hm.fresh s' t' ht
 ·rw[aR]at u4
  by_cases h:s'=s/\t'=t
  ·obtain ⟨rfl,rfl⟩:=h
   rw[if_pos ⟨rfl,rfl⟩]at u4;obtain rfl:b'=b2:=by simpa using u4
   refine ⟨hz,?_⟩;show match m.ν s' t' with|none=>_|some g=>_
   rw[hg];refine ⟨(hm.ge ⟨b,hb⟩ hg).1,v9,e,Dt,λ i cs hi j c hj => ?_⟩;obtain ⟨u,hu,w7⟩:=hc i cs hi j c hj;exact ⟨u,hu,he.cc w7⟩
  ·rw[if_neg h]at u4
   obtain ⟨h1,h2⟩:=hm.c9 s' t' b2 u4;refine ⟨h1,?_⟩;show match m.ν s' t' with|none=>_|some g=>_
   cases hv:m.ν s' t' with
   | none=>rw[hv]at h2;exact h2
   | some g2 =>
    rw[hv]at h2;obtain ⟨h3,ar,e',h4,h5⟩:=h2;refine ⟨h3,ar,e',?_,λ i cs hi j c hj => ?_⟩
    ·rw[<-h4]
     exact hk g2 (λ e2=>h (by
      subst e2;exact hm.inj s' t' s t b2 b g2 u4 hb hv hg))
    ·obtain ⟨u,hu,w7⟩:=h5 i cs hi j c hj
     exact ⟨u,hu,he.cc w7⟩
 ·have old : ∀ s' t' b2,(m.own.put s ((m.own s).q6 t (some b'))).get s' t'=some b2 -> ∃ b3,m.own.get s' t'=some b3:=λ s' t' b2 h=>by
   rw[aR]at h;by_cases h':s'=s/\t'=t
   ·obtain ⟨rfl,rfl⟩:=h';exact ⟨b,hb⟩
   ·rw[if_neg h']at h;exact ⟨b2,h⟩
  obtain ⟨c1,k1⟩:=old s1 t1 b1 h1;obtain ⟨c2,k2⟩:=old s2 t2 b2 h2;exact hm.inj s1 t1 s2 t2 c1 c2 g1 k1 k2 e1 e2
theorem WP (o:AJ) (s t s' t':Nat) (b:EP):(o.put s (((o s).q6 t none).new b)).get s' t'=if s'=s/\t'=o.g7 s then some b else if s'=s/\t'=t then none else o.get s' t':=by
 unfold AJ.get AJ.put CO.new CO.q6 AJ.g7;by_cases h:s'=s
 ·subst h
  by_cases h2:t'=(o s').g7<;>by_cases h3:t'=t<;>simp [h2,h3]
 ·simp [h]
theorem dT (o:AJ) (s t s':Nat) (b:EP):(o.put s (((o s).q6 t none).new b)).g7 s'=if s'=s then o.g7 s+1 else o.g7 s':=by
 unfold AJ.g7 AJ.put CO.new CO.q6;by_cases h:s'=s<;>simp [h]
theorem pB {m:M} (hm:BW B S w0 m) (s t:Nat) (b b':EP) (hb:m.own.get s t=some b) (dz:Option Nat) (w':World) (jr:Below B w0 w') (w4:m.w.heap.size<=w'.heap.size)
  (hk : ∀ k,k<m.w.heap.size->m.ν s t≠some k->w'.heap[k]? = m.w.heap[k]?) (hz : ∀ x∈b'.es,x.length=b'.a8)
  (jv:dz=none->b'.es=[])
  (xu : ∀ g,dz=some g->B<=g/\(m.w.heap.size<=g\/m.ν s t=some g) /\ ∃ arr e,w'.heap[g]? = some (.cells arr e (0,0)) /\
   ∀ i cs,b'.es[i]? = some cs -> ∀ j c,cs[j]? = some c -> ∃ u,arr[i*b'.a8+j]? = some u/\CC B S m c u) :
  BW B S w0 ⟨g8 m s dz,m.own.put s (((m.own s).q6 t none).new b'),w'⟩/\DY B S m ⟨g8 m s dz,m.own.put s (((m.own s).q6 t none).new b'),w'⟩:=by
 have j9:t<m.own.g7 s:=by
  rcases gb t (m.own.g7 s) with h|h
  ·exact h
  ·rw[hm.fresh s t h]at hb;cases hb
 have hν : ∀ s' t',live m s' t'->g8 m s dz s' t'=m.ν s' t':=λ s' t' hl=>by
  unfold g8;rw[if_neg];rintro ⟨rfl,rfl⟩
  exact gV hm _ hl
 have he:DY B S m ⟨g8 m s dz,m.own.put s (((m.own s).q6 t none).new b'),w'⟩:=by
  refine WM hm w4 (λ k je hn=>hk k je (hn s t ⟨b,hb⟩)) (λ s' => ?_) (λ s' t' b2 ht u4 => ?_) (λ s' t' g' hl fk xb => ?_)
  ·rw[dT];split
   ·rename_i h;subst h;omega
   ·exact xa _
  ·rw[WP]at u4
   rw[if_neg (by rintro ⟨rfl,rfl⟩;omega)]at u4;by_cases h:s'=s/\t'=t
   ·rw[if_pos h]at u4;cases u4
   ·rw[if_neg h]at u4
    refine ⟨b2,u4,rfl,hν s' t' ⟨b2,u4⟩,λ g2 ar e' ke Dg=>⟨ar,?_,rfl⟩⟩;rw[<-Dg];exact hk g2 (za.1 Dg).1 (λ e2=>h (hm.inj s' t' s t b2 b g2 u4 hb ke e2))
  ·obtain ⟨b2,u4⟩:=hl
   rw[WP]at u4;by_cases h0:s'=s/\t'=m.own.g7 s
   ·simp only[g8,if_pos h0]at fk
    obtain ⟨_,h2,_⟩:=xu g' fk;rcases h2 with h2|h2
    ·omega
    ·exact ⟨s,t,⟨b,hb⟩,h2⟩
   ·rw[if_neg h0]at u4
    by_cases h:s'=s/\t'=t
    ·rw[if_pos h]at u4;cases u4
    ·rw[if_neg h]at u4
     exact ⟨s',t',⟨b2,u4⟩,by rw[<-hν s' t' ⟨b2,u4⟩];exact fk⟩
 refine ⟨⟨jr,Ha hm.size w4,λ s' t' ht => ?_,λ s' t' b2 u4 => ?_,λ s1 t1 s2 t2 b1 b2 g1 h1 h2 e1 e2 => ?_⟩,he⟩
 ·rw[dT]at ht
  have nm:m.own.g7 s'<=t' /\ ¬ (s'=s/\t'=m.own.g7 s):=by
   by_cases h:s'=s
   ·subst h
    simp at ht;exact ⟨O',O'⟩
   ·simp [h]at ht
    exact ⟨ht,λ h'=>h h'.1⟩
  rw[WP,if_neg nm.2];split
  ·rfl
  ·exact hm.fresh s' t' nm.1
 ·rw[WP]at u4
  by_cases h0:s'=s/\t'=m.own.g7 s
  ·rw[if_pos h0]at u4
   obtain rfl:b'=b2:=by simpa using u4
   refine ⟨hz,?_⟩;show match g8 m s dz s' t' with|none=>_|some g=>_
   rw[show g8 m s dz s' t'=dz by simp [g8,h0]];cases dz with
   | none=>exact jv rfl
   | some g =>
    obtain ⟨h1,_,arr,e,h4,h5⟩:=xu g rfl;refine ⟨h1,arr,e,h4,λ i cs hi j c hj => ?_⟩;obtain ⟨u,hu,w7⟩:=h5 i cs hi j c hj;exact ⟨u,hu,he.cc w7⟩
  ·rw[if_neg h0]at u4
   by_cases h:s'=s/\t'=t
   ·rw[if_pos h]at u4;cases u4
   ·rw[if_neg h]at u4
    obtain ⟨h1,h2⟩:=hm.c9 s' t' b2 u4;refine ⟨h1,?_⟩;show match g8 m s dz s' t' with|none=>_|some g=>_
    rw[hν s' t' ⟨b2,u4⟩];cases hv:m.ν s' t' with
    | none=>rw[hv]at h2;exact h2
    | some g2 =>
     rw[hv]at h2;obtain ⟨h3,ar,e',h4,h5⟩:=h2;refine ⟨h3,ar,e',?_,λ i cs hi j c hj => ?_⟩
     ·rw[<-h4]
      exact hk g2 (za.1 h4).1 (λ e2=>h (hm.inj s' t' s t b2 b g2 u4 hb hv e2))
     ·obtain ⟨u,hu,w7⟩:=h5 i cs hi j c hj
      exact ⟨u,hu,he.cc w7⟩
 ·rw[WP]at h1 h2
  have old : ∀ s' t' b2,(if s'=s/\t'=t then none else m.own.get s' t')=some b2->m.own.get s' t'=some b2 /\ ¬ (s'=s/\t'=t):=λ s' t' b2 h=>by
   by_cases h':s'=s/\t'=t
   ·rw[if_pos h']at h;cases h
   ·rw[if_neg h']at h;exact ⟨h,h'⟩
  have nx : ∀ s' t' b2,m.own.get s' t'=some b2 -> ¬ (s'=s/\t'=t)->g8 m s dz s' t'=some g1->dz=some g1->False:=λ s' t' b2 u4 k7 e1 e2=>by
   rw[hν s' t' ⟨b2,u4⟩]at e1;obtain ⟨_,h2,_⟩:=xu g1 e2;obtain ⟨_,ar,e',h4⟩:=hm.ge ⟨b2,u4⟩ e1;have:=(za.1 h4).1
   rcases h2 with h2|h2
   ·omega
   ·exact k7 (hm.inj s' t' s t b2 b g1 u4 hb e1 h2)
  have at_ : ∀ s' t',s'=s/\t'=m.own.g7 s->g8 m s dz s' t'=some g1->dz=some g1:=λ s' t' h hg=>by simpa [g8,if_pos h] using hg
  by_cases p1:s1=s/\t1=m.own.g7 s<;>by_cases p2:s2=s/\t2=m.own.g7 s
  ·exact ⟨p1.1.trans p2.1.symm,p1.2.trans p2.2.symm⟩
  ·rw[if_neg p2]at h2
   obtain ⟨k2,n2⟩:=old s2 t2 b2 h2;exact (nx s2 t2 b2 k2 n2 e2 (at_ s1 t1 p1 e1)).elim
  ·rw[if_neg p1]at h1
   obtain ⟨k1,n1⟩:=old s1 t1 b1 h1;exact (nx s1 t1 b1 k1 n1 e1 (at_ s2 t2 p2 e2)).elim
  ·rw[if_neg p1]at h1
   rw[if_neg p2]at h2;obtain ⟨k1,n1⟩:=old s1 t1 b1 h1;obtain ⟨k2,n2⟩:=old s2 t2 b2 h2;exact hm.inj s1 t1 s2 t2 b1 b2 g1 k1 k2 (by rw[<-hν s1 t1 ⟨b1,k1⟩];exact e1) (by rw[<-hν s2 t2 ⟨b2,k2⟩];exact e2)
theorem zU (o:AJ) (l:N') (s t:Nat):(o.drop l).get s t=if s∈l then none else o.get s t:=by
 induction l with
 | nil=>simp [AJ.drop]
 | cons x r ih =>
  unfold AJ.get at *;by_cases h:s=x
  ·subst h;simp [AJ.drop,AJ.put]
  ·simp only[AJ.drop,AJ.put,if_neg h,Hb]
   rw[ih];by_cases h2:s∈r<;>simp [h,h2]
theorem uR (o:AJ) (l:N') (s:Nat):(o.drop l).g7 s=o.g7 s:=by
 induction l with
 | nil=>simp [AJ.drop]
 | cons x r ih =>
  unfold AJ.g7 at *;by_cases h:s=x
  ·subst h;simp [AJ.drop,AJ.put]
  ·simp [AJ.drop,AJ.put,h,ih]
theorem Ag2 {m:M} (hm:BW B S w0 m) (l:N'):BW B S w0 ⟨m.ν,m.own.drop l,m.w⟩/\DY B S m ⟨m.ν,m.own.drop l,m.w⟩:=by
 have old : ∀ s t b,(m.own.drop l).get s t=some b->m.own.get s t=some b:=λ s t b h=>by
  rw[zU]at h;split at h
  ·cases h
  ·exact h
 have he:DY B S m ⟨m.ν,m.own.drop l,m.w⟩:=by
  refine WM hm (xa _) (λ_ _ _=>rfl) (λ s=>by rw[uR];exact xa _) (λ s t b' _ k8=>⟨b',old s t b' k8,rfl,rfl,λ_ ar _ _ ha=>⟨ar,ha,rfl⟩⟩) (λ s t g hl hg _ => ?_);obtain ⟨b,hb⟩:=hl;exact ⟨s,t,⟨b,old s t b hb⟩,hg⟩
 refine ⟨⟨hm.below,hm.size,λ s t ht => ?_,λ s t b hb => ?_,λ s1 t1 s2 t2 b1 b2 g h1 h2=>hm.inj s1 t1 s2 t2 b1 b2 g (old _ _ _ h1) (old _ _ _ h2)⟩,he⟩
 ·rw[uR]at ht
  rw[zU];split
  ·rfl
  ·exact hm.fresh s t ht
 ·obtain ⟨h1,h2⟩:=hm.c9 s t b (old s t b hb)
  refine ⟨h1,?_⟩;show match m.ν s t with|none=>_|some g=>_
  cases hv:m.ν s t with
  | none=>rw[hv]at h2;exact h2
  | some g =>
   rw[hv]at h2;obtain ⟨h3,ar,e',h4,h5⟩:=h2;refine ⟨h3,ar,e',h4,λ i cs hi j c hj => ?_⟩;obtain ⟨u,hu,w7⟩:=h5 i cs hi j c hj;exact ⟨u,hu,he.cc w7⟩
end
end Go.c6
