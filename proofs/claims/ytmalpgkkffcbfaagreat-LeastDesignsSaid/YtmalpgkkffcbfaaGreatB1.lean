/-
  The abstract machine: data without memory. AV: a value; slices that are only read are lists ('sl'), rows and boxes of the call's own are named by a site and a stamp.
  Nothing here speaks of a program; EngSound ties it to the model.
-/
import Derived.Calls
set_option linter.unusedSimpArgs false
set_option linter.unusedVariables false
set_option linter.unnecessarySimpa false
namespace Go.b8
theorem zE {α : Type} {l : List α} {i : Nat} (h : i < l.length) : l[i]? = some l[i] :=
 List.getElem?_eq_getElem h
theorem zS {α : Type} {l : List α} {i : Nat} {a : α} (h : l[i]? = some a) : ∃ h : i < l.length, l[i] = a :=
 List.getElem?_eq_some_iff.1 h
theorem zM {α : Type} {l : List α} {i : Nat} {a : α} (h : l[i]? = some a) : a ∈ l :=
 List.mem_of_getElem? h
theorem zR {m n : Nat} (k : Nat) (h : m <= n) : m * k <= n * k :=
 Nat.mul_le_mul_right k h
theorem zT {α : Type} {l : List α} {i : Nat} (h : l.length <= i) : l.take i = l :=
 List.take_of_length_le h
end Go.b8
namespace Go.b8
inductive AV where
 | int (k:IntKind) (n:Int)
 | bool (b:Bool)
 | sl (l:Bool) (es:List (List AV))
 | row (s t z off len:Nat)
 | nil
 | ptr (s t i j:Nat)
 | o5 (cs:List AV)
 | agg (cs:List AV)
 | e6 (vs:List AV)
 | bj (v:Value)
 | fn (p:Bool) (f g:Nat) (cs:List AV)
 | any
 deriving Inhabited
inductive AP where
 | t (n:Nat)
 | c (v:AV)
 deriving Inhabited
structure DR where
 a6:Nat
 es:List (List AV)
structure CB where
 e8:Nat
 c7:Nat->Option DR
def AH:=Nat->CB
def AH.emp:AH:=λ_=>⟨0,λ_=>none⟩
def AH.put (o:AH) (s:Nat) (x:CB):AH:=λ s'=>if s'=s then x else o s'
def AH.get (o:AH) (s t:Nat):Option DR:=(o s).c7 t
def AH.e8 (o:AH) (s:Nat):Nat:=(o s).e8
def CB.m7 (x:CB) (t:Nat) (b:Option DR):CB:=⟨x.e8,λ t'=>if t'=t then b else x.c7 t'⟩
def CB.new (x:CB) (b:DR):CB:=⟨x.e8+1,λ t'=>if t'=x.e8 then some b else x.c7 t'⟩
theorem AH.g7 (o:AH) (s:Nat) (x:CB):o.put s x s=x:=by simp [AH.put]
theorem AH.di (o:AH) (s s':Nat) (x:CB) (h:s'≠s):o.put s x s'=o s':=by simp [AH.put,h]
theorem AH.qz (o:AH) (s:Nat) (x y:CB):(o.put s x).put s y=o.put s y:=by
 funext s';by_cases h:s'=s<;>simp [AH.put,h]
inductive DT where
 | n0 (x:AP)
 | v9 (s a6:Nat)
 | pick (c a b:AP)
 | bin (op:BinOp) (x y:AP)
 | beq (ne:Bool) (x y:AP)
 | un (op:UnOp) (x:AP)
 | conv (k:IntKind) (x:AP)
 | box (s:Nat) (x:AP)
 | alloc (s:Nat) (zero:List AV)
 | build (zero:List AV) (parts:List (Nat × Nat × AP))
 | b9 (s a6:Nat) (parts:List AP)
 | u6 (x:AP) (off:Nat)
 | oz (x:AP) (off n:Nat) (agg:Bool)
 | q7 (arr:Option Nat) (a6:Nat) (x i:AP)
 | ld (agg:Bool) (n:Nat) (x:AP)
 | st (n:Nat) (x v:AP)
 | mk (s a6 bytes:Nat) (zero:List AV) (l c:AP)
 | fk (a6:Nat) (x:AP) (lo hi:Option AP)
 | ext (x:AP) (i:Nat)
 | len (x:AP)
 | mm (max:Bool) (xs:List AP)
 | app (s a6 bytes:Nat) (x y:AP)
 | call (f:Nat) (xs:List AP)
 | c9 (f:Nat) (xs:List AP)
 | ta (ne:Bool) (x:AP)
 | gf (tb:List Nat) (x:AP)
 | pz (p:Bool) (f:Nat) (xs:List AP)
 | m4 (x:AP) (xs:List AP)
 | j5 (f:Nat) (xs:List AP)
 | mq (s n:Nat) (x v:AP)
 | s8 (s f:Nat) (xs:List AP)
 | eg (x:AP)
 | oa (s a6 bytes:Nat) (x y:AP)
 | x7 (s f:Nat) (xs:List AP)
 | bad
 | mn (x:AP)
 deriving Inhabited
structure AI where
 dst:Option Nat
 op:DT
 guard:Option (Nat × Bool):=none
 a8:List Nat:=[]
 deriving Inhabited
inductive BH where
 | skip
 | ops (l:List AI) (draw:Bool)
 | dr (c:BH) (ts ss:List Nat)
 | scope (c:BH)
 | seq (a b:BH)
 | cond (c:AP) (a b:BH)
 | block (id:Nat) (c:BH)
 | loop (c:BH)
 | exit (id:Nat)
 | ret
 deriving Inhabited
inductive IR where
 | tmp (t:Nat)
 | cell (t:Nat) (agg:Bool) (n:Nat)
 deriving Inhabited
structure AFn where
 ah:Nat
 body:BH
 res:List IR
 qb:Bool
abbrev Tm:=List (Nat × AV)
def e5:Tm->Nat->AV
 | [],_ => .any
 | (i,v)::r,j=>if j=i then v else e5 r j
def gi:Tm->Nat->AV->Tm
 | [],j,u=>[(j,u)]
 | (i,v)::r,j,u=>if j=i then (i,u)::r else if j<i then (j,u)::(i,v)::r else (i,v)::gi r j u
def v8:Tm->List Nat->Tm
 | [],_=>[]
 | (i,v)::r,l=>if l.contains i then v8 r l else (i,v)::v8 r l
theorem WA (m:Tm) (i:Nat) (v:AV) (j:Nat):e5 (gi m i v) j=if j=i then v else e5 m j:=by
 induction m with
 | nil=>by_cases h:j=i<;>simp [gi,e5,h]
 | cons x r ih =>
  obtain ⟨a,u⟩:=x;by_cases h:i=a
  ·subst h
   by_cases h2:j=i<;>simp [gi,e5,h2]
  ·by_cases g9:i<a
   ·by_cases h2:j=i<;>simp [gi,e5,h,g9,h2]
   ·by_cases h2:j=a
    ·subst h2
     have : ¬ j=i:=λ e=>h e.symm
     simp [gi,e5,h,g9,this]
    ·simp [gi,e5,h,g9,h2,ih]
structure St where
 tm:Tm
 own:AH
def St.ev (st:St):AP->AV
 | .t n=>e5 st.tm n
 | .c v=>v
inductive B9 where
 | val (v:AV)
 | new (s:Nat) (b:DR) (v:Nat->AV)
 | yn (s:Nat) (b:DR) (v:Nat->AV)
 | ct (v:AV) (own:AH)
 | m7 (s:Nat) (x:CB)
 | wv (s:Nat) (x:CB) (v:AV)
 | Al (s:Nat) (v:AV) (own:AH)
def cellsOf:AV->Option (List AV)
 | .agg cs=>some cs
 | .fn _ _ _ _=>none
 | .e6 _=>none
 | .any=>none
 | v=>some [v]
def II (agg:Bool) (cs:List AV):Option AV :=
 if agg then some (.agg cs) else match cs with|[c]=>some c|_=>none
def part (cs:List AV) (off n:Nat):Option (List AV) :=
 if off+n<=cs.length then some ((cs.drop off).take n) else none
def splice (cs:List AV) (off:Nat) (vs:List AV):List AV:=cs.take off++vs++cs.drop (off+vs.length)
def fill (cells:List AV):List (Nat × Nat × AV)->Option (List AV)
 | []=>some cells
 | (off,n,v)::r=>match cellsOf v with
  | some vs=>if vs.length=n/\off+n<=cells.length then fill (splice cells off vs) r else none
  | none=>none
def C9 (op:BinOp) (k:IntKind) (a:Int) (k':IntKind) (b:Int):Option AV :=
 match op with
 | .shl=>if b<0 then none else some (.int k (k.wrap (a*2^(min b.toNat k.bits))))
 | .shr=>if b<0 then none else some (.int k (a.fdiv (2^(min b.toNat k.bits))))
 | .add=>if k=k' then some (.int k (k.wrap (a+b))) else none
 | .sub=>if k=k' then some (.int k (k.wrap (a-b))) else none
 | .mul=>if k=k' then some (.int k (k.wrap (a*b))) else none
 | .quo=>if k=k'/\b≠0 then some (.int k (k.wrap (a.tdiv b))) else none
 | .rem=>if k=k'/\b≠0 then some (.int k (a.tmod b)) else none
 | .and=>if k=k' then some (.int k (k.wrap (BitVec.ofInt k.bits a &&& BitVec.ofInt k.bits b).toNat)) else none
 | .or=>if k=k' then some (.int k (k.wrap (BitVec.ofInt k.bits a ||| BitVec.ofInt k.bits b).toNat)) else none
 | .xor=>if k=k' then some (.int k (k.wrap (BitVec.ofInt k.bits a ^^^ BitVec.ofInt k.bits b).toNat)) else none
 | .andNot=>if k=k' then some (.int k (k.wrap (BitVec.ofInt k.bits a &&& ~~~ BitVec.ofInt k.bits b).toNat)) else none
 | .eql=>if k=k' then some (.bool (a == b)) else none
 | .neq=>if k=k' then some (.bool (a != b)) else none
 | .lss=>if k=k' then some (.bool (decide (a<b))) else none
 | .leq=>if k=k' then some (.bool (decide (a<=b))) else none
 | .gtr=>if k=k' then some (.bool (decide (a>b))) else none
 | .geq=>if k=k' then some (.bool (decide (a≥b))) else none
def QI (op:UnOp):AV->Option AV
 | .int k n=>match op with
  | .neg=>some (.int k (k.wrap (0-n)))
  | .xor=>some (.int k (k.wrap (BitVec.ofInt k.bits (if k.signed then -1 else k.max) ^^^ BitVec.ofInt k.bits n).toNat))
  | _=>none
 | .bool b=>match op with
  | .not=>some (.bool (!b))
  | _=>none
 | _=>none
def O8 (max:Bool):AV->AV->Option AV
 | .int k a,.int _ b=>some (.int k (if max then (if b>a then b else a) else (if b<a then b else a)))
 | _,_=>none
def J4 (max:Bool):AV->List AV->Option AV
 | v,[]=>some v
 | v,u::r=>match O8 max v u with|some x=>J4 max x r|none=>none
def AH.l6 (o:AH):List Nat->AH
 | []=>o
 | s::r=>λ s'=>if s'=s then ⟨0,λ_=>none⟩ else o.l6 r s'
def AH.nv (own:AH) (s t i j n:Nat):Option (List AV) :=
 match own.get s t with
 | some b=>match b.es[i]? with
  | some cs=>part cs j n
  | none=>none
 | none=>none
def AH.ko (own:AH) (s t i j:Nat) (vs:List AV):Option AH :=
 match own.get s t with
 | some b=>match b.es[i]? with
  | some cs=>if j+vs.length<=cs.length then some (own.put s ((own s).m7 t (some ⟨b.a6,b.es.set i (splice cs j vs)⟩))) else none
  | none=>none
 | none=>none
def EP (own:AH):AV->Option (List (List AV))
 | .sl _ es=>some es
 | .nil=>some []
 | .bj (.bool _)=>some []
 | .row s t z off len=>match own.get s t with
  | some b=>if off+len<=b.es.length/\b.a6=z then some ((b.es.drop off).take len) else none
  | none=>none
 | _=>none
def K6:AV->Option Nat
 | .sl _ es=>some es.length
 | .nil=>some 0
 | .row _ _ _ _ len=>some len
 | _=>none
def snap (own:AH) (l:Bool):Nat->AV->Option AV
 | _,.int k n=>some (.int k n)
 | _,.bool b=>some (.bool b)
 | _,.sl l' es=>some (.sl l' es)
 | _,.nil=>some (.sl false [])
 | _,.bj v=>some (.bj v)
 | d+1,.row s t z off len=>match EP own (.row s t z off len) with
  | some es=>(es.mapM (λ cs:List AV=>cs.mapM (snap own l d))).map (AV.sl l)
  | none=>none
 | _,_=>none
def CW (own:AH) (l:Bool):AV->Option AV
 | .agg cs=>(cs.mapM (snap own l 6)).map AV.agg
 | v=>snap own l 6 v
def OH (own:AH) (l:Bool):AV->Option AV
 | .nil=>some .nil
 | v=>CW own l v
def QF (own:AH) (l:Bool):AV->Option AV
 | .e6 cs=>(cs.mapM (CW own l)).map AV.e6
 | v=>CW own l v
mutual
def A2:AV->Prop
 | .int _ _=>True
 | .bool _=>True
 | .bj _=>True
 | .sl l es=>l=false/\EZ es
 | .agg cs=>B8 cs
 | .e6 cs=>B8 cs
 | _=>False
def B8:List AV->Prop
 | []=>True
 | c::r=>A2 c/\B8 r
def EZ:List (List AV)->Prop
 | []=>True
 | c::r=>B8 c/\EZ r
end
def EK:Nat:=140737488355328
structure Cl where
 pure:Nat->List AV->Option AV
 df:Nat->List AV->AH->Option (AV × AH)
 num:Nat->Nat
noncomputable def XD (C:Cl) (f:Nat) (vs:List AV) (s:Nat) (q:CB):Option (AV × CB) :=
 open Classical in if h : ∃ p : AV × CB, ∀ o : AH, o s = q -> C.df f vs o = some (p.1, o.put s p.2) then some h.choose else none
theorem XF {C:Cl} {f:Nat} {vs:List AV} {s:Nat} {q:CB} {p:AV × CB}:XD C f vs s q=some p ↔ ∀ o:AH,o s=q->C.df f vs o=some (p.1,o.put s p.2):=by
 unfold XD;constructor
 ·intro h
  split at h
  ·rename_i hx
   obtain rfl:=Option.some.inj h;exact hx.choose_spec
  ·cases h
 ·intro h
  rw[dif_pos ⟨p,h⟩];have h1:=(⟨p,h⟩ : ∃ p:AV × CB,∀ o:AH,o s=q->C.df f vs o=some (p.1,o.put s p.2)).choose_spec (λ_=>q) rfl;have h2:=h (λ_=>q) rfl;have h3:=Option.some.inj (h2.symm.trans h1);refine congrArg some ?_;generalize (Exists.choose _:AV × CB)=p' at h3;obtain ⟨a,b⟩:=p;obtain ⟨a',b'⟩:=p';simp only[Prod.mk.injEq]at h3;obtain ⟨h4,h5⟩:=h3;have h6:b=b':=by
   have:=congrFun h5 s
   simpa [AH.put] using this
  rw[h4,h6]
noncomputable def N3 (C:Cl) (f:Nat) (vs:List AV) (s:Nat) (own:AH):Option (AV × AH) :=
 open Classical in if h : ∃ p : AV × AH, ∀ o : AH, (∀ q, q ≠ s -> o q = own q) -> C.df f vs o = some (p.1, p.2.put s (o s)) then some (h.choose.1, h.choose.2.put s ⟨0, λ_ => none⟩) else none
theorem XC {C:Cl} {f:Nat} {vs:List AV} {s:Nat} {own:AH} {p:AV × AH} (h:N3 C f vs s own=some p):p.2 s=⟨0,λ_=>none⟩ /\ ∀ o:AH,(∀ q,q≠s->o q=own q)->C.df f vs o=some (p.1,p.2.put s (o s)):=by
 unfold N3 at h;split at h
 ·rename_i hx
  obtain rfl:=Option.some.inj h;refine ⟨by simp [AH.put],λ o h2 => ?_⟩;rw[hx.choose_spec o h2];congr 2;funext q
  simp only[AH.put];split<;>rfl
 ·cases h
theorem XB {C:Cl} {f:Nat} {vs:List AV} {s:Nat} {own:AH} {p:AV × AH} (hp:p.2 s=⟨0,λ_=>none⟩) (h : ∀ o:AH,(∀ q,q≠s->o q=own q)->C.df f vs o=some (p.1,p.2.put s (o s))):N3 C f vs s own=some p:=by
 have hex : ∃ p:AV × AH,∀ o:AH,(∀ q,q≠s->o q=own q)->C.df f vs o=some (p.1,p.2.put s (o s)):=⟨p,h⟩;unfold N3;rw[dif_pos hex];have h1:=hex.choose_spec own λ_ _=>rfl
 have h2:=h own λ_ _=>rfl
 have h3:=Option.some.inj (h2.symm.trans h1);simp only[Prod.mk.injEq]at h3;refine congrArg some (Prod.ext h3.1.symm ?_);funext q
 have h4:=congrFun h3.2 q;simp only[AH.put]at h4 ⊢;by_cases e:q=s
 ·subst e;simp [hp]
 ·simpa [e] using h4.symm
def TS:AV->AV
 | .sl _ es => .sl false es
 | .nil => .sl false []
 | v=>v
def wu:AV->AV
 | .agg cs => .agg (cs.map TS)
 | v=>TS v
def VB:AV->AV
 | .sl _ es => .sl true es
 | v=>v
def yi:AV->AV
 | .agg cs => .agg (cs.map VB)
 | v=>VB v
mutual
def GS:AV->AV
 | .sl _ es => .sl true (OC es)
 | v=>v
def LB:List AV->List AV
 | []=>[]
 | c::r=>GS c::LB r
def OC:List (List AV)->List (List AV)
 | []=>[]
 | c::r=>LB c::OC r
end
def HV:AV->AV
 | .agg cs => .agg (LB cs)
 | v=>GS v
def J2:AV->AV
 | .e6 vs => .e6 (vs.map HV)
 | v=>HV v
def WL:AV->Prop
 | .e6 _=>False
 | .fn _ _ _ _=>False
 | _=>True
def QL:AV->Prop
 | .e6 vs => ∀ v∈vs,WL v
 | v=>WL v
def F3:AV->Bool
 | .int _ _=>true | .bool _=>true | .sl _ _=>true | .nil=>true
 | _=>false
def dq:AV->Bool
 | .agg cs=>cs.all F3
 | v=>F3 v
def sL:AV->Bool
 | .int _ _=>true | .bool _=>true
 | _=>false
def T4:AV->Prop
 | .int _ _=>True
 | .bool _=>True
 | .sl _ es => ∀ e∈es,∀ c∈e,sL c=true
 | _=>False
def IV:AV->Prop
 | .agg cs => ∀ c∈cs,T4 c
 | v=>T4 v
open Classical in
noncomputable def LC (r:AV):AV:=if IV r then yi r else J2 r
theorem eE {r:AV} (h:IV r):LC r=yi r:=if_pos h
theorem eD {r:AV} (h : ¬ IV r):LC r=J2 r:=if_neg h
def dS:List AV->Option (List Int)
 | []=>some []
 | .int .i64 n::r=>(dS r).map (n :: ·)
 | _=>none
def GH:AV->Option AV
 | .agg _=>none
 | .fn _ _ _ _=>none
 | .e6 _=>none
 | .any=>none
 | v=>some v
open Classical in
noncomputable def OT (x:Option (AV × AH)):Option (Nat × List (List AV)):=match x with
 | some (.row s t z 0 n,o)=>match o.get s t with
  | some b=>if b.es.length=n/\EZ b.es then some (z,b.es) else none
  | none=>none
 | _=>none
theorem So {x:Option (AV × AH)} {z:Nat} {es:List (List AV)} (h:OT x=some (z,es)) : ∃ s t o b,x=some (.row s t z 0 es.length,o)/\o.get s t=some b/\b.es=es/\EZ es:=by
 unfold OT at h;split at h
 ·split at h
  ·rename_i s t z' n o b hb
   split at h
   ·rename_i hc
    obtain ⟨rfl,hc⟩:=hc;simp only[Option.some.injEq,Prod.mk.injEq]at h;obtain ⟨rfl,rfl⟩:=h;exact ⟨_,_,_,_,rfl,hb,rfl,hc⟩
   ·cases h
  ·cases h
 ·cases h
open Classical in
noncomputable def c8 (C:Cl) (a8:List Nat) (ρ:AP->AV) (own:AH):DT->Option B9
 | .n0 x=>some (.val (ρ x))
 | .v9 s a6=>some (.yn s ⟨a6,[]⟩ (λ t => .row s t a6 0 0))
 | .pick c a b=>match ρ c with
  | .bool true=>some (.val (ρ a))
  | .bool false=>some (.val (ρ b))
  | _=>none
 | .bin op x y=>match ρ x,ρ y with
  | .int k a,.int k' b=>(C9 op k a k' b).map .val
  | _,_=>none
 | .beq ne x y=>match ρ x,ρ y with
  | .bool a,.bool b=>some (.val (.bool (if ne then !(a == b) else a == b)))
  | _,_=>none
 | .un op x=>(QI op (ρ x)).map .val
 | .conv k x=>match ρ x with
  | .int _ n=>some (.val (.int k (k.wrap n)))
  | _=>none
 | .box s x=>match cellsOf (ρ x) with
  | some cs=>some (.new s ⟨cs.length,[cs]⟩ (λ t => .ptr s t 0 0))
  | none=>none
 | .alloc s zero=>some (.new s ⟨zero.length,[zero]⟩ (λ t => .ptr s t 0 0))
 | .build zero parts=>(fill zero (parts.map λ p=>(p.1,p.2.1,ρ p.2.2))).map (λ cs => .val (.agg cs))
 | .b9 s a6 parts=>match parts.mapM (λ x=>cellsOf (ρ x)) with
  | some es=>if ∀ e∈es,e.length=a6 then some (.new s ⟨a6,es⟩ (λ t => .row s t a6 0 es.length)) else none
  | none=>none
 | .u6 x off=>match ρ x with
  | .ptr s t i j=>some (.val (.ptr s t i (j+off)))
  | .o5 cs=>some (.val (.o5 (cs.drop off)))
  | _=>none
 | .oz x off n agg=>match ρ x with
  | .agg cs=>match part cs off n with
   | some ds=>(II agg ds).map .val
   | none=>none
  | _=>none
 | .q7 arr a6 x i=>match ρ i with
  | .int _ n=>match arr,ρ x with
   | some len,.ptr s t i' j=>if 0<=n/\n<len then some (.val (.ptr s t i' (j+n.toNat*a6))) else none
   | some len,.o5 cs=>if 0<=n/\n<len then some (.val (.o5 (cs.drop (n.toNat*a6)))) else none
   | none,.row s t z off len=>if 0<=n/\n<len/\z=a6 then some (.val (.ptr s t (off+n.toNat) 0)) else none
   | none,.sl _ es=>if 0<=n then match es[n.toNat]? with
     | some cs=>if cs.length=a6 then some (.val (.o5 cs)) else none
     | none=>none
    else none
   | _,_=>none
  | _=>none
 | .ld agg n x=>match ρ x with
  | .ptr s t i j=>match (own.l6 a8).nv s t i j n with
   | some cs=>(II agg cs).map .val
   | none=>none
  | .o5 cs=>match part cs 0 n with
   | some ds=>(II agg ds).map .val
   | none=>none
  | _=>none
 | .st n x v=>match ρ x,cellsOf (ρ v) with
  | .ptr s t i j,some vs=>if vs.length=n then (own.ko s t i j vs).map (B9.ct (.e6 [])) else none
  | _,_=>none
 | .mk s a6 bytes zero l c=>match ρ l,ρ c with
  | .int _ a,.int _ b=>if 0<=a/\a<=b/\b*bytes<=EK/\b<=9223372036854775807/\zero.length=a6 then some (.new s ⟨a6,List.replicate a.toNat zero⟩ (λ t => .row s t a6 0 a.toNat)) else none
  | _,_=>none
 | .fk a6 x lo hi=>match ρ x with
  | .sl l es =>
   let h:Option Nat:=match hi with|none=>some es.length|some o=>match ρ o with | .int _ n=>if 0<=n/\n<=es.length then some n.toNat else none|_=>none
   let a:Option Nat:=match lo with|none=>some 0|some o=>match ρ o with | .int _ n=>if 0<=n then some n.toNat else none|_=>none
   match a,h with
   | some a,some h=>if a<=h /\ ∀ e∈es,e.length=a6 then some (.val (.sl l ((es.take h).drop a))) else none
   | _,_=>none
  | .nil =>
   let h:Option Nat:=match hi with|none=>some 0|some o=>match ρ o with | .int _ n=>if n=0 then some 0 else none|_=>none
   let a:Option Nat:=match lo with|none=>some 0|some o=>match ρ o with | .int _ n=>if n=0 then some 0 else none|_=>none
   match a,h with
   | some _,some _=>some (.val .nil)
   | _,_=>none
  | .row s t z off len =>
   let h:Option Nat:=match hi with|none=>some len|some o=>match ρ o with | .int _ n=>if 0<=n/\n<=len then some n.toNat else none|_=>none
   let a:Option Nat:=match lo with|none=>some 0|some o=>match ρ o with | .int _ n=>if 0<=n then some n.toNat else none|_=>none
   match a,h with
   | some a,some h=>if a<=h/\z=a6 then some (.val (.row s t z (off+a) (h-a))) else none
   | _,_=>none
  | _=>none
 | .ext x i=>match ρ x with
  | .e6 vs=>(vs[i]?).map .val
  | _=>none
 | .len x=>match K6 (ρ x) with
  | some n=>some (.val (.int .i64 (n:Int)))
  | none=>none
 | .mm max xs=>match xs.map ρ with
  | []=>none
  | v::r=>(J4 max v r).map .val
 | .app s a6 bytes x y=>match EP own (ρ y) with
  | some ys=>if ∀ e∈ys,e.length=a6 then match ρ x with
    | .row s' t z 0 len=>match own.get s' t with
     | some b=>if b.a6=a6/\z=a6/\len<=b.es.length/\(len+ys.length)*bytes<=EK/\len+ys.length<=9223372036854775807 then
       some (.ct (.row s' (own.e8 s') a6 0 (len+ys.length)) (own.put s' (((own s').m7 t none).new ⟨a6,b.es.take len++ys⟩)))
      else none
     | none=>none
    | .nil=>if ys.length*bytes<=EK/\ys.length<=9223372036854775807 then
       some (.ct (.row s (own.e8 s) a6 0 ys.length) (own.put s ((own s).new ⟨a6,ys⟩))) else none
    | _=>none
   else none
  | none=>none
 | .call f xs=>match (xs.map ρ).mapM (CW (own.l6 a8) true) with
  | some vs=>(C.pure f vs).map .val
  | none=>none
 | .c9 f xs=>match a8 with
  | [s]=>(N3 C f (xs.map ρ) s own).map (λ r => .Al s r.1 r.2)
  | _=>(C.df f (xs.map ρ) own).map (λ r => .ct r.1 r.2)
 | .ta ne x=>match ρ x with
  | .nil=>some (.val (.bool (xor true ne)))
  | .bj (.bool b)=>some (.val (.bool (xor b ne)))
  | .sl _ (_::_)=>some (.val (.bool (xor false ne)))
  | .row _ _ _ _ (_+1)=>some (.val (.bool (xor false ne)))
  | _=>none
 | .bad=>none
 | .mn x=>match ρ x with
  | .ptr s t i j=>some (.val (.ptr s t i j))
  | _=>none
 | .eg x=>match ρ x with
  | .nil=>some (.val (.int .i64 0))
  | _=>none
 | .oa s a6 bytes x y=>match ρ x,ρ y with
  | .nil,.int _ n=>if 0<n/\n*bytes<=EK/\n<=9223372036854775807 then some (.new s ⟨a6,[]⟩ (λ t => .row s t a6 0 n.toNat)) else none
  | _,_=>none
 | .x7 s f xs=>(XD C f (xs.map ρ) s (own s)).map λ p => .wv s p.2 p.1
 | .gf tb x=>match ρ x with
  | .int _ n=>if 0<=n then (match tb[n.toNat]? with
   | some v=>some (.val (.int .u8 v))
   | none=>none) else none
  | _=>none
 | .pz p f xs=>(xs.mapM (λ x=>GH (ρ x))).map (λ cs => .val (.fn (p&&cs.isEmpty) f (C.num f) cs))
 | .j5 f xs=>if (xs.map ρ).all dq=true then (match C.pure f ((xs.map ρ).map wu) with
   | some r=>if IV r\/QL r then some (.val (LC r)) else none
   | none=>none) else none
 | .mq s n x v=>match ρ x,cellsOf (ρ v) with
  | .ptr s' t i j,some vs=>if s'=s/\vs.length=n then (own.ko s t i j vs).map (λ o'=>B9.m7 s (o' s)) else none
  | _,_=>none
 | .s8 s f xs=>match (xs.map ρ).mapM (OH (own.l6 a8) true) with
  | some vs=>(OT (C.df f vs AH.emp)).map (λ r => .new s ⟨r.1,r.2⟩ (λ t => .row s t r.1 0 r.2.length))
  | none=>none
 | .m4 x xs=>match ρ x with
  | .fn p f g cs=>if g=C.num f then (match p,cs with
   | true,[]=>(match (xs.map ρ).mapM (CW own true) with
    | some vs=>(C.pure f vs).map .val
    | none=>none)
   | false,cs=>(C.df f (xs.map ρ++cs) own).map (λ r => .ct r.1 r.2)
   | true,c::cs=>(match (AV.agg (c::cs)::xs.map ρ).mapM (CW own true) with
    | some vs=>(C.pure f vs).map .val
    | none=>none)) else none
  | _=>none
def St.dst (st:St) (d:Option Nat) (v:AV):St :=
 match d with
 | some d=>{ st with tm:=gi st.tm d v }
 | none=>st
def St.app (st:St) (d:Option Nat):B9->St
 | .val v=>st.dst d v
 | .new s b v=>{ (st.dst d (v (st.own.e8 s))) with own:=st.own.put s ((st.own s).new b) }
 | .yn s b v=>{ (st.dst d (v (st.own.e8 s))) with own:=st.own.put s ((st.own s).new b) }
 | .ct v o=>{ (st.dst d v) with own:=o }
 | .Al s v o=>{ (st.dst d v) with own:=o.put s (st.own s) }
 | .m7 s x=>{ (st.dst d (.e6 [])) with own:=st.own.put s x }
 | .wv s x v=>{ (st.dst d v) with own:=st.own.put s x }
def EW (st:St):Option (Nat × Bool)->Option Bool
 | none=>some true
 | some (g,want)=>match e5 st.tm g with
  | .bool b=>some (b == want)
  | .e6 []=>some false
  | _=>none
noncomputable def CO (C:Cl) (o:AI) (st:St):Option St :=
 match EW st o.guard with
 | some true=>(c8 C o.a8 st.ev st.own o.op).map (st.app o.dst)
 | some false=>some (st.dst o.dst (.e6 []))
 | none=>none
noncomputable def CZ (C:Cl):List AI->St->Option St
 | [],st=>some st
 | o::r,st=>match CO C o st with
  | some j4=>CZ C r j4
  | none=>none
def ED:DT->Option Nat
 | .v9 s _=>some s
 | .box s _=>some s
 | .alloc s _=>some s
 | .b9 s _ _=>some s
 | .mk s _ _ _ _ _=>some s
 | .mq s _ _ _=>some s
 | .s8 s _ _=>some s
 | .oa s _ _ _ _=>some s
 | .x7 s _ _=>some s
 | _=>none
inductive It where
 | code (c:BH)
 | jr (ts ss:List Nat)
 | c7 (id:Nat)
 | lp (c:BH)
def DS (id:Nat):List It->Option (List It)
 | .c7 Iu::k=>if Iu=id then some k else DS id k
 | _::k=>DS id k
 | []=>none
def AH.drop (o:AH):List Nat->AH
 | []=>o
 | s::r=>(o.drop r).put s ⟨(o s).e8,λ_=>none⟩
noncomputable def run (C:Cl):Nat->List It->St->Option St
 | 0,_,_=>none
 | _+1,[],st=>some st
 | n+1,.c7 _::k,st=>run C n k st
 | n+1,.jr ts ss::k,st=>run C n k ⟨v8 st.tm ts,st.own.drop ss⟩
 | n+1,.lp c::k,st=>run C n (.code c :: .lp c::k) st
 | n+1,.code c::k,st=>match c with
  | .skip=>run C n k st
  | .ops l _=>match CZ C l st with
   | some j4=>run C n k j4
   | none=>none
  | .dr c ts ss=>run C n (.code c :: .jr ts ss::k) st
  | .scope c=>run C n (.code c::k) st
  | .seq a b=>run C n (.code a :: .code b::k) st
  | .cond c a b=>match st.ev c with
   | .bool true=>run C n (.code a::k) st
   | .bool false=>run C n (.code b::k) st
   | _=>none
  | .block id c=>run C n (.code c :: .c7 id::k) st
  | .loop c=>run C n (.code c :: .lp c::k) st
  | .exit id=>match DS id k with
   | some k'=>run C n k' st
   | none=>none
  | .ret=>some st
def CN (i:Nat):List AV->Tm
 | []=>[]
 | v::r=>(i,v)::CN (i+1) r
def HF:AV->Option AV
 | .any=>none
 | .e6 _=>none
 | v=>some v
def EX (st:St):IR->Option AV
 | .tmp t=>HF (e5 st.tm t)
 | .cell t agg n=>match e5 st.tm t with
  | .ptr s u i j=>match st.own.nv s u i j n with
   | some cs=>II agg cs
   | none=>none
  | _=>none
def G9:List AV->AV
 | [v]=>v
 | vs => .e6 vs
structure Lib where
 fn:Nat->Option AFn
 num:Nat->Nat
instance : CoeFun Lib (λ_ => Nat -> Option AFn) := ⟨Lib.fn⟩
open Classical in
noncomputable def HZ (I:List AV->Option (AV × AH)) (vs:List AV):Option AV :=
 match I vs with
 | some (r,o)=>match QF o false r with
  | some r'=>if A2 r' then some r' else none
  | none=>none
 | none=>none
def Lib.qb (L:Lib) (f:Nat):Bool:=match L f with
 | some fn=>fn.qb
 | none=>false
open Classical in
noncomputable def J8 (b:Bool) (I:List AV->Option (AV × AH)) (vs:List AV):Option AV:=match b,vs with
 | true,.sl _ []::vs=>match HZ I (.bj (.bool true)::vs),HZ I (.bj (.bool false)::vs) with
  | some r,some r'=>if r=r' then some r else none
  | _,_=>none
 | _,vs=>HZ I vs
noncomputable def C4 (L:Lib):Nat->Nat->List AV->AH->Option (AV × AH)
 | 0,_,_,_=>none
 | n+1,f,args,own=>match L f with
  | none=>none
  | some fn=>if args.length=fn.ah then
    match run ⟨λ f vs=>J8 (L.qb f) (λ vs=>C4 L n f vs AH.emp) vs,C4 L n,L.num⟩ n [.code fn.body] ⟨CN 0 args,own⟩ with
    | some st=>match fn.res.mapM (EX st) with
     | some vs=>some (G9 vs,st.own)
     | none=>none
    | none=>none
   else none
noncomputable def F4 (L:Lib) (n f:Nat) (vs:List AV):Option AV:=J8 (L.qb f) (λ vs=>C4 L n f vs AH.emp) vs
noncomputable def CJ (L:Lib) (n:Nat):Cl:=⟨F4 L n,C4 L n,L.num⟩
theorem Q5 (L:Lib) (n f:Nat) (args:List AV) (own:AH):C4 L (n+1) f args own =
  match L f with
  | none=>none
  | some fn=>if args.length=fn.ah then
    match run (CJ L n) n [.code fn.body] ⟨CN 0 args,own⟩ with
    | some st=>match fn.res.mapM (EX st) with
     | some vs=>some (G9 vs,st.own)
     | none=>none
    | none=>none
   else none:=rfl
namespace C
abbrev o (d:Nat) (op:DT):AI:=⟨some d,op,none,[]⟩
abbrev n (op:DT):AI:=⟨none,op,none,[]⟩
abbrev g (d i:Nat) (b:Bool) (op:DT):AI:=⟨some d,op,some (i,b),[]⟩
abbrev m (d s:Nat):AI:=⟨some d,.n0 (.t s),none,[]⟩
abbrev k (v:Int):AP := .c (.int .i64 v)
abbrev z:AV := .int .i64 0
abbrev q (d:Nat) (a8:List Nat) (op:DT):AI:=⟨some d,op,none,a8⟩
abbrev u (a8:List Nat) (op:DT):AI:=⟨none,op,none,a8⟩
abbrev v (d i:Nat) (b:Bool) (a8:List Nat) (op:DT):AI:=⟨some d,op,some (i,b),a8⟩
abbrev p (l:List AI):BH := .ops l false
abbrev P (l:List AI):BH := .ops l true
abbrev d (l:List AI) (ts:List Nat):BH := .dr (.ops l false) ts []
abbrev e (l:List AI) (ts:List Nat):BH := .dr (.ops l true) ts []
abbrev s (a b:BH):BH := .seq a b
abbrev i (c:AP) (a b:BH):BH := .cond c a b
abbrev b (id:Nat) (c:BH):BH := .block id c
abbrev w (c:BH):BH := .loop c
abbrev x (id:Nat):BH := .exit id
instance (i : Nat) : OfNat AP i := ⟨.t i⟩
abbrev mv (d:Nat) (x:AP):AI:=⟨some d,.n0 x,none,[]⟩
abbrev tt (d n:Nat) (x:AP):AI:=⟨some d,.ld true n x,none,[]⟩
abbrev uu (d n:Nat) (x:AP):AI:=⟨some d,.ld false n x,none,[]⟩
abbrev ca (d f:Nat) (l:List AP):AI:=⟨some d,.call f l,none,[]⟩
abbrev fa (d:Nat) (x:AP) (a:Nat):AI:=⟨some d,.u6 x a,none,[]⟩
abbrev ia (d z:Nat) (x y:AP):AI:=⟨some d,.q7 none z x y,none,[]⟩
abbrev bi (d:Nat) (f:BinOp) (x y:AP):AI:=⟨some d,.bin f x y,none,[]⟩
abbrev ad (d:Nat) (x y:AP):AI:=⟨some d,.bin .add x y,none,[]⟩
abbrev sb (d:Nat) (x y:AP):AI:=⟨some d,.bin .sub x y,none,[]⟩
abbrev ls (d:Nat) (x y:AP):AI:=⟨some d,.bin .lss x y,none,[]⟩
abbrev al (d:Nat) (l:List AV):AI:=⟨some d,.alloc d l,none,[]⟩
abbrev ln (d:Nat) (x:AP):AI:=⟨some d,.len x,none,[]⟩
abbrev et (d:Nat) (x:AP) (a:Nat):AI:=⟨some d,.ext x a,none,[]⟩
abbrev bx (d:Nat) (x:AP):AI:=⟨some d,.box d x,none,[]⟩
abbrev pk (d:Nat) (x y w:AP):AI:=⟨some d,.pick x y w,none,[]⟩
abbrev nt (d:Nat) (x:AP):AI:=⟨some d,.un .not x,none,[]⟩
abbrev cu (d:Nat) (x:AP):AI:=⟨some d,.conv .u64 x,none,[]⟩
abbrev so (n:Nat) (x y:AP):AI:=⟨none,.st n x y,none,[]⟩
abbrev kf:AP := .c (.bool false)
abbrev kt:AP := .c (.bool true)
abbrev k0:AP := .c (.int .i64 0)
abbrev k1:AP := .c (.int .i64 1)
abbrev z3:List AV:=[.bool false,.nil,.nil]
abbrev ra (a n:Nat):List Nat:=List.range' a n
abbrev rl (l:List Nat) (a n:Nat):List Nat:=l++List.range' a n
end C
end Go.b8
namespace Go.b8.F
open C
namespace KL
def r0:=[mv 2 kf]
def r1:=[m 3 0,m 4 0,bi 5 .neq 3 4,m 2 5]
def c:=(s (d r0 [2]) (s (d r1 [0,3,4,5]) .ret))
end KL
def KL:AFn:=⟨1,KL.c,[.tmp 2],false⟩
namespace KM
def r0:=[mv 2 kf]
def r1:=[m 3 0,m 4 0,bi 5 .neq 3 4,m 2 5]
def c:=(s (d r0 [2]) (s (d r1 [0,3,4,5]) .ret))
end KM
def KM:AFn:=⟨1,KM.c,[.tmp 2],false⟩
namespace KH
def r0:=[mv 4 k0]
def r1:=[m 7 0,ca 8 58 [7],m 5 8]
def r2:=[m 9 1,ca 10 58 [9],m 6 10]
def r3:=[m 11 5]
def r4:=[m 12 6]
def r5:=[mv 4 k0]
def r6:=[mv 4 (k (-1))]
def r7:=[m 13 6]
def r8:=[mv 4 k1]
def r9:=[m 14 0,m 15 1,ls 16 14 15]
def B2:=[mv 4 (k (-1))]
def B7:=[m 17 0,m 18 1,bi 19 .gtr 17 18]
def q9:=[mv 4 k1]
def CG:=[mv 4 k0]
def c:=(s (d r0 [4]) (s (d r1 [7,8]) (s (d r2 [9,10]) (s (s (d r3 [5]) (i 11 (s (s (d r4 [0,1,6,11]) (i 12 (s (d r5 [12]) .ret) .skip)) (s (d r6 [12]) .ret)) .skip)) (s (s (d r7 [6,11]) (i 13 (s (d r8 [0,1,13]) .ret) .skip)) (s (s (d r9 [13,14,15]) (i 16 (s (d B2 [0,1,16]) .ret) .skip)) (s (s (d B7 [0,1,16,17,18]) (i 19 (s (d q9 [19]) .ret) .skip)) (s (d CG [19]) .ret))))))))
end KH
def KH:AFn:=⟨2,KH.c,[.tmp 4],false⟩
namespace KJ
def r0:=[mv 4 k0]
def r1:=[m 7 0,ca 8 59 [7],m 5 8]
def r2:=[m 9 1,ca 10 59 [9],m 6 10]
def r3:=[m 11 5]
def r4:=[m 12 6]
def r5:=[mv 4 k0]
def r6:=[mv 4 (k (-1))]
def r7:=[m 13 6]
def r8:=[mv 4 k1]
def r9:=[m 14 0,m 15 1,ls 16 14 15]
def B2:=[mv 4 (k (-1))]
def B7:=[m 17 0,m 18 1,bi 19 .gtr 17 18]
def q9:=[mv 4 k1]
def CG:=[mv 4 k0]
def c:=(s (d r0 [4]) (s (d r1 [7,8]) (s (d r2 [9,10]) (s (s (d r3 [5]) (i 11 (s (s (d r4 [0,1,6,11]) (i 12 (s (d r5 [12]) .ret) .skip)) (s (d r6 [12]) .ret)) .skip)) (s (s (d r7 [6,11]) (i 13 (s (d r8 [0,1,13]) .ret) .skip)) (s (s (d r9 [13,14,15]) (i 16 (s (d B2 [0,1,16]) .ret) .skip)) (s (s (d B7 [0,1,16,17,18]) (i 19 (s (d q9 [19]) .ret) .skip)) (s (d CG [19]) .ret))))))))
end KJ
def KJ:AFn:=⟨2,KJ.c,[.tmp 4],false⟩
namespace HA
def r0:=[mv 2 (.c .nil)]
def r1:=[m 3 0,o 4 (.ta false 3)]
def r2:=[mv 2 (.c .nil)]
def r3:=[o 5 (.b9 5 1 []),m 6 0,o 7 (.app 7 1 4 5 6),m 2 7]
def c:=(s (d r0 [2]) (s (s (d r1 [3]) (i 4 (s (d r2 [0,4]) .ret) .skip)) (s (d r3 [0,4,5,6,7]) .ret)))
end HA
def HA:AFn:=⟨1,HA.c,[.tmp 2],true⟩
namespace LI
def r0:=[mv 2 k0]
def r1:=[m 3 0,bi 4 .geq 3 (.c (.int .u32 (65536)))]
def r2:=[m 5 0,bi 6 .shr 5 (.c (.int .u64 (16))),m 0 6]
def r3:=[mv 2 (k 16)]
def r4:=[m 7 0,bi 8 .geq 7 (.c (.int .u32 (256)))]
def r5:=[m 9 0,bi 10 .shr 9 (.c (.int .u64 (8))),m 0 10]
def r6:=[m 11 2,ad 12 11 (k 8),m 2 12]
def r7:=[m 13 2,m 14 0,o 15 (.conv .u8 14),
 o 16 (.gf (List.replicate 1 0++List.replicate 1 1++List.replicate 2 2++List.replicate 4 3++List.replicate 8 4++List.replicate 16 5++List.replicate 32 6++List.replicate 64 7++List.replicate 128 8) 15),
 o 17 (.conv .i64 16),ad 18 13 17,m 2 18]
def c:=(s (p r0) (s (s (d r1 [3]) (i 4 (s (d r2 [2,4,5,6]) (p r3)) .skip)) (s (s (d r4 [4,7]) (i 8 (s (d r5 [8,9,10]) (d r6 [11,12])) .skip)) (s (d r7 (rl [0,8] 13 6)) .ret))))
end LI
def LI:AFn:=⟨1,LI.c,[.tmp 2],false⟩
namespace LH
def r0:=[mv 2 k0]
def r1:=[m 3 0,ca 4 63 [3],sb 5 (k 32) 4,m 2 5]
def c:=(s (d r0 [2]) (s (d r1 [0,3,4,5]) .ret))
end LH
def LH:AFn:=⟨1,LH.c,[.tmp 2],false⟩
namespace FF
def r0:=[mv 2 (.c .nil)]
def r1:=[m 4 0,ln 5 4,m 3 5]
def r2:=[m 6 3,bi 7 .gtr 6 k0,m 8 7,g 9 8 true (.n0 0),g 10 8 true (.n0 3),g 11 8 true (.bin .sub 10 k1),g 12 8 true (.q7 none 1 9 11),
 g 13 8 true (.ld false 1 12),g 14 8 true (.bin .eql 13 (.c (.int .u32 (0)))),pk 15 8 14 kf]
def r3:=[m 16 3,sb 17 16 k1,m 3 17]
def r4:=[m 18 0,m 19 3,o 20 (.fk 1 18 none (some 19)),m 2 20]
def l1:=(s (s (d r2 (ra 6 9)) (i 15 .skip (x 0))) (b 1 (d r3 [15,16,17])))
def c:=(s (d r0 [2]) (s (d r1 [4,5]) (s (b 0 (w l1)) (s (d r4 [0,3,15,18,19,20]) .ret))))
end FF
def FF:AFn:=⟨1,FF.c,[.tmp 2],false⟩
namespace LP
def r0:=[mv 2 (.c .nil)]
def r1:=[m 3 0,o 4 (.c9 65 [3]),ca 5 62 [4],m 2 5]
def c:=(s (d r0 [2]) (s (d r1 [0,3,4,5]) .ret))
end LP
def LP:AFn:=⟨1,LP.c,[.tmp 2],false⟩
namespace LL
def r0:=[mv 4 k0]
def r1:=[m 8 0,o 9 (.c9 65 [8]),m 10 1,o 11 (.c9 65 [10]),m 5 9,m 6 11]
def r2:=[m 12 5,ln 13 12,m 14 6,ln 15 14,bi 16 .neq 13 15]
def r3:=[m 17 5,ln 18 17,m 19 6,ln 20 19,ca 21 60 [18,20],m 4 21]
def r4:=[m 22 5,ln 23 22,sb 24 23 k1,m 7 24]
def r5:=[m 25 7,bi 26 .geq 25 k0]
def r7:=[m 29 5,m 30 7,ia 31 1 29 30,uu 32 1 31,m 33 6,m 34 7,ia 35 1 33 34,uu 36 1 35,bi 37 .neq 32 36]
def r8:=[m 38 5,m 39 7,ia 40 1 38 39,uu 41 1 40,m 42 6,m 43 7,ia 44 1 42 43,uu 45 1 44,ca 46 61 [41,45],
 m 4 46]
def r6:=[m 27 7,sb 28 27 k1,m 7 28]
def r9:=[mv 4 k0]
def l1:=(s (s (d r5 [25]) (i 26 .skip (x 0))) (s (b 1 (s (e r7 (rl [26] 29 8)) (i 37 (s (e r8 (rl [5,6,7] 37 10)) .ret) .skip))) (d r6 [27,28,37])))
def c:=(s (d r0 [4]) (s (d r1 (rl [0,1] 8 4)) (s (s (d r2 (ra 12 4)) (i 16 (s (d r3 (rl [5,6] 16 6)) .ret) .skip)) (s (s (d r4 [16,22,23,24]) (b 0 (w l1))) (s (d r9 [5,6,7,26]) .ret)))))
end LL
def LL:AFn:=⟨2,LL.c,[.tmp 4],false⟩
namespace LK
def r0:=[mv 4 (.c .nil)]
def r1:=[m 12 0,o 13 (.c9 65 [12]),m 14 1,o 15 (.c9 65 [14]),m 5 13,m 6 15]
def r2:=[m 16 5,ln 17 16,m 18 6,ln 19 18,ls 20 17 19]
def r3:=[m 21 6,m 22 5,m 5 21,m 6 22]
def r4:=[m 23 5,ln 24 23,ad 25 24 k1,o 26 (.mk 26 1 4 [(.int .u32 (0))] 25 25),m 7 26]
def r5:=[mv 8 (.c (.int .u64 (0)))]
def r6:=[m 27 5,ln 28 27,mv 29 k0]
def r7:=[ls 30 29 28]
def r8:=[m 31 29,ia 32 1 27 29,uu 33 1 32,m 9 31,m 10 33]
def r9:=[m 34 10,cu 35 34,m 36 8,ad 37 35 36,m 11 37]
def B2:=[m 38 9,m 39 6,ln 40 39,ls 41 38 40]
def B7:=[m 42 11,m 43 6,m 44 9,ia 45 1 43 44,uu 46 1 45,cu 47 46,ad 48 42 47,m 11 48]
def q9:=[m 49 7,m 50 9,m 51 11,o 52 (.conv .u32 51),ia 53 1 49 50,so 1 53 52]
def CG:=[m 54 11,bi 55 .shr 54 (.c (.int .u64 (32))),m 8 55]
def y7:=[ad 56 29 k1,m 29 56]
def ak:=[m 57 7,m 58 5,ln 59 58,m 60 8,o 61 (.conv .u32 60),ia 62 1 57 59,so 1 62 61]
def br:=[m 63 7,o 64 (.c9 65 [63]),m 4 64]
def l1:=(s (p r7) (s (i 30 .skip (x 0)) (s (b 1 (s (d r8 (ra 30 4)) (s (d r9 (rl [8,10] 34 4)) (s (s (d B2 [38,39,40]) (i 41 (d B7 (ra 41 8)) .skip)) (s (d q9 (rl [9,41] 49 5)) (d CG [11,54,55])))))) (d y7 [56]))))
def c:=(s (d r0 [4]) (s (d r1 (rl [0,1] 12 4)) (s (s (d r2 (ra 16 4)) (i 20 (d r3 [20,21,22]) .skip)) (s (d r4 (rl [20] 23 4)) (s (p r5) (s (s (p r6) (b 0 (w l1))) (s (d ak (rl [5,6,8,27,28,29,30] 57 6)) (s (d br [7,63,64]) .ret))))))))
end LK
def LK:AFn:=⟨2,LK.c,[.tmp 4],false⟩
namespace LO
def r0:=[mv 4 (.c .nil)]
def r1:=[m 12 0,m 13 1,ca 14 67 [12,13],bi 15 .leq 14 k0]
def r2:=[mv 4 (.c .nil)]
def r3:=[m 16 0,o 17 (.c9 65 [16]),m 18 1,o 19 (.c9 65 [18]),m 5 17,m 6 19]
def r4:=[m 20 5,ln 21 20,o 22 (.mk 22 1 4 [(.int .u32 (0))] 21 21),m 7 22]
def r5:=[mv 8 (.c (.int .u64 (0)))]
def r6:=[m 23 5,ln 24 23,mv 25 k0]
def r7:=[ls 26 25 24]
def r8:=[m 27 25,ia 28 1 23 25,uu 29 1 28,m 9 27,m 10 29]
def r9:=[m 30 10,cu 31 30,m 32 8,sb 33 31 32,m 11 33]
def B2:=[m 34 9,m 35 6,ln 36 35,ls 37 34 36]
def B7:=[m 38 11,m 39 6,m 40 9,ia 41 1 39 40,uu 42 1 41,cu 43 42,sb 44 38 43,m 11 44]
def q9:=[m 45 7,m 46 9,m 47 11,o 48 (.conv .u32 47),ia 49 1 45 46,so 1 49 48]
def CG:=[m 50 11,bi 51 .shr 50 (.c (.int .u64 (63))),m 8 51]
def y7:=[ad 52 25 k1,m 25 52]
def ak:=[m 53 7,o 54 (.c9 65 [53]),m 4 54]
def l1:=(s (p r7) (s (i 26 .skip (x 0)) (s (b 1 (s (d r8 (ra 26 4)) (s (d r9 (rl [8,10] 30 4)) (s (s (d B2 [34,35,36]) (i 37 (d B7 (ra 37 8)) .skip)) (s (d q9 (rl [9,37] 45 5)) (d CG [11,50,51])))))) (d y7 [52]))))
def c:=(s (d r0 [4]) (s (s (d r1 [12,13,14]) (i 15 (s (d r2 [0,1,15]) .ret) .skip)) (s (d r3 (rl [0,1] 15 5)) (s (d r4 [20,21,22]) (s (p r5) (s (s (d r6 [5]) (b 0 (w l1))) (s (d ak [6,7,8,23,24,25,26,53,54]) .ret)))))))
end LO
def LO:AFn:=⟨2,LO.c,[.tmp 4],false⟩
namespace LN
def r0:=[mv 4 (.c .nil)]
def r1:=[m 14 0,o 15 (.c9 65 [14]),m 16 1,o 17 (.c9 65 [16]),m 5 15,m 6 17]
def r2:=[m 18 5,ln 19 18,bi 20 .eql 19 k0,m 21 20,g 22 21 false (.n0 6),g 23 21 false (.len 22),g 24 21 false (.bin .eql 23 k0),
 pk 25 21 kt 24]
def r3:=[mv 4 (.c .nil)]
def r4:=[m 26 5,ln 27 26,m 28 6,ln 29 28,ad 30 27 29,o 31 (.mk 31 1 4 [(.int .u32 (0))] 30 30),m 7 31]
def r5:=[m 32 5,ln 33 32,mv 34 k0]
def r6:=[ls 35 34 33]
def r7:=[m 36 34,ia 37 1 32 34,uu 38 1 37,m 8 36,m 9 38]
def r8:=[m 39 9,bi 40 .eql 39 (.c (.int .u32 (0)))]
def r9:=[mv 10 (.c (.int .u64 (0)))]
def B2:=[m 41 6,ln 42 41,mv 43 k0]
def B7:=[ls 44 43 42]
def q9:=[m 45 43,ia 46 1 41 43,uu 47 1 46,m 11 45,m 12 47]
def CG:=[m 48 9,cu 49 48,m 50 12,cu 51 50,bi 52 .mul 49 51,m 53 7,m 54 8,m 55 11,ad 56 54 55,ia 57 1 53 56,
 uu 58 1 57,cu 59 58,ad 60 52 59,m 61 10,ad 62 60 61,m 13 62]
def y7:=[m 63 7,m 64 8,m 65 11,ad 66 64 65,m 67 13,o 68 (.conv .u32 67),ia 69 1 63 66,so 1 69 68]
def ak:=[m 70 13,bi 71 .shr 70 (.c (.int .u64 (32))),m 10 71]
def br:=[ad 72 43 k1,m 43 72]
def D7:=[m 73 7,m 74 8,m 75 6,ln 76 75,ad 77 74 76,m 78 10,o 79 (.conv .u32 78),ia 80 1 73 77,so 1 80 79]
def bu:=[ad 81 34 k1,m 34 81]
def dj:=[m 82 7,o 83 (.c9 65 [82]),m 4 83]
def l2:=(s (p B7) (s (i 44 .skip (x 2)) (s (b 3 (s (d q9 (ra 44 4)) (s (d CG (rl [10,12] 48 15)) (s (d y7 (rl [11] 63 7)) (d ak [13,70,71]))))) (d br [72]))))
def l1:=(s (p r6) (s (i 35 .skip (x 0)) (s (b 1 (s (d r7 (ra 35 4)) (s (s (d r8 [39]) (i 40 (x 1) .skip)) (s (d r9 [40]) (s (s (p B2) (b 2 (w l2))) (d D7 (rl [8,9,10,41,42,43,44] 73 8))))))) (d bu [8,9,40,81]))))
def c:=(s (d r0 [4]) (s (d r1 (rl [0,1] 14 4)) (s (s (d r2 (ra 18 7)) (i 25 (s (d r3 [5,6,25]) .ret) .skip)) (s (d r4 (ra 25 7)) (s (s (d r5 [5]) (b 0 (w l1))) (s (d dj [6,7,32,33,34,35,82,83]) .ret))))))
end LN
def LN:AFn:=⟨2,LN.c,[.tmp 4],false⟩
namespace I8
def r0:=[mv 6 (.c .nil)]
def r1:=[m 11 2,o 12 (.mk 71012 1 4 [(.int .u32 (0))] 11 11),m 7 12]
def r2:=[mv 8 (.c (.int .u32 (0)))]
def r3:=[m 13 0,ln 14 13,mv 15 k0]
def r4:=[ls 16 15 14]
def r5:=[m 17 15,ia 18 1 13 15,uu 19 1 18,m 9 17,m 10 19]
def r6:=[m 20 7,m 21 9,m 22 10,m 23 1,bi 24 .shl 22 23,m 25 8,bi 26 .or 24 25,ia 27 1 20 21,so 1 27 26]
def r7:=[m 28 10,cu 29 28,m 30 1,bi 31 .shl 29 30,bi 32 .shr 31 (.c (.int .u64 (32))),o 33 (.conv .u32 32),m 8 33]
def r8:=[ad 34 15 k1,m 15 34]
def r9:=[m 35 2,m 36 0,ln 37 36,bi 38 .gtr 35 37]
def B2:=[m 39 7,m 40 0,ln 41 40,m 42 8,ia 43 1 39 41,so 1 43 42]
def B7:=[m 44 7,m 6 44]
def l1:=(s (p r4) (s (i 16 .skip (x 0)) (s (b 1 (s (d r5 (ra 16 4)) (s (d r6 (rl [8,9] 20 8)) (d r7 (rl [10] 28 6))))) (d r8 [34]))))
def c:=(s (d r0 [6]) (s (d r1 [11,12]) (s (p r2) (s (s (p r3) (b 0 (w l1))) (s (s (d r9 [1,2,13,14,15,16,35,36,37]) (i 38 (d B2 (rl [0,8] 38 6)) .skip)) (s (d B7 [0,7,8,38,44]) .ret))))))
end I8
def I8:AFn:=⟨3,I8.c,[.tmp 6],false⟩
namespace LV
def r0:=[mv 4 (.c .nil)]
def r1:=[m 8 0,ln 9 8,o 10 (.mk 10 1 4 [(.int .u32 (0))] 9 9),m 5 10]
def r2:=[mv 6 (.c (.int .u32 (0)))]
def r3:=[m 11 0,ln 12 11,sb 13 12 k1,m 7 13]
def r4:=[m 14 7,bi 15 .geq 14 k0]
def r6:=[m 18 5,m 19 7,m 20 0,m 21 7,ia 22 1 20 21,uu 23 1 22,m 24 1,bi 25 .shr 23 24,m 26 6,bi 27 .or 25 26,
 ia 28 1 18 19,so 1 28 27]
def r7:=[m 29 0,m 30 7,ia 31 1 29 30,uu 32 1 31,cu 33 32,m 34 1,sb 35 (.c (.int .u64 (32))) 34,
 bi 36 .shl 33 35,o 37 (.conv .u32 36),m 6 37]
def r5:=[m 16 7,sb 17 16 k1,m 7 17]
def r8:=[m 38 5,m 4 38]
def l1:=(s (s (d r4 [14]) (i 15 .skip (x 0))) (s (b 1 (s (d r6 (rl [6,15] 18 11)) (d r7 (ra 29 9)))) (d r5 [16,17])))
def c:=(s (d r0 [4]) (s (d r1 [8,9,10]) (s (p r2) (s (s (d r3 [11,12,13]) (b 0 (w l1))) (s (d r8 [0,1,5,6,7,15,38]) .ret)))))
end LV
def LV:AFn:=⟨2,LV.c,[.tmp 4],false⟩
namespace FM
def r0:=[mv 4 (.c (.int .u32 (0)))]
def r1:=[m 19 1,ln 20 19,m 5 20]
def r2:=[m 21 0,m 22 5,ia 23 1 21 22,uu 24 1 23,cu 25 24,bi 26 .shl 25 (.c (.int .u64 (32))),m 27 0,m 28 5,
 sb 29 28 k1,ia 30 1 27 29,uu 31 1 30,cu 32 31,bi 33 .or 26 32,m 6 33]
def r3:=[m 34 6,m 35 1,m 36 5,sb 37 36 k1,ia 38 1 35 37,uu 39 1 38,cu 40 39,bi 41 .quo 34 40,m 42 6,
 m 43 1,m 44 5,sb 45 44 k1,ia 46 1 43 45,uu 47 1 46,cu 48 47,bi 49 .rem 42 48,m 7 41,m 8 49]
def r4:=[m 50 7,bi 51 .geq 50 (.c (.int .u64 (4294967296))),m 52 51,g 53 52 false (.n0 7),g 54 52 false (.n0 1),g 55 52 false (.n0 5),
 g 56 52 false (.bin .sub 55 (k 2)),g 57 52 false (.q7 none 1 54 56),g 58 52 false (.ld false 1 57),g 59 52 false (.conv .u64 58),
 g 60 52 false (.bin .mul 53 59),g 61 52 false (.n0 8),g 62 52 false (.bin .shl 61 (.c (.int .u64 (32)))),g 63 52 false (.n0 0),g 64 52 false (.n0 5),
 g 65 52 false (.bin .sub 64 (k 2)),g 66 52 false (.q7 none 1 63 65),g 67 52 false (.ld false 1 66),g 68 52 false (.conv .u64 67),
 g 69 52 false (.bin .or 62 68),g 70 52 false (.bin .gtr 60 69),pk 71 52 kt 70]
def r5:=[m 72 7,sb 73 72 (.c (.int .u64 (1))),m 7 73]
def r6:=[m 74 8,m 75 1,m 76 5,sb 77 76 k1,ia 78 1 75 77,uu 79 1 78,cu 80 79,ad 81 74 80,m 8 81]
def r7:=[m 82 8,bi 83 .geq 82 (.c (.int .u64 (4294967296)))]
def r8:=[mv 9 (.c (.int .u64 (0))),mv 10 (.c (.int .u64 (0)))]
def r9:=[m 84 1,ln 85 84,mv 86 k0]
def B2:=[ls 87 86 85]
def B7:=[m 88 86,ia 89 1 84 86,uu 90 1 89,m 11 88,m 12 90]
def q9:=[m 91 7,m 92 12,cu 93 92,bi 94 .mul 91 93,m 95 9,ad 96 94 95,m 13 96]
def CG:=[m 97 13,bi 98 .shr 97 (.c (.int .u64 (32))),m 9 98]
def y7:=[m 99 0,m 100 11,ia 101 1 99 100,uu 102 1 101,cu 103 102,m 104 13,o 105 (.conv .u32 104),cu 106 105,
 sb 107 103 106,m 108 10,sb 109 107 108,m 14 109]
def ak:=[m 110 0,m 111 11,m 112 14,o 113 (.conv .u32 112),ia 114 1 110 111,so 1 114 113]
def br:=[m 115 14,bi 116 .shr 115 (.c (.int .u64 (63))),m 10 116]
def D7:=[ad 117 86 k1,m 86 117]
def bu:=[m 118 0,m 119 5,ia 120 1 118 119,uu 121 1 120,cu 122 121,m 123 9,sb 124 122 123,m 125 10,
 sb 126 124 125,m 15 126]
def dj:=[m 127 0,m 128 5,m 129 15,o 130 (.conv .u32 129),ia 131 1 127 128,so 1 131 130]
def gn:=[m 132 15,bi 133 .shr 132 (.c (.int .u64 (63))),bi 134 .eql 133 (.c (.int .u64 (0)))]
def kn:=[m 135 7,o 136 (.conv .u32 135),m 4 136]
def mo:=[mv 9 (.c (.int .u64 (0)))]
def rb:=[m 137 1,ln 138 137,mv 139 k0]
def JB:=[ls 140 139 138]
def JC:=[m 141 139,ia 142 1 137 139,uu 143 1 142,m 16 141,m 17 143]
def L7:=[m 144 0,m 145 16,ia 146 1 144 145,uu 147 1 146,cu 148 147,m 149 17,cu 150 149,ad 151 148 150,
 m 152 9,ad 153 151 152,m 18 153]
def L8:=[m 154 0,m 155 16,m 156 18,o 157 (.conv .u32 156),ia 158 1 154 155,so 1 158 157]
def PB:=[m 159 18,bi 160 .shr 159 (.c (.int .u64 (32))),m 9 160]
def PC:=[ad 161 139 k1,m 139 161]
def vz:=[m 162 0,m 163 5,ia 164 1 162 163,uu 165 1 164,m 166 9,o 167 (.conv .u32 166),ad 168 165 167,
 ia 169 1 162 163,so 1 169 168]
def wq:=[m 170 7,sb 171 170 (.c (.int .u64 (1))),o 172 (.conv .u32 171),m 4 172]
def l1:=(s (s (e r4 [50,51,52,53,54,55,56,57,58,59,60,61,62,63,64,65,66,67,68,69,70,83]) (i 71 .skip (x 0))) (b 1 (s (d r5 [71,72,73]) (s (d r6 (ra 74 8)) (s (d r7 [82]) (i 83 (x 0) .skip))))))
def l2:=(s (p B2) (s (i 87 .skip (x 2)) (s (b 3 (s (d B7 (ra 87 4)) (s (d q9 (rl [9,12] 91 6)) (s (d CG [97,98]) (s (d y7 (rl [10,13] 99 11)) (s (d ak (rl [11] 110 5)) (d br [14,115,116]))))))) (d D7 [117]))))
def l3:=(s (p JB) (s (i 140 .skip (x 4)) (s (b 5 (s (d JC (ra 140 4)) (s (d L7 (rl [9,17] 144 10)) (s (d L8 (rl [16] 154 5)) (d PB [18,159,160]))))) (d PC [161]))))
def c:=(s (d r0 [4]) (s (d r1 [19,20]) (s (e r2 (ra 21 13)) (s (e r3 (rl [6] 34 16)) (s (b 0 (w l1)) (s (d r8 [8,71,83]) (s (s (p r9) (b 2 (w l2))) (s (d bu (rl [9,10,84,85,86,87] 118 9)) (s (d dj (ra 127 5)) (s (s (d gn [15,132,133]) (i 134 (s (d kn [0,1,5,7,134,135,136]) .ret) .skip)) (s (d mo [134]) (s (s (d rb [1]) (b 4 (w l3))) (s (d vz (rl [0,5,9,137,138,139,140] 162 8)) (s (d wq [7,170,171,172]) .ret))))))))))))))
end FM
def FM:AFn:=⟨2,FM.c,[.tmp 4],false⟩
namespace LT
def r0:=[mv 4 (.c .nil),mv 5 (.c .nil)]
def r1:=[m 15 0,m 16 1,ca 17 67 [15,16],ls 18 17 k0]
def r2:=[m 19 0,ca 20 62 [19],mv 4 (.c .nil),m 5 20]
def r3:=[m 21 1,ln 22 21,m 6 22]
def r4:=[m 23 0,ln 24 23,m 25 6,sb 26 24 25,ad 27 26 k1,o 28 (.mk 28 1 4 [(.int .u32 (0))] 27 27),m 7 28]
def r5:=[m 29 6,bi 30 .eql 29 k1]
def r6:=[mv 8 (.c (.int .u64 (0)))]
def r7:=[m 31 0,ln 32 31,sb 33 32 k1,m 9 33]
def r8:=[m 34 9,bi 35 .geq 34 k0]
def B2:=[m 38 8,bi 39 .shl 38 (.c (.int .u64 (32))),m 40 0,m 41 9,ia 42 1 40 41,uu 43 1 42,cu 44 43,
 bi 45 .or 39 44,m 10 45]
def B7:=[m 46 7,m 47 9,m 48 10,m 49 1,ia 50 1 49 k0,uu 51 1 50,cu 52 51,bi 53 .quo 48 52,o 54 (.conv .u32 53),
 ia 55 1 46 47,so 1 55 54]
def q9:=[m 56 10,m 57 1,ia 58 1 57 k0,uu 59 1 58,cu 60 59,bi 61 .rem 56 60,m 8 61]
def r9:=[m 36 9,sb 37 36 k1,m 9 37]
def CG:=[m 62 7,o 63 (.c9 65 [62]),m 64 8,o 65 (.conv .u32 64),o 66 (.b9 66 1 [65]),o 67 (.c9 65 [66]),m 4 63,m 5 67]
def y7:=[m 68 1,m 69 6,sb 70 69 k1,ia 71 1 68 70,uu 72 1 71,ca 73 64 [72],cu 74 73,m 11 74]
def ak:=[m 75 0,m 76 11,m 77 0,ln 78 77,ad 79 78 k1,o 80 (.c9 71 [75,76,79]),m 81 1,m 82 11,m 83 6,ca 84 71 [81,82,83],
 m 12 80,m 13 84]
def br:=[m 85 0,ln 86 85,m 87 6,sb 88 86 87,m 14 88]
def D7:=[m 89 14,bi 90 .geq 89 k0]
def dj:=[m 93 7,m 94 14,m 95 12,m 96 14,m 97 14,m 98 6,ad 99 97 98,ad 100 99 k1,o 101 (.fk 1 95 (some 96) (some 100)),m 102 13,
 o 103 (.c9 73 [101,102]),ia 104 1 93 94,so 1 104 103]
def bu:=[m 91 14,sb 92 91 k1,m 14 92]
def gn:=[m 105 7,o 106 (.c9 65 [105]),m 107 12,m 108 6,o 109 (.fk 1 107 none (some 108)),m 110 11,ca 111 72 [109,110],o 112 (.c9 65 [111]),
 m 4 106,m 5 112]
def l1:=(s (s (d r8 [34]) (i 35 .skip (x 0))) (s (b 1 (s (d B2 (rl [8,35] 38 8)) (s (d B7 (ra 46 10)) (d q9 (rl [10] 56 6))))) (d r9 [36,37])))
def l2:=(s (s (d D7 [89]) (i 90 .skip (x 2))) (s (b 3 (d dj (rl [90] 93 12))) (d bu [91,92])))
def c:=(s (d r0 [4,5]) (s (s (d r1 [15,16,17]) (i 18 (s (d r2 [0,1,18,19,20]) .ret) .skip)) (s (d r3 [18,21,22]) (s (d r4 (ra 23 6)) (s (s (d r5 [29]) (i 30 (s (d r6 [6,30]) (s (s (d r7 [31,32,33]) (b 0 (w l1))) (s (d CG (rl [0,1,7,8,9,35] 62 6)) .ret))) .skip)) (s (d y7 (rl [30] 68 7)) (s (d ak (rl [1] 75 10)) (s (s (d br (rl [0] 85 4)) (b 2 (w l2))) (s (e gn (rl [6,7,11,12,13,14,90] 105 8)) .ret)))))))))
end LT
def LT:AFn:=⟨2,LT.c,[.tmp 4,.tmp 5],false⟩
namespace LM
def r0:=[mv 4 (.c .nil),mv 5 (.c .nil),mv 6 k0]
def r1:=[m 10 1,o 11 (.c9 65 [10]),m 7 11]
def r2:=[m 12 7,ln 13 12,bi 14 .eql 13 k0]
def r3:=[mv 4 (.c .nil),mv 5 (.c .nil),mv 6 (k 3)]
def r4:=[m 16 0,o 17 (.c9 65 [16]),m 18 7,ca 19 74 [17,18],m 15 19,et 20 15 0,et 21 15 1,m 8 20,m 9 21]
def r5:=[m 22 8,m 23 9,m 4 22,m 5 23,mv 6 k0]
def c:=(s (d r0 [4,5,6]) (s (d r1 [1,10,11]) (s (s (d r2 [12,13]) (i 14 (s (d r3 [0,7,14]) .ret) .skip)) (s (d r4 (rl [0,7] 14 8)) (s (d r5 [8,9,22,23]) .ret)))))
end LM
def LM:AFn:=⟨2,LM.c,[.tmp 4,.tmp 5,.tmp 6],false⟩
namespace LX
def r0:=[mv 2 (.c (.int .u64 (0)))]
def r1:=[mv 3 (.c (.int .u64 (0)))]
def r2:=[m 6 0,ln 7 6,mv 8 k0]
def r3:=[ls 9 8 7]
def r4:=[m 10 8,ia 11 1 6 8,uu 12 1 11,m 4 10,m 5 12]
def r5:=[m 13 3,m 14 5,cu 15 14,m 16 4,bi 17 .mul (k 32) 16,bi 18 .shl 15 17,bi 19 .or 13 18,m 3 19]
def r6:=[ad 20 8 k1,m 8 20]
def r7:=[m 21 3,m 2 21]
def l1:=(s (p r3) (s (i 9 .skip (x 0)) (s (b 1 (s (d r4 (ra 9 4)) (d r5 (rl [4,5] 13 7)))) (d r6 [20]))))
def c:=(s (d r0 [2]) (s (p r1) (s (s (d r2 [0]) (b 0 (w l1))) (s (d r7 [3,6,7,8,9,21]) .ret))))
end LX
def LX:AFn:=⟨1,LX.c,[.tmp 2],false⟩
namespace HW
def r0:=[mv 3 (.c (.int .u64 (0)))]
def r1:=[m 4 0,uu 5 1 1,ln 6 5,ls 7 4 6]
def r2:=[uu 8 1 1,m 9 0,ia 10 1 8 9,uu 11 1 10,cu 12 11,m 3 12]
def r3:=[mv 3 (.c (.int .u64 (0)))]
def c:=(s (d r0 [3]) (s (s (d r1 [4,5,6]) (i 7 (s (d r2 (rl [0,1] 7 6)) .ret) .skip)) (s (d r3 [0,1,7]) .ret)))
end HW
def HW:AFn:=⟨2,HW.c,[.tmp 3],false⟩
namespace LU
def r0:=[bx 3 0,mv 6 k0]
def r1:=[o 9 (.pz false 77 [3]),m 7 9]
def r2:=[m 10 7,m 11 1,sb 12 11 k1,o 13 (.m4 10 [12]),bi 14 .shl 13 (.c (.int .u64 (32))),m 15 7,m 16 1,sb 17 16 (k 2),
 o 18 (.m4 15 [17]),bi 19 .or 14 18,m 20 2,bi 21 .shl 19 20,m 8 21]
def r3:=[m 22 8,m 23 7,m 24 1,sb 25 24 (k 3),o 26 (.m4 23 [25]),m 27 2,bi 28 .shl 26 27,bi 29 .shr 28 (.c (.int .u64 (32))),
 bi 30 .or 22 29,m 8 30]
def r4:=[m 31 8,bi 32 .shr 31 (.c (.int .u64 (2))),o 33 (.conv .i64 32),m 6 33]
def c:=(s (d r0 [0,6]) (s (d r1 [3,9]) (s (d r2 (ra 10 12)) (s (d r3 (rl [1,2,7] 22 9)) (s (d r4 [8,31,32,33]) .ret)))))
end LU
def LU:AFn:=⟨3,LU.c,[.tmp 6],false⟩
namespace LQ
def r0:=[mv 4 k0,mv 5 k0,mv 6 k0,mv 7 k0]
def r1:=[mv 4 k1,mv 7 k1]
def r2:=[m 11 1,m 12 6,ad 13 11 12,bi 14 .neq 13 k0,m 15 14,g 16 15 true (.n0 1),g 17 15 true (.n0 7),g 18 15 true (.bin .add 16 17),
 g 19 15 true (.bin .neq 18 k0),pk 20 15 19 kf]
def r3:=[m 21 0,m 22 4,ad 23 21 22,m 24 1,m 25 6,ad 26 24 25,bi 27 .quo 23 26,m 8 27]
def r4:=[m 28 8,m 29 0,m 30 5,ad 31 29 30,m 32 1,m 33 7,ad 34 32 33,bi 35 .quo 31 34,bi 36 .neq 28 35,m 37 36,
 g 38 37 false (.n0 8),g 39 37 false (.bin .gtr 38 (k 2147483647)),pk 40 37 kt 39]
def r5:=[m 41 4,m 42 8,m 43 6,bi 44 .mul 42 43,sb 45 41 44,m 46 5,m 47 8,m 48 7,bi 49 .mul 47 48,sb 50 46 49,m 9 45,m 10 50]
def r6:=[m 51 9,m 52 9,o 53 (.un .neg 52),m 54 10,m 55 10,o 56 (.un .neg 55),o 57 (.mm true [51,53,54,56]),bi 58 .gtr 57 (k 2147483647)]
def r7:=[m 59 6,m 60 7,m 61 9,m 62 10,m 4 59,m 5 60,m 6 61,m 7 62]
def r8:=[m 63 1,m 64 0,m 65 8,m 66 1,bi 67 .mul 65 66,sb 68 64 67,m 0 63,m 1 68]
def r9:=[m 69 4,m 70 5,m 71 6,m 72 7,m 4 69,m 5 70,m 6 71,m 7 72]
def l1:=(s (s (d r2 (ra 11 9)) (i 20 .skip (x 0))) (b 1 (s (d r3 (ra 20 8)) (s (s (d r4 (ra 28 12)) (i 40 (x 0) .skip)) (s (d r5 (ra 40 11)) (s (s (d r6 (ra 51 7)) (i 58 (x 0) .skip)) (s (d r7 (rl [9,10] 58 5)) (d r8 (rl [8] 63 6)))))))))
def c:=(s (d r0 [4,7]) (s (p r1) (s (b 0 (w l1)) (s (d r9 (rl [0,1,8,9,10,20,40,58] 69 4)) .ret))))
end LQ
def LQ:AFn:=⟨2,LQ.c,[.tmp 4,.tmp 5,.tmp 6,.tmp 7],false⟩
namespace LR
def r0:=[mv 8 (.c .nil)]
def r1:=[m 14 0,ln 15 14,o 16 (.mk 16 1 4 [(.int .u32 (0))] 15 15),m 9 16]
def r2:=[mv 10 k0]
def r3:=[m 17 0,ln 18 17,mv 19 k0]
def r4:=[ls 20 19 18]
def r5:=[m 21 19,ia 22 1 17 19,uu 23 1 22,m 11 21,m 12 23]
def r6:=[m 24 2,m 25 12,o 26 (.conv .i64 25),bi 27 .mul 24 26,m 28 10,ad 29 27 28,m 13 29]
def r7:=[m 30 11,m 31 1,ln 32 31,ls 33 30 32]
def r8:=[m 34 13,m 35 3,m 36 1,m 37 11,ia 38 1 36 37,uu 39 1 38,o 40 (.conv .i64 39),bi 41 .mul 35 40,ad 42 34 41,
 m 13 42]
def r9:=[m 43 9,m 44 11,m 45 13,o 46 (.conv .u32 45),ia 47 1 43 44,so 1 47 46]
def B2:=[m 48 13,bi 49 .shr 48 (.c (.int .u64 (32))),m 10 49]
def B7:=[ad 50 19 k1,m 19 50]
def q9:=[m 51 9,o 52 (.c9 65 [51]),m 8 52]
def l1:=(s (p r4) (s (i 20 .skip (x 0)) (s (b 1 (s (d r5 (ra 20 4)) (s (d r6 (rl [10,12] 24 6)) (s (s (d r7 [30,31,32]) (i 33 (d r8 (ra 33 10)) .skip)) (s (d r9 (rl [11,33] 43 5)) (d B2 [13,48,49])))))) (d B7 [50]))))
def c:=(s (d r0 [8]) (s (d r1 [14,15,16]) (s (p r2) (s (s (d r3 [0]) (b 0 (w l1))) (s (d q9 [1,2,3,9,10,17,18,19,20,51,52]) .ret)))))
end LR
def LR:AFn:=⟨4,LR.c,[.tmp 8],false⟩
namespace LW
def r0:=[mv 4 (.c .nil),mv 5 (.c .nil)]
def r1:=[m 14 0,ln 15 14,m 6 15]
def r2:=[m 16 0,m 17 6,sb 18 17 k1,ia 19 1 16 18,uu 20 1 19,ca 21 64 [20],cu 22 21,m 7 22]
def r3:=[m 24 0,m 25 6,m 26 7,ca 27 78 [24,25,26],m 28 1,m 29 6,m 30 7,ca 31 78 [28,29,30],ca 32 79 [27,31],m 23 32,et 33 23 0,
 et 34 23 1,et 35 23 2,et 36 23 3,m 8 33,m 9 34,m 10 35,m 11 36]
def r4:=[m 37 9,bi 38 .eql 37 k0]
def r5:=[m 40 0,m 41 1,ca 42 74 [40,41],m 39 42,et 43 39 0,et 44 39 1,m 12 43,m 13 44]
def r6:=[m 45 1,m 46 13,m 4 45,m 5 46]
def r7:=[m 47 0,m 48 1,m 49 8,m 50 9,ca 51 80 [47,48,49,50],m 52 0,m 53 1,m 54 10,m 55 11,ca 56 80 [52,53,54,55],m 4 51,m 5 56]
def c:=(s (d r0 [4,5]) (s (d r1 [14,15]) (s (d r2 (ra 16 7)) (s (d r3 (rl [6,7] 23 14)) (s (s (d r4 [37]) (i 38 (s (d r5 (rl [0,8,9,10,11,12] 38 7)) (s (d r6 [1,13,45,46]) .ret)) .skip)) (s (d r7 (rl [0,1,8,9,10,11,38] 47 10)) .ret))))))
end LW
def LW:AFn:=⟨2,LW.c,[.tmp 4,.tmp 5],false⟩
namespace GG
def r0:=[mv 4 (.c .nil)]
def r1:=[m 11 0,ca 12 66 [11],m 13 1,ca 14 66 [13],m 5 12,m 6 14]
def r2:=[m 15 5,m 16 6,ca 17 67 [15,16],ls 18 17 k0]
def r3:=[m 19 6,m 20 5,m 5 19,m 6 20]
def r4:=[m 21 6,ln 22 21,bi 23 .gtr 22 (k 2)]
def r5:=[m 25 5,m 26 6,ca 27 81 [25,26],m 24 27,et 28 24 0,et 29 24 1,m 5 28,m 6 29]
def r6:=[m 30 6,ln 31 30,bi 32 .eql 31 k0]
def r7:=[m 33 5,m 4 33]
def r8:=[m 35 5,m 36 6,ca 37 74 [35,36],m 34 37,et 38 34 0,et 39 34 1,m 7 38,m 8 39]
def r9:=[m 40 6,ca 41 76 [40],m 42 8,ca 43 76 [42],m 9 41,m 10 43]
def B2:=[m 44 10,bi 45 .neq 44 (.c (.int .u64 (0)))]
def B7:=[m 46 10,m 47 9,m 48 10,bi 49 .rem 47 48,m 9 46,m 10 49]
def q9:=[m 50 9,o 51 (.conv .u32 50),m 52 9,bi 53 .shr 52 (.c (.int .u64 (32))),o 54 (.conv .u32 53),o 55 (.b9 55 1 [51,54]),o 56 (.c9 65 [55]),
 m 4 56]
def l1:=(s (s (d r4 [18,21,22]) (i 23 .skip (x 0))) (b 1 (d r5 (ra 23 7))))
def l2:=(s (s (d B2 [44]) (i 45 .skip (x 2))) (b 3 (e B7 (ra 45 5))))
def c:=(s (d r0 [4]) (s (d r1 (rl [0,1] 11 4)) (s (s (d r2 [15,16,17]) (i 18 (d r3 [18,19,20]) .skip)) (s (b 0 (w l1)) (s (s (d r6 [23,30,31]) (i 32 (s (d r7 [5,6,32,33]) .ret) .skip)) (s (d r8 (rl [5,7,32] 34 6)) (s (d r9 (rl [6,8] 40 4)) (s (b 2 (w l2)) (s (d q9 (rl [9,10,45] 50 7)) .ret)))))))))
end GG
def GG:AFn:=⟨2,GG.c,[.tmp 4],false⟩
structure c6 (L:Lib):Prop where
 KL:L 58=some F.KL
 KM:L 59=some F.KM
 KH:L 60=some F.KH
 KJ:L 61=some F.KJ
 HA:L 62=some F.HA
 LI:L 63=some F.LI
 LH:L 64=some F.LH
 FF:L 65=some F.FF
 LP:L 66=some F.LP
 LL:L 67=some F.LL
 LK:L 68=some F.LK
 LO:L 69=some F.LO
 LN:L 70=some F.LN
 I8:L 71=some F.I8
 LV:L 72=some F.LV
 FM:L 73=some F.FM
 LT:L 74=some F.LT
 LM:L 75=some F.LM
 LX:L 76=some F.LX
 HW:L 77=some F.HW
 LU:L 78=some F.LU
 LQ:L 79=some F.LQ
 LR:L 80=some F.LR
 LW:L 81=some F.LW
 GG:L 82=some F.GG
end Go.b8.F

namespace Go.b8.F
open C
namespace DB
def r0:=[o 4 (.alloc 83004 [(.bool false),.nil])]
def r1:=[m 5 0,m 6 5,g 7 6 true (.n0 1),g 8 6 true (.len 7),g 9 6 true (.bin .gtr 8 k0),pk 10 6 9 kf,m 11 1,
 o 12 (.build [(.bool false),.nil] [(0,1,10),(1,1,11)]),so 2 4 12]
def c:=(s (p r0) (s (d r1 (rl [0,1] 5 8)) .ret))
end DB
def DB:AFn:=⟨2,DB.c,[.cell 4 true 2],false⟩
namespace K1
def r0:=[bx 1 0,al 2 [(.bool false),.nil]]
def r1:=[fa 3 1 0,uu 4 1 3,fa 5 1 1,uu 6 1 5,ca 7 66 [6],o 8 (.c9 83 [4,7]),so 2 2 8]
def c:=(s (d r0 [0]) (s (e r1 (rl [1] 3 6)) .ret))
end K1
def K1:AFn:=⟨1,K1.c,[.cell 2 true 2],false⟩
namespace KY
def r0:=[al 2 [(.bool false),.nil]]
def r1:=[m 4 0,cu 5 4,m 3 5]
def r2:=[m 6 0,ls 7 6 k0]
def r3:=[m 8 3,o 9 (.un .neg 8),m 3 9]
def r4:=[m 10 0,ls 11 10 k0,m 12 3,o 13 (.conv .u32 12),m 14 3,bi 15 .shr 14 (.c (.int .u64 (32))),o 16 (.conv .u32 15),
 o 17 (.b9 17 1 [13,16]),ca 18 66 [17],o 19 (.c9 83 [11,18]),so 2 2 19]
def c:=(s (p r0) (s (d r1 [4,5]) (s (s (d r2 [6]) (i 7 (d r3 [7,8,9]) .skip)) (s (d r4 (rl [0,3,7] 10 10)) .ret))))
end KY
def KY:AFn:=⟨1,KY.c,[.cell 2 true 2],false⟩
namespace KZ
def r0:=[bx 1 0,mv 2 k0]
def r1:=[fa 4 1 1,uu 5 1 4,ca 6 67 [5,(.c .nil)],bi 7 .eql 6 k0,m 3 7]
def r2:=[mv 2 k0]
def r3:=[fa 9 1 0,uu 10 1 9,m 8 10]
def r4:=[mv 2 (k (-1))]
def r5:=[mv 2 k1]
def c:=(s (d r0 [0,2]) (s (b 0 (s (d r1 (ra 4 4)) (i 3 (s (d r2 [1,3]) .ret) (s (d r3 [1,3,9,10]) (i 8 (s (d r4 [8]) .ret) .skip))))) (s (d r5 [8]) .ret)))
end KZ
def KZ:AFn:=⟨1,KZ.c,[.tmp 2],false⟩
namespace KU
def r0:=[bx 2 0,bx 3 1,al 4 [(.bool false),.nil]]
def r1:=[fa 5 2 0,uu 6 1 5,fa 7 3 0,uu 8 1 7,o 9 (.beq false 6 8)]
def r2:=[fa 10 2 0,uu 11 1 10,fa 12 2 1,uu 13 1 12,fa 14 3 1,uu 15 1 14,ca 16 68 [13,15],
 o 17 (.c9 83 [11,16]),so 2 4 17]
def r3:=[fa 18 2 1,uu 19 1 18,fa 20 3 1,uu 21 1 20,ca 22 67 [19,21],bi 23 .eql 22 (k (-1))]
def r4:=[fa 24 3 0,uu 25 1 24,fa 26 3 1,uu 27 1 26,fa 28 2 1,uu 29 1 28,ca 30 69 [27,29],
 o 31 (.c9 83 [25,30]),so 2 4 31]
def r5:=[fa 32 2 0,uu 33 1 32,fa 34 2 1,uu 35 1 34,fa 36 3 1,uu 37 1 36,ca 38 69 [35,37],
 o 39 (.c9 83 [33,38]),so 2 4 39]
def c:=(s (d r0 [0,1]) (s (s (d r1 (ra 5 4)) (i 9 (s (e r2 (rl [2,3] 9 9)) .ret) .skip)) (s (s (d r3 (rl [9] 18 5)) (i 23 (s (e r4 (rl [2,3] 23 9)) .ret) .skip)) (s (e r5 (rl [2,3,23] 32 8)) .ret))))
end KU
def KU:AFn:=⟨2,KU.c,[.cell 4 true 2],false⟩
namespace KX
def r0:=[bx 2 0,bx 3 1,al 4 [(.bool false),.nil]]
def r1:=[fa 5 2 0,uu 6 1 5,fa 7 3 0,uu 8 1 7,o 9 (.beq true 6 8),fa 10 2 1,uu 11 1 10,fa 12 3 1,
 uu 13 1 12,ca 14 70 [11,13],o 15 (.c9 83 [9,14]),so 2 4 15]
def c:=(s (d r0 [0,1]) (s (e r1 (rl [2,3] 5 11)) .ret))
end KX
def KX:AFn:=⟨2,KX.c,[.cell 4 true 2],false⟩
namespace H1
def r0:=[bx 1 0,al 2 [(.bool false),.nil,.nil,(.bool false)]]
def r1:=[fa 3 1 2,uu 4 1 3,ln 5 4,bi 6 .eql 5 k1,m 7 6,g 8 7 true (.u6 1 2),g 9 7 true (.ld false 1 8),
 g 10 7 true (.q7 none 1 9 k0),g 11 7 true (.ld false 1 10),g 12 7 true (.bin .eql 11 (.c (.int .u32 (1)))),pk 13 7 12 kf]
def r2:=[fa 14 1 0,tt 15 2 14,fa 16 1 2,uu 17 1 16,o 18 (.build z3 [(0,2,15),(2,1,17)]),
 o 19 (.build [(.bool false),.nil,.nil,(.bool false)] [(0,3,18),(3,1,kt)]),so 4 2 19]
def r3:=[fa 20 1 2,uu 21 1 20,ca 22 67 [21,(.c .nil)],bi 23 .eql 22 k0]
def r4:=[o 24 (.build [(.bool false),.nil] []),o 25 (.b9 25 1 [(.c (.int .u32 (1)))]),o 26 (.build z3 [(0,2,24),(2,1,25)]),
 o 27 (.build [(.bool false),.nil,.nil,(.bool false)] [(0,3,26),(3,1,kt)]),so 4 2 27]
def r5:=[fa 28 1 0,tt 29 2 28,fa 30 1 2,uu 31 1 30,o 32 (.build z3 [(0,2,29),(2,1,31)]),
 o 33 (.build [(.bool false),.nil,.nil,(.bool false)] [(0,3,32),(3,1,kf)]),so 4 2 33]
def c:=(s (d r0 [0]) (s (s (d r1 (ra 3 10)) (i 13 (s (d r2 (rl [1] 13 7)) .ret) .skip)) (s (s (d r3 [13,20,21,22]) (i 23 (s (d r4 (rl [1] 23 5)) .ret) .skip)) (s (d r5 (rl [1,23] 28 6)) .ret))))
end H1
def H1:AFn:=⟨1,H1.c,[.cell 2 true 4],false⟩
namespace MD
def r0:=[mv 2 kf]
def r1:=[m 3 0,ln 4 3,bi 5 .eql 4 k1,m 6 5,g 7 6 true (.n0 0),g 8 6 true (.q7 none 1 7 k0),g 9 6 true (.ld false 1 8),
 g 10 6 true (.bin .eql 9 (.c (.int .u32 (1)))),pk 11 6 10 kf,m 2 11]
def c:=(s (d r0 [2]) (s (d r1 (rl [0] 3 9)) .ret))
end MD
def MD:AFn:=⟨1,MD.c,[.tmp 2],false⟩
namespace ME
def r0:=[al 2 [(.bool false),.nil]]
def r1:=[m 3 0,o 4 (.build [(.bool false),.nil] [(1,1,3)]),so 2 2 4]
def c:=(s (p r0) (s (d r1 [0,3,4]) .ret))
end ME
def ME:AFn:=⟨1,ME.c,[.cell 2 true 2],false⟩
namespace G6
def r0:=[o 1 (.box 92001 0),o 2 (.alloc 92002 z3)]
def r1:=[tt 3 2 1,o 4 (.b9 92004 1 [(.c (.int .u32 (1)))]),o 5 (.build z3 [(0,2,3),(2,1,4)]),so 3 2 5]
def c:=(s (d r0 [0]) (s (d r1 [1,3,4,5]) .ret))
end G6
def G6:AFn:=⟨1,G6.c,[.cell 2 true 3],false⟩
namespace MG
def r0:=[o 2 (.box 93002 0),o 3 (.box 93003 1),o 4 (.alloc 93004 z3)]
def r1:=[fa 5 2 0,uu 6 1 5,fa 7 3 0,uu 8 1 7,o 9 (.beq true 6 8),fa 10 2 1,uu 11 1 10,
 o 12 (.build [(.bool false),.nil] [(0,1,9),(1,1,11)]),fa 13 3 1,uu 14 1 13,
 o 15 (.build z3 [(0,2,12),(2,1,14)]),so 3 4 15]
def c:=(s (d r0 [0,1]) (s (d r1 (rl [2,3] 5 11)) .ret))
end MG
def MG:AFn:=⟨2,MG.c,[.cell 4 true 3],false⟩
namespace MF
def r0:=[bx 1 0,al 2 z3]
def r1:=[fa 14 1 0,fa 15 14 1,uu 16 1 15,fa 17 1 2,uu 18 1 17,ca 19 75 [16,18],m 13 19,et 20 13 0,
 et 21 13 1,et 22 13 2,m 3 20,m 4 21,m 5 22]
def r2:=[m 23 4,ln 24 23,bi 25 .eql 24 k0]
def r3:=[fa 26 1 0,fa 27 26 0,uu 28 1 27,m 29 3,o 30 (.build [(.bool false),.nil] [(0,1,28),(1,1,29)]),ca 31 84 [30],
 o 32 (.c9 92 [31]),so 3 2 32]
def r4:=[fa 33 1 2,uu 34 1 33,m 35 4,ca 36 82 [34,35],m 6 36]
def r5:=[m 37 6,ca 38 90 [37]]
def r6:=[fa 39 1 0,tt 40 2 39,ca 41 84 [40],fa 42 1 2,uu 43 1 42,ca 44 66 [43],
 o 45 (.build z3 [(0,2,41),(2,1,44)]),so 3 2 45]
def r7:=[fa 47 1 0,fa 48 47 1,uu 49 1 48,m 50 6,ca 51 75 [49,50],m 46 51,et 52 46 0,et 53 46 1,et 54 46 2,
 m 7 52,m 8 53,m 9 54]
def r8:=[fa 56 1 2,uu 57 1 56,m 58 6,ca 59 75 [57,58],m 55 59,et 60 55 0,et 61 55 1,et 62 55 2,m 10 60,m 11 61,
 m 12 62]
def r9:=[fa 63 1 0,fa 64 63 0,uu 65 1 64,m 66 7,o 67 (.build [(.bool false),.nil] [(0,1,65),(1,1,66)]),m 68 10,
 o 69 (.build z3 [(0,2,67),(2,1,68)]),so 3 2 69]
def c:=(s (d r0 [0]) (s (d r1 (rl [5] 13 10)) (s (s (d r2 [23,24]) (i 25 (s (d r3 (rl [1,3,4] 25 8)) .ret) .skip)) (s (d r4 (rl [3,4,25] 33 4)) (s (s (d r5 [37]) (i 38 (s (e r6 (rl [1,6] 38 8)) .ret) .skip)) (s (d r7 (rl [8,9,38] 46 9)) (s (d r8 (rl [6,11,12] 55 8)) (s (d r9 (rl [1,7,10] 63 7)) .ret))))))))
end MF
def MF:AFn:=⟨1,MF.c,[.cell 2 true 3],false⟩
namespace MB
def r0:=[bx 1 0,al 2 z3]
def r1:=[tt 3 3 1,o 4 (.j5 89 [3]),o 5 (.oz 4 0 3 true),ca 6 94 [5],so 3 2 6]
def c:=(s (d r0 [0]) (s (d r1 [1,3,4,5,6]) .ret))
end MB
def MB:AFn:=⟨1,MB.c,[.cell 2 true 3],false⟩
namespace L9
def r0:=[al 2 z3]
def r1:=[m 3 0,ca 4 85 [3],o 5 (.c9 92 [4]),so 3 2 5]
def c:=(s (p r0) (s (d r1 [0,3,4,5]) .ret))
end L9
def L9:AFn:=⟨1,L9.c,[.cell 2 true 3],false⟩
namespace MA
def r0:=[bx 1 0,mv 2 k0]
def r1:=[tt 3 3 1,o 4 (.j5 89 [3]),o 5 (.oz 4 0 3 true),o 6 (.oz 5 0 2 true),ca 7 86 [6],m 2 7]
def c:=(s (d r0 [0,2]) (s (d r1 (rl [1] 3 5)) .ret))
end MA
def MA:AFn:=⟨1,MA.c,[.tmp 2],false⟩
namespace H0
def r0:=[bx 2 0,bx 3 1,al 4 z3]
def r1:=[q 8 [5,6] (.ld true 3 2),q 9 [5,6] (.j5 89 [8]),q 10 [5,6] (.ld true 3 3),q 11 [5,6] (.j5 89 [10]),
 al 5 [(.bool false),.nil,.nil,(.bool false)],al 6 [(.bool false),.nil,.nil,(.bool false)],so 4 5 9,so 4 6 11]
def r2:=[fa 12 5 3,uu 13 1 12,m 14 13,g 15 14 true (.u6 6 3),g 16 14 true (.ld false 1 15),pk 17 14 16 kf]
def r3:=[fa 18 5 0,fa 19 18 0,tt 20 2 19,fa 21 6 0,fa 22 21 0,tt 23 2 22,ca 24 87 [20,23],
 o 25 (.c9 92 [24]),so 3 4 25]
def r4:=[fa 26 5 0,fa 27 26 2,uu 28 1 27,fa 29 6 0,fa 30 29 2,uu 31 1 30,ca 32 67 [28,31],
 bi 33 .eql 32 k0]
def r5:=[fa 34 5 0,fa 35 34 0,tt 36 2 35,fa 37 6 0,fa 38 37 0,tt 39 2 38,ca 40 87 [36,39],
 fa 41 5 0,fa 42 41 2,uu 43 1 42,o 44 (.build z3 [(0,2,40),(2,1,43)]),ca 45 94 [44],
 so 3 4 45]
def r6:=[fa 46 5 0,fa 47 46 0,q 48 [7] (.ld true 2 47),fa 49 6 0,fa 50 49 2,q 51 [7] (.ld false 1 50),
 q 52 [7] (.j5 91 [51]),q 53 [7] (.call 88 [48,52]),fa 54 6 0,fa 55 54 0,q 56 [7] (.ld true 2 55),
 fa 57 5 0,fa 58 57 2,q 59 [7] (.ld false 1 58),q 60 [7] (.j5 91 [59]),q 61 [7] (.call 88 [56,60]),
 q 62 [7] (.call 87 [53,61]),al 7 [(.bool false),.nil],so 2 7 62]
def r7:=[tt 63 2 7,fa 64 5 0,fa 65 64 2,uu 66 1 65,fa 67 6 0,fa 68 67 2,uu 69 1 68,
 ca 70 70 [66,69],o 71 (.build z3 [(0,2,63),(2,1,70)]),ca 72 94 [71],so 3 4 72]
def c:=(s (d r0 [0,1]) (s (e r1 (rl [2,3] 8 4)) (s (s (d r2 (ra 12 5)) (i 17 (s (d r3 (rl [5,6] 17 9)) .ret) .skip)) (s (s (d r4 (rl [17] 26 7)) (i 33 (s (e r5 (rl [5,6] 33 13)) .ret) .skip)) (s (e r6 (rl [33] 46 17)) (s (e r7 (rl [5,6,7] 63 10)) .ret))))))
end H0
def H0:AFn:=⟨2,H0.c,[.cell 4 true 3],false⟩
namespace JG
def r0:=[bx 2 0,bx 3 1,al 4 z3]
def r1:=[q 8 [5,6] (.ld true 3 2),q 9 [5,6] (.j5 89 [8]),q 10 [5,6] (.ld true 3 3),q 11 [5,6] (.j5 89 [10]),
 al 5 [(.bool false),.nil,.nil,(.bool false)],al 6 [(.bool false),.nil,.nil,(.bool false)],so 4 5 9,so 4 6 11]
def r2:=[fa 12 5 0,fa 13 12 0,tt 14 2 13,fa 15 6 0,fa 16 15 0,tt 17 2 16,ca 18 88 [14,17],
 al 7 [(.bool false),.nil],so 2 7 18]
def r3:=[fa 19 5 3,uu 20 1 19,m 21 20,g 22 21 true (.u6 6 3),g 23 21 true (.ld false 1 22),pk 24 21 23 kf]
def r4:=[tt 25 2 7,o 26 (.c9 92 [25]),so 3 4 26]
def r5:=[tt 27 2 7,fa 28 5 0,fa 29 28 2,uu 30 1 29,fa 31 6 0,fa 32 31 2,uu 33 1 32,
 ca 34 70 [30,33],o 35 (.build z3 [(0,2,27),(2,1,34)]),ca 36 94 [35],so 3 4 36]
def c:=(s (d r0 [0,1]) (s (e r1 (rl [2,3] 8 4)) (s (d r2 (ra 12 7)) (s (s (d r3 (ra 19 5)) (i 24 (s (d r4 [5,6,7,24,25,26]) .ret) .skip)) (s (e r5 (rl [5,6,7,24] 27 10)) .ret)))))
end JG
def JG:AFn:=⟨2,JG.c,[.cell 4 true 3],false⟩
namespace JF
def r0:=[bx 2 0,bx 3 1,al 4 z3,mv 5 k0]
def r1:=[q 10 [6,7] (.ld true 3 2),q 11 [6,7] (.j5 89 [10]),q 12 [6,7] (.ld true 3 3),q 13 [6,7] (.j5 89 [12]),
 al 6 [(.bool false),.nil,.nil,(.bool false)],al 7 [(.bool false),.nil,.nil,(.bool false)],so 4 6 11,so 4 7 13]
def r2:=[fa 14 7 0,fa 15 14 0,tt 16 2 15,ca 17 86 [16],bi 18 .eql 17 k0]
def r3:=[o 19 (.build z3 []),so 3 4 19,mv 5 (k 3)]
def r4:=[fa 20 6 0,fa 21 20 0,q 22 [8] (.ld true 2 21),fa 23 7 0,fa 24 23 2,q 25 [8] (.ld false 1 24),
 q 26 [8] (.j5 91 [25]),q 27 [8] (.call 88 [22,26]),al 8 [(.bool false),.nil],so 2 8 27]
def r5:=[fa 28 6 0,fa 29 28 2,q 30 [9] (.ld false 1 29),q 31 [9] (.j5 91 [30]),fa 32 7 0,fa 33 32 0,
 q 34 [9] (.ld true 2 33),q 35 [9] (.call 88 [31,34]),al 9 [(.bool false),.nil],so 2 9 35]
def r6:=[tt 36 2 8,tt 37 2 9,o 38 (.c9 93 [36,37]),ca 39 94 [38],so 3 4 39,mv 5 k0]
def c:=(s (d r0 [0,1,5]) (s (e r1 (rl [2,3] 10 4)) (s (s (d r2 (ra 14 4)) (i 18 (s (d r3 [6,7,18,19]) .ret) .skip)) (s (e r4 (rl [18] 20 8)) (s (e r5 (rl [6,7] 28 8)) (s (d r6 (rl [8,9] 36 4)) .ret))))))
end JF
def JF:AFn:=⟨2,JF.c,[.cell 4 true 3,.tmp 5],false⟩
structure a4 (L:Lib):Prop extends c6 L where
 DB:L 83=some F.DB
 K1:L 84=some F.K1
 KY:L 85=some F.KY
 KZ:L 86=some F.KZ
 KU:L 87=some F.KU
 KX:L 88=some F.KX
 H1:L 89=some F.H1
 MD:L 90=some F.MD
 ME:L 91=some F.ME
 G6:L 92=some F.G6
 MG:L 93=some F.MG
 MF:L 94=some F.MF
 MB:L 95=some F.MB
 L9:L 96=some F.L9
 MA:L 97=some F.MA
 H0:L 98=some F.H0
 JG:L 99=some F.JG
 JF:L 100=some F.JF
end Go.b8.F

namespace Go.b8.F
open C
namespace MC
def r0:=[bx 1 0,al 2 z3]
def r1:=[fa 3 1 0,fa 4 3 0,uu 5 1 4,nt 6 5,fa 7 1 0,fa 8 7 1,uu 9 1 8,
 o 10 (.build [(.bool false),.nil] [(0,1,6),(1,1,9)]),fa 11 1 2,uu 12 1 11,
 o 13 (.build z3 [(0,2,10),(2,1,12)]),so 3 2 13]
def c:=(s (d r0 [0]) (s (d r1 (rl [1] 3 11)) .ret))
end MC
def MC:AFn:=⟨1,MC.c,[.cell 2 true 3],false⟩
namespace JH
def r0:=[bx 2 0,bx 3 1,al 4 z3]
def r1:=[tt 5 3 2,tt 6 3 3,o 7 (.j5 149 [6]),ca 8 98 [5,7],so 3 4 8]
def c:=(s (d r0 [0,1]) (s (e r1 [2,3,5,6,7,8]) .ret))
end JH
def JH:AFn:=⟨2,JH.c,[.cell 4 true 3],false⟩
structure w9 (L:Lib):Prop extends a4 L where
 MC:L 149=some F.MC
 JH:L 150=some F.JH
end Go.b8.F

namespace Go.b8.F
open C
namespace G7
def r0:=[mv 2 (.c .nil)]
def r1:=[m 4 0,ln 5 4,m 3 5]
def r2:=[m 6 3,bi 7 .gtr 6 k0,m 8 7,g 9 8 true (.n0 0),g 10 8 true (.n0 3),g 11 8 true (.bin .sub 10 k1),g 12 8 true (.q7 none 1 9 11),
 g 13 8 true (.ld false 1 12),g 14 8 true (.bin .eql 13 (.c (.int .u32 (0)))),pk 15 8 14 kf]
def r3:=[m 16 3,sb 17 16 k1,m 3 17]
def r4:=[m 18 0,m 19 3,o 20 (.fk 1 18 none (some 19)),o 21 (.app 101021 1 4 (.c .nil) 20),m 2 21]
def l1:=(s (s (d r2 (ra 6 9)) (i 15 .skip (x 0))) (b 1 (d r3 [15,16,17])))
def c:=(s (d r0 [2]) (s (d r1 [4,5]) (s (b 0 (w l1)) (s (d r4 (rl [0,3,15] 18 4)) .ret))))
end G7
def G7:AFn:=⟨1,G7.c,[.tmp 2],false⟩
namespace MJ
def r0:=[mv 4 k0]
def r1:=[m 6 0,ca 7 101 [6],m 8 1,ca 9 101 [8],m 0 7,m 1 9]
def r2:=[m 10 0,ln 11 10,m 12 1,ln 13 12,bi 14 .neq 11 13]
def r3:=[m 15 0,ln 16 15,m 17 1,ln 18 17,ls 19 16 18]
def r4:=[mv 4 (k (-1))]
def r5:=[mv 4 k1]
def r6:=[m 20 0,ln 21 20,sb 22 21 k1,m 5 22]
def r7:=[m 23 5,bi 24 .geq 23 k0]
def r9:=[m 27 0,m 28 5,ia 29 1 27 28,uu 30 1 29,m 31 1,m 32 5,ia 33 1 31 32,uu 34 1 33,ls 35 30 34]
def B2:=[mv 4 (k (-1))]
def B7:=[m 36 0,m 37 5,ia 38 1 36 37,uu 39 1 38,m 40 1,m 41 5,ia 42 1 40 41,uu 43 1 42,bi 44 .gtr 39 43]
def q9:=[mv 4 k1]
def r8:=[m 25 5,sb 26 25 k1,m 5 26]
def CG:=[mv 4 k0]
def l1:=(s (s (d r7 [23]) (i 24 .skip (x 0))) (s (b 1 (s (s (e r9 (rl [24] 27 8)) (i 35 (s (d B2 [0,1,5,35]) .ret) .skip)) (s (e B7 (ra 35 9)) (i 44 (s (d q9 [0,1,5,44]) .ret) .skip)))) (d r8 [25,26,44])))
def c:=(s (d r0 [4]) (s (d r1 (ra 6 4)) (s (s (d r2 (ra 10 4)) (i 14 (s (s (d r3 (rl [0,1] 14 5)) (i 19 (s (d r4 [19]) .ret) .skip)) (s (d r5 [19]) .ret)) .skip)) (s (s (d r6 [14,20,21,22]) (b 0 (w l1))) (s (d CG [0,1,5,24]) .ret)))))
end MJ
def MJ:AFn:=⟨2,MJ.c,[.tmp 4],false⟩
namespace MH
def r0:=[mv 4 (.c .nil)]
def r1:=[o 5 (.v9 5 1)]
def r2:=[mv 6 (.c (.int .u64 (0)))]
def r3:=[mv 7 k0]
def r4:=[m 8 7,m 9 0,ln 10 9,ls 11 8 10,m 12 11,g 13 12 false (.n0 7),g 14 12 false (.n0 1),g 15 12 false (.len 14),
 g 16 12 false (.bin .lss 13 15),pk 17 12 kt 16]
def r6:=[m 20 7,m 21 0,ln 22 21,ls 23 20 22]
def r7:=[m 24 6,m 25 0,m 26 7,ia 27 1 25 26,uu 28 1 27,cu 29 28,ad 30 24 29,m 6 30]
def r8:=[m 31 7,m 32 1,ln 33 32,ls 34 31 33]
def r9:=[m 35 6,m 36 1,m 37 7,ia 38 1 36 37,uu 39 1 38,cu 40 39,ad 41 35 40,m 6 41]
def B2:=[m 42 5,m 43 6,o 44 (.conv .u32 43),o 45 (.b9 45 1 [44]),o 46 (.app 46 1 4 42 45),m 5 46]
def B7:=[m 47 6,bi 48 .shr 47 (.c (.int .u64 (32))),m 6 48]
def r5:=[m 18 7,ad 19 18 k1,m 7 19]
def q9:=[m 49 5,m 50 6,o 51 (.conv .u32 50),o 52 (.b9 52 1 [51]),o 53 (.app 53 1 4 49 52),ca 54 101 [53],m 4 54]
def l1:=(s (s (d r4 (ra 8 9)) (i 17 .skip (x 0))) (s (b 1 (s (s (d r6 [17,20,21,22]) (i 23 (d r7 (ra 23 8)) .skip)) (s (s (d r8 [23,31,32,33]) (i 34 (d r9 (ra 34 8)) .skip)) (s (d B2 (rl [34] 42 5)) (d B7 [47,48]))))) (d r5 [18,19])))
def c:=(s (d r0 [4]) (s (p r1) (s (p r2) (s (s (p r3) (b 0 (w l1))) (s (d q9 (rl [0,1,5,6,7,17] 49 6)) .ret)))))
end MH
def MH:AFn:=⟨2,MH.c,[.tmp 4],false⟩
namespace IJ
def r0:=[mv 4 (.c .nil)]
def r1:=[m 10 0,m 11 1,ca 12 102 [10,11],ls 13 12 k0]
def r2:=[mv 4 (.c .nil)]
def r3:=[m 14 1,ca 15 101 [14],m 1 15]
def r4:=[m 16 0,o 17 (.c9 101 [16]),m 5 17]
def r5:=[mv 6 (.c (.int .u64 (0)))]
def r6:=[mv 7 k0]
def r7:=[m 18 7,m 19 5,ln 20 19,ls 21 18 20]
def r9:=[m 24 6,m 8 24]
def B2:=[m 25 7,m 26 1,ln 27 26,ls 28 25 27]
def B7:=[m 29 8,m 30 1,m 31 7,ia 32 1 30 31,uu 33 1 32,cu 34 33,ad 35 29 34,m 8 35]
def q9:=[m 36 5,m 37 7,ia 38 1 36 37,uu 39 1 38,cu 40 39,m 9 40]
def CG:=[mv 6 (.c (.int .u64 (0)))]
def y7:=[m 41 9,m 42 8,ls 43 41 42]
def ak:=[m 44 9,ad 45 44 (.c (.int .u64 (4294967296))),m 9 45]
def br:=[mv 6 (.c (.int .u64 (1)))]
def D7:=[m 46 5,m 47 7,m 48 9,m 49 8,sb 50 48 49,o 51 (.conv .u32 50),ia 52 1 46 47,so 1 52 51]
def r8:=[m 22 7,ad 23 22 k1,m 7 23]
def bu:=[m 53 5,ca 54 101 [53],m 4 54]
def l1:=(s (s (d r7 [18,19,20]) (i 21 .skip (x 0))) (s (b 1 (s (d r9 [6,21,24]) (s (s (d B2 [25,26,27]) (i 28 (d B7 (ra 28 8)) .skip)) (s (d q9 (rl [28] 36 5)) (s (p CG) (s (s (d y7 [41,42]) (i 43 (s (d ak [6,43,44,45]) (p br)) .skip)) (d D7 (rl [8,9,43] 46 7)))))))) (d r8 [22,23])))
def c:=(s (d r0 [4]) (s (s (d r1 [10,11,12]) (i 13 (s (d r2 [0,1,13]) .ret) .skip)) (s (d r3 [13,14,15]) (s (d r4 [0,16,17]) (s (p r5) (s (s (p r6) (b 0 (w l1))) (s (d bu [1,5,6,7,21,53,54]) .ret)))))))
end IJ
def IJ:AFn:=⟨2,IJ.c,[.tmp 4],false⟩
namespace ML
def r0:=[mv 4 (.c .nil)]
def r1:=[m 9 0,ln 10 9,m 11 1,ln 12 11,ad 13 10 12,ad 14 13 k1,o 15 (.mk 15 1 4 [(.int .u32 (0))] 14 14),m 5 15]
def r2:=[mv 6 k0]
def r3:=[m 16 6,m 17 0,ln 18 17,ls 19 16 18]
def r5:=[mv 7 (.c (.int .u64 (0)))]
def r6:=[mv 8 k0]
def r7:=[m 22 8,m 23 1,ln 24 23,ls 25 22 24]
def r9:=[m 28 7,m 29 0,m 30 6,ia 31 1 29 30,uu 32 1 31,cu 33 32,m 34 1,m 35 8,ia 36 1 34 35,
 uu 37 1 36,cu 38 37,bi 39 .mul 33 38,m 40 5,m 41 6,m 42 8,ad 43 41 42,ia 44 1 40 43,
 uu 45 1 44,cu 46 45,ad 47 39 46,ad 48 28 47,m 7 48]
def B2:=[m 49 5,m 50 6,m 51 8,ad 52 50 51,m 53 7,o 54 (.conv .u32 53),ia 55 1 49 52,so 1 55 54]
def B7:=[m 56 7,bi 57 .shr 56 (.c (.int .u64 (32))),m 7 57]
def r8:=[m 26 8,ad 27 26 k1,m 8 27]
def q9:=[m 58 5,m 59 6,m 60 1,ln 61 60,ad 62 59 61,m 63 7,o 64 (.conv .u32 63),ia 65 1 58 62,so 1 65 64]
def r4:=[m 20 6,ad 21 20 k1,m 6 21]
def CG:=[m 66 5,ca 67 101 [66],m 4 67]
def l2:=(s (s (d r7 [22,23,24]) (i 25 .skip (x 2))) (s (b 3 (s (e r9 (rl [25] 28 21)) (s (d B2 (ra 49 7)) (d B7 [56,57])))) (d r8 [26,27])))
def l1:=(s (s (d r3 [16,17,18]) (i 19 .skip (x 0))) (s (b 1 (s (d r5 [19]) (s (s (p r6) (b 2 (w l2))) (d q9 (rl [7,8,25] 58 8))))) (d r4 [20,21])))
def c:=(s (d r0 [4]) (s (d r1 (ra 9 7)) (s (s (p r2) (b 0 (w l1))) (s (d CG [0,1,5,6,19,66,67]) .ret))))
end ML
def ML:AFn:=⟨2,ML.c,[.tmp 4],false⟩
namespace MI
def r0:=[mv 2 k0]
def r1:=[m 5 0,ca 6 101 [5],m 0 6]
def r2:=[m 7 0,ln 8 7,bi 9 .eql 8 k0]
def r3:=[mv 2 k0]
def r4:=[m 10 0,ln 11 10,sb 12 11 k1,bi 13 .mul (k 32) 12,m 3 13]
def r5:=[m 14 0,m 15 0,ln 16 15,sb 17 16 k1,ia 18 1 14 17,uu 19 1 18,m 4 19]
def r6:=[m 20 4,bi 21 .gtr 20 (.c (.int .u32 (0)))]
def r8:=[m 24 3,ad 25 24 k1,m 3 25]
def r7:=[m 22 4,bi 23 .shr 22 (.c (.int .u64 (1))),m 4 23]
def r9:=[m 26 3,m 2 26]
def l1:=(s (s (d r6 [20]) (i 21 .skip (x 0))) (s (b 1 (d r8 [21,24,25])) (d r7 [22,23])))
def c:=(s (d r0 [2]) (s (d r1 [5,6]) (s (s (d r2 [7,8]) (i 9 (s (d r3 [0,9]) .ret) .skip)) (s (d r4 (ra 9 5)) (s (s (d r5 (rl [0] 14 6)) (b 0 (w l1))) (s (d r9 [3,4,21,26]) .ret))))))
end MI
def MI:AFn:=⟨1,MI.c,[.tmp 2],false⟩
namespace H2
def r0:=[mv 4 (.c .nil)]
def r1:=[m 11 0,ca 12 101 [11],m 0 12]
def r2:=[m 13 1,bi 14 .gtr 13 (k 65536),m 15 14,g 16 15 false (.n0 0),g 17 15 false (.len 16),g 18 15 false (.bin .eql 17 k0),
 pk 19 15 kt 18]
def r3:=[mv 4 (.c .nil)]
def r4:=[m 20 1,ls 21 20 k0]
def r5:=[m 22 1,m 23 0,ln 24 23,bi 25 .mul (k (-32)) 24,ls 26 22 25]
def r6:=[mv 4 (.c .nil)]
def r7:=[m 27 1,o 28 (.un .neg 27),m 1 28]
def r8:=[o 5 (.v9 107005 1)]
def r9:=[m 29 1,bi 30 .quo 29 (k 32),m 6 30]
def B2:=[m 31 6,m 32 0,ln 33 32,ls 34 31 33]
def q9:=[m 37 0,m 38 6,ia 39 1 37 38,uu 40 1 39,cu 41 40,m 7 41]
def CG:=[m 42 6,ad 43 42 k1,m 44 0,ln 45 44,ls 46 43 45]
def y7:=[m 47 7,m 48 0,m 49 6,ad 50 49 k1,ia 51 1 48 50,uu 52 1 51,cu 53 52,
 bi 54 .shl 53 (.c (.int .u64 (32))),bi 55 .or 47 54,m 7 55]
def ak:=[m 56 5,m 57 7,m 58 1,bi 59 .rem 58 (k 32),cu 60 59,bi 61 .shr 57 60,o 62 (.conv .u32 61),o 63 (.b9 107063 1 [62]),
 o 64 (.app 107064 1 4 56 63),m 5 64]
def B7:=[m 35 6,ad 36 35 k1,m 6 36]
def br:=[m 65 5,ca 66 101 [65],m 4 66]
def D7:=[m 67 1,bi 68 .quo 67 (k 32),o 69 (.mk 107069 1 4 [(.int .u32 (0))] 68 68),m 8 69]
def bu:=[mv 9 (.c (.int .u64 (0)))]
def dj:=[mv 10 k0]
def gn:=[m 70 10,m 71 0,ln 72 71,ls 73 70 72]
def mo:=[m 76 9,m 77 0,m 78 10,ia 79 1 77 78,uu 80 1 79,cu 81 80,m 82 1,bi 83 .rem 82 (k 32),cu 84 83,
 bi 85 .shl 81 84,bi 86 .or 76 85,m 9 86]
def rb:=[m 87 8,m 88 9,o 89 (.conv .u32 88),o 90 (.b9 107090 1 [89]),o 91 (.app 107091 1 4 87 90),m 8 91]
def JB:=[m 92 9,bi 93 .shr 92 (.c (.int .u64 (32))),m 9 93]
def kn:=[m 74 10,ad 75 74 k1,m 10 75]
def JC:=[m 94 8,m 95 9,o 96 (.conv .u32 95),o 97 (.b9 107097 1 [96]),o 98 (.app 107098 1 4 94 97),o 99 (.c9 101 [98]),m 4 99]
def l1:=(s (s (d B2 [31,32,33]) (i 34 .skip (x 0))) (s (b 1 (s (d q9 (rl [34] 37 5)) (s (s (d CG (ra 42 4)) (i 46 (d y7 (ra 46 10)) .skip)) (d ak (rl [7,46] 56 9))))) (d B7 [35,36])))
def l2:=(s (s (d gn [70,71,72]) (i 73 .skip (x 2))) (s (b 3 (s (d mo (rl [73] 76 11)) (s (d rb (ra 87 5)) (d JB [92,93])))) (d kn [74,75])))
def c:=(s (d r0 [4]) (s (d r1 [11,12]) (s (s (d r2 (ra 13 6)) (i 19 (s (d r3 [0,1,19]) .ret) .skip)) (s (s (d r4 [19,20]) (i 21 (s (s (d r5 (ra 21 5)) (i 26 (s (d r6 [0,1,26]) .ret) .skip)) (s (d r7 [26,27,28]) (s (p r8) (s (s (d r9 [29,30]) (b 0 (w l1))) (s (d br [0,1,5,6,34,65,66]) .ret))))) .skip)) (s (d D7 [21,67,68,69]) (s (p bu) (s (s (p dj) (b 2 (w l2))) (s (d JC (rl [0,1,8,9,10,73] 94 6)) .ret))))))))
end H2
def H2:AFn:=⟨2,H2.c,[.tmp 4],false⟩
namespace MO
def r0:=[mv 4 (.c .nil),mv 5 (.c (.int .u32 (0)))]
def r1:=[m 9 0,ln 10 9,o 11 (.mk 11 1 4 [(.int .u32 (0))] 10 10),m 6 11]
def r2:=[mv 7 (.c (.int .u64 (0)))]
def r3:=[m 12 0,ln 13 12,sb 14 13 k1,m 8 14]
def r4:=[m 15 8,bi 16 .geq 15 k0]
def r6:=[m 19 7,bi 20 .shl 19 (.c (.int .u64 (32))),m 21 0,m 22 8,ia 23 1 21 22,uu 24 1 23,cu 25 24,
 bi 26 .or 20 25,m 7 26]
def r7:=[m 27 6,m 28 8,m 29 7,m 30 1,cu 31 30,bi 32 .quo 29 31,o 33 (.conv .u32 32),ia 34 1 27 28,so 1 34 33]
def r8:=[m 35 7,m 36 1,cu 37 36,bi 38 .rem 35 37,m 7 38]
def r5:=[m 17 8,sb 18 17 k1,m 8 18]
def r9:=[m 39 6,ca 40 101 [39],m 41 7,o 42 (.conv .u32 41),m 4 40,m 5 42]
def l1:=(s (s (d r4 [15]) (i 16 .skip (x 0))) (s (b 1 (s (d r6 (rl [16] 19 8)) (s (d r7 (ra 27 8)) (d r8 (ra 35 4))))) (d r5 [17,18])))
def c:=(s (d r0 [4,5]) (s (d r1 [9,10,11]) (s (p r2) (s (s (d r3 [12,13,14]) (b 0 (w l1))) (s (d r9 (rl [0,1,6,7,8,16] 39 4)) .ret)))))
end MO
def MO:AFn:=⟨2,MO.c,[.tmp 4,.tmp 5],false⟩
namespace DP
def r0:=[mv 4 (.c .nil),mv 5 (.c .nil),mv 6 k0]
def r1:=[m 27 0,ca 28 101 [27],m 29 1,ca 30 101 [29],m 0 28,m 1 30]
def r2:=[m 31 1,ln 32 31,bi 33 .eql 32 k0]
def r3:=[mv 4 (.c .nil),mv 5 (.c .nil),mv 6 (k 3)]
def r4:=[m 34 1,ln 35 34,bi 36 .eql 35 k1]
def r5:=[m 38 0,m 39 1,ia 40 1 39 k0,uu 41 1 40,ca 42 108 [38,41],m 37 42,et 43 37 0,et 44 37 1,m 7 43,m 8 44]
def r6:=[m 45 7,m 46 8,o 47 (.b9 47 1 [46]),ca 48 101 [47],m 4 45,m 5 48,mv 6 k0]
def r7:=[m 49 0,m 50 1,ca 51 102 [49,50],ls 52 51 k0]
def r8:=[m 53 0,mv 4 (.c .nil),m 5 53,mv 6 k0]
def r9:=[m 54 1,m 55 1,ln 56 55,sb 57 56 k1,o 58 (.fk 1 54 (some 57) none),ca 59 106 [58],sb 60 (k 32) 59,m 9 60]
def B2:=[m 61 0,m 62 9,o 63 (.c9 107 [61,62]),m 64 1,m 65 9,ca 66 107 [64,65],m 10 63,m 11 66]
def B7:=[m 67 10,o 68 (.b9 68 1 [(.c (.int .u32 (0)))]),o 69 (.app 69 1 4 67 68),m 10 69]
def q9:=[m 70 10,ln 71 70,m 72 0,ln 73 72,ad 74 73 k1,ls 75 71 74]
def CG:=[m 76 10,o 77 (.b9 77 1 [(.c (.int .u32 (0)))]),o 78 (.app 78 1 4 76 77),m 10 78]
def y7:=[m 79 11,ln 80 79,m 12 80]
def ak:=[m 81 10,ln 82 81,m 83 12,sb 84 82 83,o 85 (.mk 85 1 4 [(.int .u32 (0))] 84 84),m 13 85]
def br:=[m 86 10,ln 87 86,m 88 12,sb 89 87 88,sb 90 89 k1,m 14 90]
def D7:=[m 91 14,bi 92 .geq 91 k0]
def dj:=[m 95 10,m 96 14,m 97 12,ad 98 96 97,ia 99 1 95 98,uu 100 1 99,cu 101 100,
 bi 102 .shl 101 (.c (.int .u64 (32))),m 103 10,m 104 14,m 105 12,ad 106 104 105,sb 107 106 k1,
 ia 108 1 103 107,uu 109 1 108,cu 110 109,bi 111 .or 102 110,m 15 111]
def gn:=[m 112 15,m 113 11,m 114 12,sb 115 114 k1,ia 116 1 113 115,uu 117 1 116,cu 118 117,
 bi 119 .quo 112 118,m 16 119]
def kn:=[m 120 15,m 121 11,m 122 12,sb 123 122 k1,ia 124 1 121 123,uu 125 1 124,cu 126 125,
 bi 127 .rem 120 126,m 17 127]
def mo:=[m 128 16,bi 129 .geq 128 (.c (.int .u64 (4294967296))),m 130 129,g 131 130 false (.n0 16),g 132 130 false (.n0 11),g 133 130 false (.n0 12),
 g 134 130 false (.bin .sub 133 (k 2)),g 135 130 false (.q7 none 1 132 134),g 136 130 false (.ld false 1 135),g 137 130 false (.conv .u64 136),
 g 138 130 false (.bin .mul 131 137),g 139 130 false (.n0 17),g 140 130 false (.bin .shl 139 (.c (.int .u64 (32)))),g 141 130 false (.n0 10),
 g 142 130 false (.n0 14),g 143 130 false (.n0 12),g 144 130 false (.bin .add 142 143),g 145 130 false (.bin .sub 144 (k 2)),
 g 146 130 false (.q7 none 1 141 145),g 147 130 false (.ld false 1 146),g 148 130 false (.conv .u64 147),g 149 130 false (.bin .or 140 148),
 g 150 130 false (.bin .gtr 138 149),pk 151 130 kt 150]
def rb:=[m 152 16,sb 153 152 (.c (.int .u64 (1))),m 16 153]
def JB:=[m 154 17,m 155 11,m 156 12,sb 157 156 k1,ia 158 1 155 157,uu 159 1 158,cu 160 159,
 ad 161 154 160,m 17 161]
def JC:=[m 162 17,bi 163 .geq 162 (.c (.int .u64 (4294967296)))]
def L7:=[mv 18 (.c (.int .u64 (0))),mv 19 (.c (.int .u64 (0)))]
def L8:=[mv 20 k0]
def PB:=[m 164 20,m 165 12,ls 166 164 165]
def vz:=[m 169 19,m 170 16,m 171 11,m 172 20,ia 173 1 171 172,uu 174 1 173,cu 175 174,bi 176 .mul 170 175,
 ad 177 169 176,m 19 177]
def wq:=[m 178 19,bi 179 .and 178 (.c (.int .u64 (4294967295))),m 180 18,ad 181 179 180,m 21 181]
def fY:=[m 182 19,bi 183 .shr 182 (.c (.int .u64 (32))),m 19 183]
def fZ:=[m 184 10,m 185 20,m 186 14,ad 187 185 186,ia 188 1 184 187,uu 189 1 188,cu 190 189,m 22 190]
def r34:=[mv 18 (.c (.int .u64 (0)))]
def r35:=[m 191 22,m 192 21,ls 193 191 192]
def r36:=[m 194 22,ad 195 194 (.c (.int .u64 (4294967296))),m 22 195]
def r37:=[mv 18 (.c (.int .u64 (1)))]
def r38:=[m 196 10,m 197 20,m 198 14,ad 199 197 198,m 200 22,m 201 21,sb 202 200 201,o 203 (.conv .u32 202),ia 204 1 196 199,
 so 1 204 203]
def PC:=[m 167 20,ad 168 167 k1,m 20 168]
def Qv:=[m 205 19,m 206 18,ad 207 205 206,m 23 207]
def Qw:=[m 208 10,m 209 14,m 210 12,ad 211 209 210,ia 212 1 208 211,uu 213 1 212,cu 214 213,m 24 214]
def Qx:=[mv 18 (.c (.int .u64 (0)))]
def Qy:=[m 215 24,m 216 23,ls 217 215 216]
def Qz:=[m 218 24,ad 219 218 (.c (.int .u64 (4294967296))),m 24 219]
def Ra:=[mv 18 (.c (.int .u64 (1)))]
def Rb:=[m 220 10,m 221 14,m 222 12,ad 223 221 222,m 224 24,m 225 23,sb 226 224 225,o 227 (.conv .u32 226),ia 228 1 220 223,
 so 1 228 227]
def Rc:=[m 229 18,bi 230 .eql 229 (.c (.int .u64 (1)))]
def Re:=[m 231 16,sb 232 231 (.c (.int .u64 (1))),m 16 232]
def Rf:=[mv 25 (.c (.int .u64 (0)))]
def Rg:=[mv 26 k0]
def r50:=[m 233 26,m 234 12,ls 235 233 234]
def r52:=[m 238 25,m 239 10,m 240 26,m 241 14,ad 242 240 241,ia 243 1 239 242,uu 244 1 243,cu 245 244,m 246 11,
 m 247 26,ia 248 1 246 247,uu 249 1 248,cu 250 249,ad 251 245 250,ad 252 238 251,m 25 252]
def r53:=[m 253 10,m 254 26,m 255 14,ad 256 254 255,m 257 25,o 258 (.conv .u32 257),ia 259 1 253 256,so 1 259 258]
def r54:=[m 260 25,bi 261 .shr 260 (.c (.int .u64 (32))),m 25 261]
def r51:=[m 236 26,ad 237 236 k1,m 26 237]
def Rh:=[m 262 10,m 263 14,m 264 12,ad 265 263 264,ia 266 1 262 265,uu 267 1 266,m 268 25,o 269 (.conv .u32 268),
 ad 270 267 269,ia 271 1 262 265,so 1 271 270]
def Ri:=[m 272 13,m 273 14,m 274 16,o 275 (.conv .u32 274),ia 276 1 272 273,so 1 276 275]
def bu:=[m 93 14,sb 94 93 k1,m 14 94]
def Np:=[m 277 13,ca 278 101 [277],m 279 10,m 280 12,o 281 (.fk 1 279 none (some 280)),m 282 9,o 283 (.un .neg 282),ca 284 107 [281,283],m 4 278,
 m 5 284,mv 6 k0]
def l1:=(s (s (d q9 (ra 70 5)) (i 75 .skip (x 0))) (b 1 (d CG (ra 75 4))))
def l3:=(s (s (e mo [128,129,130,131,132,133,134,135,136,137,138,139,140,141,142,143,144,145,146,147,148,149,150,163]) (i 151 .skip (x 4))) (b 5 (s (d rb [151,152,153]) (s (d JB (ra 154 8)) (s (d JC [162]) (i 163 (x 4) .skip))))))
def l4:=(s (s (d PB [164,165]) (i 166 .skip (x 6))) (s (b 7 (s (d vz (rl [166] 169 9)) (s (d wq (rl [18] 178 4)) (s (d fY [182,183]) (s (d fZ (ra 184 7)) (s (p r34) (s (s (d r35 [191,192]) (i 193 (s (d r36 [18,193,194,195]) (p r37)) .skip)) (d r38 (rl [21,22,193] 196 9))))))))) (d PC [167,168])))
def l5:=(s (s (d r50 [233,234]) (i 235 .skip (x 8))) (s (b 9 (s (e r52 (rl [235] 238 15)) (s (d r53 (ra 253 7)) (d r54 [260,261])))) (d r51 [236,237])))
def l2:=(s (s (d D7 [91]) (i 92 .skip (x 2))) (s (b 3 (s (e dj (rl [92] 95 17)) (s (d gn (ra 112 8)) (s (d kn (rl [15] 120 8)) (s (b 4 (w l3)) (s (d L7 [17,151,163]) (s (s (p L8) (b 6 (w l4))) (s (d Qv [18,19,20,166,205,206,207]) (s (d Qw (ra 208 7)) (s (p Qx) (s (s (d Qy [215,216]) (i 217 (s (d Qz [18,217,218,219]) (p Ra)) .skip)) (s (d Rb (rl [23,24,217] 220 9)) (s (s (d Rc [18,229]) (i 230 (s (d Re [230,231,232]) (s (p Rf) (s (s (p Rg) (b 8 (w l5))) (d Rh (rl [25,26,235] 262 10))))) .skip)) (d Ri (rl [16,230] 272 5))))))))))))))) (d bu [93,94])))
def c:=(s (d r0 [4,5,6]) (s (d r1 (ra 27 4)) (s (s (d r2 [31,32]) (i 33 (s (d r3 [0,1,33]) .ret) .skip)) (s (s (d r4 [33,34,35]) (i 36 (s (d r5 (rl [0,1] 36 9)) (s (d r6 (rl [7,8] 45 4)) .ret)) .skip)) (s (s (d r7 [36,49,50,51]) (i 52 (s (d r8 [0,1,52,53]) .ret) .skip)) (s (d r9 (rl [52] 54 7)) (s (d B2 (rl [1] 61 6)) (s (d B7 [67,68,69]) (s (b 0 (w l1)) (s (d y7 [0,75,79,80]) (s (d ak (ra 81 5)) (s (s (d br (ra 86 5)) (b 2 (w l2))) (s (e Np (rl [9,10,11,12,13,14,92] 277 8)) .ret)))))))))))))
end DP
def DP:AFn:=⟨2,DP.c,[.tmp 4,.tmp 5,.tmp 6],false⟩
namespace MK
def r0:=[mv 4 (.c .nil)]
def r1:=[m 8 0,ca 9 101 [8],m 10 1,ca 11 101 [10],m 0 9,m 1 11]
def r2:=[m 12 1,ln 13 12,bi 14 .gtr 13 k0]
def r3:=[m 16 0,m 17 1,ca 18 109 [16,17],m 15 18,et 19 15 0,et 20 15 1,et 21 15 2,m 5 19,m 6 20,m 7 21]
def r4:=[m 22 1,m 23 6,m 0 22,m 1 23]
def r5:=[m 24 0,m 4 24]
def l1:=(s (s (d r2 [12,13]) (i 14 .skip (x 0))) (b 1 (s (d r3 (rl [0,5,7] 14 8)) (d r4 [6,22,23]))))
def c:=(s (d r0 [4]) (s (d r1 (ra 8 4)) (s (b 0 (w l1)) (s (d r5 [0,1,14,24]) .ret))))
end MK
def MK:AFn:=⟨2,MK.c,[.tmp 4],false⟩
namespace MZ
def r0:=[bx 1 0,al 2 [(.bool false),.nil]]
def r1:=[fa 4 1 1,uu 5 1 4,ca 6 101 [5],m 3 6]
def r2:=[fa 7 1 0,uu 8 1 7,m 9 8,g 10 9 true (.n0 3),g 11 9 true (.len 10),g 12 9 true (.bin .gtr 11 k0),
 pk 13 9 12 kf,m 14 3,o 15 (.build [(.bool false),.nil] [(0,1,13),(1,1,14)]),so 2 2 15]
def c:=(s (d r0 [0]) (s (d r1 [4,5,6]) (s (d r2 (rl [1,3] 7 9)) .ret)))
end MZ
def MZ:AFn:=⟨1,MZ.c,[.cell 2 true 2],false⟩
namespace MV
def r0:=[al 2 [(.bool false),.nil]]
def r1:=[m 4 0,ls 5 4 k0]
def r2:=[m 6 0,ad 7 6 k1,o 8 (.un .neg 7),cu 9 8,ad 10 9 (.c (.int .u64 (1))),m 3 10]
def r3:=[m 11 3,o 12 (.conv .u32 11),m 13 3,bi 14 .shr 13 (.c (.int .u64 (32))),o 15 (.conv .u32 14),o 16 (.b9 16 1 [12,15]),
 o 17 (.build [(.bool false),.nil] [(0,1,kt),(1,1,16)]),ca 18 111 [17],so 2 2 18]
def r4:=[m 19 0,o 20 (.conv .u32 19),m 21 0,cu 22 21,bi 23 .shr 22 (.c (.int .u64 (32))),o 24 (.conv .u32 23),o 25 (.b9 25 1 [20,24]),
 o 26 (.build [(.bool false),.nil] [(1,1,25)]),ca 27 111 [26],so 2 2 27]
def c:=(s (p r0) (s (s (d r1 [4]) (i 5 (s (d r2 (rl [0] 5 6)) (s (d r3 (rl [3] 11 8)) .ret)) .skip)) (s (d r4 (rl [0,5] 19 9)) .ret)))
end MV
def MV:AFn:=⟨1,MV.c,[.cell 2 true 2],false⟩
namespace MX
def r0:=[bx 1 0,mv 2 k0]
def r1:=[tt 3 2 1,ca 4 111 [3],so 2 1 4]
def r2:=[fa 6 1 1,uu 7 1 6,ln 8 7,bi 9 .eql 8 k0,m 5 9]
def r3:=[mv 2 k0]
def r4:=[fa 11 1 0,uu 12 1 11,m 10 12]
def r5:=[mv 2 (k (-1))]
def r6:=[mv 2 k1]
def c:=(s (d r0 [0,2]) (s (d r1 [3,4]) (s (b 0 (s (d r2 (ra 6 4)) (i 5 (s (d r3 [1,5]) .ret) (s (d r4 [1,5,11,12]) (i 10 (s (d r5 [10]) .ret) .skip))))) (s (d r6 [10]) .ret))))
end MX
def MX:AFn:=⟨1,MX.c,[.tmp 2],false⟩
namespace MU
def r0:=[bx 1 0,al 2 [(.bool false),.nil]]
def r1:=[tt 3 2 1,ca 4 111 [3],so 2 1 4]
def r2:=[fa 5 1 0,uu 6 1 5,nt 7 6,m 8 7,g 9 8 true (.u6 1 1),g 10 8 true (.ld false 1 9),g 11 8 true (.len 10),
 g 12 8 true (.bin .gtr 11 k0),pk 13 8 12 kf,fa 14 1 0,so 1 14 13]
def r3:=[tt 15 2 1,so 2 2 15]
def c:=(s (d r0 [0]) (s (d r1 [3,4]) (s (d r2 (ra 5 10)) (s (d r3 [1,15]) .ret))))
end MU
def MU:AFn:=⟨1,MU.c,[.cell 2 true 2],false⟩
namespace MP
def r0:=[bx 2 0,bx 3 1,al 4 [(.bool false),.nil]]
def r1:=[tt 5 2 2,ca 6 111 [5],tt 7 2 3,ca 8 111 [7],so 2 2 6,so 2 3 8]
def r2:=[fa 9 2 0,uu 10 1 9,fa 11 3 0,uu 12 1 11,o 13 (.beq false 10 12)]
def r3:=[fa 14 2 0,uu 15 1 14,fa 16 2 1,uu 17 1 16,fa 18 3 1,uu 19 1 18,ca 20 103 [17,19],
 o 21 (.build [(.bool false),.nil] [(0,1,15),(1,1,20)]),ca 22 111 [21],so 2 4 22]
def r4:=[fa 23 2 1,uu 24 1 23,fa 25 3 1,uu 26 1 25,ca 27 102 [24,26],bi 28 .geq 27 k0]
def r5:=[fa 29 2 0,uu 30 1 29,fa 31 2 1,uu 32 1 31,fa 33 3 1,uu 34 1 33,ca 35 104 [32,34],
 o 36 (.build [(.bool false),.nil] [(0,1,30),(1,1,35)]),ca 37 111 [36],so 2 4 37]
def r6:=[fa 38 3 0,uu 39 1 38,fa 40 3 1,uu 41 1 40,fa 42 2 1,uu 43 1 42,ca 44 104 [41,43],
 o 45 (.build [(.bool false),.nil] [(0,1,39),(1,1,44)]),ca 46 111 [45],so 2 4 46]
def c:=(s (d r0 [0,1]) (s (e r1 (ra 5 4)) (s (s (d r2 (ra 9 4)) (i 13 (s (e r3 (rl [2,3] 13 10)) .ret) .skip)) (s (s (d r4 (rl [13] 23 5)) (i 28 (s (e r5 (rl [2,3] 28 10)) .ret) .skip)) (s (e r6 (rl [2,3,28] 38 9)) .ret)))))
end MP
def MP:AFn:=⟨2,MP.c,[.cell 4 true 2],false⟩
namespace MY
def r0:=[bx 2 0,bx 3 1,al 4 [(.bool false),.nil]]
def r1:=[tt 5 2 2,tt 6 2 3,ca 7 114 [6],ca 8 115 [5,7],so 2 4 8]
def c:=(s (d r0 [0,1]) (s (e r1 [2,3,5,6,7,8]) .ret))
end MY
def MY:AFn:=⟨2,MY.c,[.cell 4 true 2],false⟩
namespace MQ
def r0:=[bx 2 0,bx 3 1,mv 4 k0]
def r1:=[tt 5 2 2,tt 6 2 3,ca 7 116 [5,6],ca 8 113 [7],m 4 8]
def c:=(s (d r0 [0,1,4]) (s (d r1 [2,3,5,6,7,8]) .ret))
end MQ
def MQ:AFn:=⟨2,MQ.c,[.tmp 4],false⟩
namespace MT
def r0:=[bx 2 0,bx 3 1,al 4 [(.bool false),.nil]]
def r1:=[fa 5 2 0,uu 6 1 5,fa 7 3 0,uu 8 1 7,o 9 (.beq true 6 8),fa 10 2 1,uu 11 1 10,fa 12 3 1,
 uu 13 1 12,ca 14 105 [11,13],o 15 (.build [(.bool false),.nil] [(0,1,9),(1,1,14)]),ca 16 111 [15],so 2 4 16]
def c:=(s (d r0 [0,1]) (s (e r1 (rl [2,3] 5 12)) .ret))
end MT
def MT:AFn:=⟨2,MT.c,[.cell 4 true 2],false⟩
namespace MR
def r0:=[bx 2 0,bx 3 1,al 4 [(.bool false),.nil],al 5 [(.bool false),.nil],mv 6 k0]
def r1:=[tt 10 2 2,ca 11 111 [10],tt 12 2 3,ca 13 111 [12],so 2 2 11,so 2 3 13]
def r2:=[fa 15 2 1,uu 16 1 15,fa 17 3 1,uu 18 1 17,ca 19 109 [16,18],m 14 19,et 20 14 0,et 21 14 1,
 et 22 14 2,m 7 20,m 8 21,m 9 22]
def r3:=[m 23 9,bi 24 .neq 23 k0]
def r4:=[o 25 (.build [(.bool false),.nil] []),o 26 (.build [(.bool false),.nil] []),m 27 9,so 2 4 25,so 2 5 26,m 6 27]
def r5:=[fa 28 2 0,uu 29 1 28,m 30 29,g 31 30 true (.n0 8),g 32 30 true (.len 31),g 33 30 true (.bin .gtr 32 k0),
 pk 34 30 33 kf]
def r6:=[m 35 7,o 36 (.b9 36 1 [(.c (.int .u32 (1)))]),ca 37 103 [35,36],fa 38 3 1,q 39 [36] (.ld false 1 38),m 40 8,
 ca 41 104 [39,40],m 7 37,m 8 41]
def r7:=[fa 42 2 0,uu 43 1 42,fa 44 3 0,uu 45 1 44,o 46 (.beq true 43 45),m 47 7,
 o 48 (.build [(.bool false),.nil] [(0,1,46),(1,1,47)]),ca 49 111 [48],m 50 8,o 51 (.build [(.bool false),.nil] [(1,1,50)]),so 2 4 49,
 so 2 5 51,mv 6 k0]
def c:=(s (d r0 [0,1,6]) (s (e r1 (ra 10 4)) (s (d r2 (ra 14 9)) (s (s (d r3 [23]) (i 24 (s (d r4 (rl [2,3,7,8,9] 24 4)) .ret) .skip)) (s (s (d r5 (rl [9,24] 28 6)) (i 34 (e r6 (ra 34 8)) .skip)) (s (d r7 (rl [2,3,7,8,34] 42 10)) .ret))))))
end MR
def MR:AFn:=⟨2,MR.c,[.cell 4 true 2,.cell 5 true 2,.tmp 6],false⟩
namespace MS
def r0:=[bx 2 0,bx 3 1,al 4 [(.bool false),.nil]]
def r1:=[fa 5 2 1,uu 6 1 5,fa 7 3 1,uu 8 1 7,ca 9 110 [6,8],o 10 (.build [(.bool false),.nil] [(1,1,9)]),
 so 2 4 10]
def c:=(s (d r0 [0,1]) (s (d r1 (rl [2,3] 5 6)) .ret))
end MS
def MS:AFn:=⟨2,MS.c,[.cell 4 true 2],false⟩
namespace H3
def r0:=[bx 2 0,bx 3 1,al 4 z3]
def r1:=[tt 12 2 2,ca 13 113 [12],bi 14 .eql 13 k0,m 15 14,g 16 15 false (.ld true 2 3),g 17 15 false (.call 113 [16]),
 g 18 15 false (.bin .eql 17 k0),pk 19 15 kt 18]
def r2:=[o 20 (.b9 20 1 [(.c (.int .u32 (1)))]),o 21 (.build z3 [(2,1,20)]),so 3 4 21]
def r3:=[tt 22 2 2,tt 23 2 3,ca 24 120 [22,23],al 5 [(.bool false),.nil],so 2 5 24]
def r4:=[tt 26 2 2,tt 27 2 5,ca 28 119 [26,27],m 25 28,et 29 25 0,et 30 25 1,et 31 25 2,
 al 6 [(.bool false),.nil],al 7 [(.bool false),.nil],so 2 6 29,so 2 7 30,m 8 31]
def r5:=[tt 33 2 3,tt 34 2 5,ca 35 119 [33,34],m 32 35,et 36 32 0,et 37 32 1,et 38 32 2,
 al 9 [(.bool false),.nil],al 10 [(.bool false),.nil],so 2 9 36,so 2 10 37,m 11 38]
def r6:=[fa 39 9 0,uu 40 1 39]
def r7:=[tt 41 2 6,ca 42 114 [41],so 2 6 42]
def r8:=[tt 43 2 6,fa 44 9 1,uu 45 1 44,o 46 (.build z3 [(0,2,43),(2,1,45)]),so 3 4 46]
def c:=(s (d r0 [0,1]) (s (s (d r1 (ra 12 7)) (i 19 (s (d r2 [2,3,19,20,21]) .ret) .skip)) (s (d r3 [19,22,23,24]) (s (d r4 (rl [2,7,8] 25 7)) (s (d r5 (rl [3,5,10,11] 32 7)) (s (s (d r6 [39]) (i 40 (d r7 [40,41,42]) .skip)) (s (d r8 (rl [6,9,40] 43 4)) .ret)))))))
end H3
def H3:AFn:=⟨2,H3.c,[.cell 4 true 3],false⟩
namespace JM
def r0:=[bx 1 0,al 2 [(.bool false),.nil],al 3 [(.bool false),.nil]]
def r1:=[fa 5 1 2,uu 6 1 5,ca 7 101 [6],o 8 (.build [(.bool false),.nil] [(1,1,7)]),al 4 [(.bool false),.nil],so 2 4 8]
def r2:=[fa 9 4 1,uu 10 1 9,ln 11 10,bi 12 .eql 11 k0]
def r3:=[o 13 (.build [(.bool false),.nil] []),o 14 (.b9 14 1 [(.c (.int .u32 (1)))]),o 15 (.build [(.bool false),.nil] [(1,1,14)]),so 2 2 13,
 so 2 3 15]
def r4:=[fa 16 1 0,tt 17 2 16,q 18 [2] (.ld true 2 4),n (.mq 2 2 2 17),so 2 3 18]
def c:=(s (d r0 [0]) (s (d r1 (ra 5 4)) (s (s (d r2 [9,10,11]) (i 12 (s (d r3 (rl [1,4] 12 4)) .ret) .skip)) (s (e r4 [1,4,12,16,17,18]) .ret))))
end JM
def JM:AFn:=⟨1,JM.c,[.cell 2 true 2,.cell 3 true 2],false⟩
namespace NC
def r0:=[bx 1 0,al 2 z3]
def r1:=[tt 6 3 1,o 7 (.j5 122 [6]),m 5 7,et 8 5 0,et 9 5 1,al 3 [(.bool false),.nil],al 4 [(.bool false),.nil],
 so 2 3 8,so 2 4 9]
def r2:=[tt 10 2 3,tt 11 2 4,ca 12 121 [10,11],so 3 2 12]
def c:=(s (d r0 [0]) (s (d r1 (rl [1] 5 5)) (s (d r2 [3,4,10,11,12]) .ret)))
end NC
def NC:AFn:=⟨1,NC.c,[.cell 2 true 3],false⟩
namespace M9
def r0:=[al 2 z3]
def r1:=[m 3 0,ca 4 112 [3],o 5 (.b9 5 1 [(.c (.int .u32 (1)))]),o 6 (.build z3 [(0,2,4),(2,1,5)]),so 3 2 6]
def c:=(s (p r0) (s (d r1 [0,3,4,5,6]) .ret))
end M9
def M9:AFn:=⟨1,M9.c,[.cell 2 true 3],false⟩
namespace M6
def r0:=[al 4 z3]
def r1:=[m 5 0,ca 6 112 [5],m 7 1,ca 8 112 [7],ca 9 121 [6,8],so 3 4 9]
def c:=(s (p r0) (s (d r1 (rl [0,1] 5 5)) .ret))
end M6
def M6:AFn:=⟨2,M6.c,[.cell 4 true 3],false⟩
namespace M3
def r0:=[bx 2 0,bx 3 1,al 4 z3]
def r1:=[tt 10 3 2,o 11 (.j5 122 [10]),m 9 11,et 12 9 0,et 13 9 1,al 5 [(.bool false),.nil],
 al 6 [(.bool false),.nil],so 2 5 12,so 2 6 13]
def r2:=[tt 15 3 3,o 16 (.j5 122 [15]),m 14 16,et 17 14 0,et 18 14 1,al 7 [(.bool false),.nil],
 al 8 [(.bool false),.nil],so 2 7 17,so 2 8 18]
def r3:=[tt 19 2 5,tt 20 2 8,ca 21 118 [19,20],tt 22 2 7,tt 23 2 6,ca 24 118 [22,23],
 ca 25 115 [21,24],tt 26 2 6,tt 27 2 8,ca 28 118 [26,27],ca 29 121 [25,28],so 3 4 29]
def c:=(s (d r0 [0,1]) (s (d r1 (rl [2] 9 5)) (s (d r2 (rl [3] 14 5)) (s (e r3 (rl [5,6,7,8] 19 11)) .ret))))
end M3
def M3:AFn:=⟨2,M3.c,[.cell 4 true 3],false⟩
namespace M4
def r0:=[bx 2 0,bx 3 1,mv 4 k0]
def r1:=[tt 10 3 2,o 11 (.j5 122 [10]),m 9 11,et 12 9 0,et 13 9 1,al 5 [(.bool false),.nil],
 al 6 [(.bool false),.nil],so 2 5 12,so 2 6 13]
def r2:=[tt 15 3 3,o 16 (.j5 122 [15]),m 14 16,et 17 14 0,et 18 14 1,al 7 [(.bool false),.nil],
 al 8 [(.bool false),.nil],so 2 7 17,so 2 8 18]
def r3:=[tt 19 2 5,tt 20 2 8,ca 21 118 [19,20],tt 22 2 7,tt 23 2 6,ca 24 118 [22,23],
 ca 25 117 [21,24],m 4 25]
def c:=(s (d r0 [0,1,4]) (s (d r1 (rl [2] 9 5)) (s (d r2 (rl [3] 14 5)) (s (e r3 (rl [5,6,7,8] 19 7)) .ret))))
end M4
def M4:AFn:=⟨2,M4.c,[.tmp 4],false⟩
namespace M8
def r0:=[bx 2 0,bx 3 1,al 4 z3]
def r1:=[tt 10 3 2,o 11 (.j5 122 [10]),m 9 11,et 12 9 0,et 13 9 1,al 5 [(.bool false),.nil],
 al 6 [(.bool false),.nil],so 2 5 12,so 2 6 13]
def r2:=[tt 15 3 3,o 16 (.j5 122 [15]),m 14 16,et 17 14 0,et 18 14 1,al 7 [(.bool false),.nil],
 al 8 [(.bool false),.nil],so 2 7 17,so 2 8 18]
def r3:=[tt 19 2 5,tt 20 2 7,ca 21 118 [19,20],tt 22 2 6,tt 23 2 8,ca 24 118 [22,23],
 ca 25 121 [21,24],so 3 4 25]
def c:=(s (d r0 [0,1]) (s (d r1 (rl [2] 9 5)) (s (d r2 (rl [3] 14 5)) (s (e r3 (rl [5,6,7,8] 19 7)) .ret))))
end M8
def M8:AFn:=⟨2,M8.c,[.cell 4 true 3],false⟩
structure a5 (L:Lib):Prop where
 G7:L 101=some F.G7
 MJ:L 102=some F.MJ
 MH:L 103=some F.MH
 IJ:L 104=some F.IJ
 ML:L 105=some F.ML
 MI:L 106=some F.MI
 H2:L 107=some F.H2
 MO:L 108=some F.MO
 DP:L 109=some F.DP
 MK:L 110=some F.MK
 MZ:L 111=some F.MZ
 MV:L 112=some F.MV
 MX:L 113=some F.MX
 MU:L 114=some F.MU
 MP:L 115=some F.MP
 MY:L 116=some F.MY
 MQ:L 117=some F.MQ
 MT:L 118=some F.MT
 MR:L 119=some F.MR
 MS:L 120=some F.MS
 H3:L 121=some F.H3
 JM:L 122=some F.JM
 NC:L 123=some F.NC
 M9:L 124=some F.M9
 M6:L 125=some F.M6
 M3:L 126=some F.M3
 M4:L 127=some F.M4
 M8:L 128=some F.M8
end Go.b8.F

namespace Go.b8.F
open C
structure qf (L:Lib):Prop extends a4 L,a5 L where
structure mu (L:Lib):Prop where
structure tp (L:Lib):Prop extends mu L where
structure qe (L:Lib):Prop extends qf L,tp L where
end Go.b8.F

namespace Go.b8.F
open C
namespace JA
def r0:=[mv 2 (.c .nil)]
def r1:=[m 4 0,ln 5 4,m 3 5]
def r2:=[m 6 3,bi 7 .gtr 6 k0,m 8 7,g 9 8 true (.n0 0),g 10 8 true (.n0 3),g 11 8 true (.bin .sub 10 k1),g 12 8 true (.q7 none 3 9 11),
 g 13 8 true (.ld true 3 12),g 14 8 true (.call 97 [13]),g 15 8 true (.bin .eql 14 k0),pk 16 8 15 kf]
def r3:=[m 17 3,sb 18 17 k1,m 3 18]
def r4:=[m 19 0,m 20 3,o 21 (.fk 3 19 none (some 20)),m 2 21]
def l1:=(s (s (d r2 (ra 6 10)) (i 16 .skip (x 0))) (b 1 (d r3 [16,17,18])))
def c:=(s (d r0 [2]) (s (d r1 [4,5]) (s (b 0 (w l1)) (s (d r4 [0,3,16,19,20,21]) .ret))))
end JA
def JA:AFn:=⟨1,JA.c,[.tmp 2],false⟩
namespace L2
def r0:=[mv 2 (.c .nil)]
def r1:=[m 5 0,o 6 (.c9 169 [5]),ln 7 6,o 8 (.mk 170008 3 56 z3 7 7),m 3 8]
def r2:=[m 9 3,ln 10 9,mv 11 k0]
def r3:=[ls 12 11 10]
def r4:=[m 13 11,m 4 13]
def r5:=[m 14 3,m 15 4,m 16 0,m 17 4,ia 18 3 16 17,tt 19 3 18,ca 20 95 [19],ia 21 3 14 15,so 3 21 20]
def r6:=[ad 22 11 k1,m 11 22]
def r7:=[m 23 3,m 2 23]
def l1:=(s (p r3) (s (i 12 .skip (x 0)) (s (b 1 (s (d r4 [12,13]) (d r5 (rl [4] 14 8)))) (d r6 [22]))))
def c:=(s (d r0 [2]) (s (d r1 (ra 5 4)) (s (s (d r2 [9]) (b 0 (w l1))) (s (d r7 [0,3,10,11,12,23]) .ret))))
end L2
def L2:AFn:=⟨1,L2.c,[.tmp 2],false⟩
structure dz (L:Lib):Prop extends a4 L where
 JA:L 169=some F.JA
 L2:L 170=some F.L2
end Go.b8.F

namespace Go.b8.F
open C
namespace JI
def r0:=[bx 1 0,al 2 z3]
def r1:=[tt 3 3 1,ca 4 123 [3],so 3 1 4]
def r2:=[fa 5 1 0,tt 6 2 5,ca 7 114 [6],fa 8 1 0,so 2 8 7]
def r3:=[tt 9 3 1,so 3 2 9]
def c:=(s (d r0 [0]) (s (d r1 [3,4]) (s (d r2 (ra 5 4)) (s (d r3 [1,9]) .ret))))
end JI
def JI:AFn:=⟨1,JI.c,[.cell 2 true 3],false⟩
namespace JL
def r0:=[bx 2 0,bx 3 1,al 4 z3]
def r1:=[tt 5 3 2,tt 6 3 3,ca 7 152 [6],ca 8 126 [5,7],so 3 4 8]
def c:=(s (d r0 [0,1]) (s (e r1 [2,3,5,6,7,8]) .ret))
end JL
def JL:AFn:=⟨2,JL.c,[.cell 4 true 3],false⟩
namespace M5
def r0:=[bx 2 0,bx 3 1,al 4 z3,mv 5 k0]
def r1:=[tt 11 3 2,o 12 (.j5 122 [11]),m 10 12,et 13 10 0,et 14 10 1,al 6 [(.bool false),.nil],
 al 7 [(.bool false),.nil],so 2 6 13,so 2 7 14]
def r2:=[tt 16 3 3,o 17 (.j5 122 [16]),m 15 17,et 18 15 0,et 19 15 1,al 8 [(.bool false),.nil],
 al 9 [(.bool false),.nil],so 2 8 18,so 2 9 19]
def r3:=[tt 20 2 8,ca 21 113 [20],bi 22 .eql 21 k0]
def r4:=[o 23 (.build z3 []),so 3 4 23,mv 5 (k 3)]
def r5:=[tt 24 2 6,tt 25 2 9,ca 26 118 [24,25],tt 27 2 7,tt 28 2 8,ca 29 118 [27,28],
 ca 30 121 [26,29],so 3 4 30,mv 5 k0]
def c:=(s (d r0 [0,1,5]) (s (d r1 (rl [2] 10 5)) (s (d r2 (rl [3] 15 5)) (s (s (d r3 [20,21]) (i 22 (s (d r4 [6,7,8,9,22,23]) .ret) .skip)) (s (e r5 (rl [6,7,8,9,22] 24 7)) .ret)))))
end M5
def M5:AFn:=⟨2,M5.c,[.cell 4 true 3,.tmp 5],false⟩
namespace JK
def r0:=[bx 1 0,mv 2 k0]
def r1:=[tt 6 3 1,o 7 (.j5 122 [6]),m 5 7,et 8 5 0,et 9 5 1,al 3 [(.bool false),.nil],al 4 [(.bool false),.nil],
 so 2 3 8,so 2 4 9]
def r2:=[tt 10 2 3,ca 11 113 [10],m 2 11]
def c:=(s (d r0 [0,2]) (s (d r1 (rl [1] 4 6)) (s (d r2 [3,10,11]) .ret)))
end JK
def JK:AFn:=⟨1,JK.c,[.tmp 2],false⟩
namespace MN
def r0:=[mv 4 kf]
def r1:=[m 6 0,ln 7 6,m 8 1,ln 9 8,bi 10 .neq 7 9]
def r2:=[mv 4 kf]
def r3:=[mv 5 k0]
def r4:=[m 11 5,m 12 0,ln 13 12,ls 14 11 13]
def r6:=[m 17 0,m 18 5,ia 19 1 17 18,uu 20 1 19,m 21 1,m 22 5,ia 23 1 21 22,uu 24 1 23,bi 25 .neq 20 24]
def r7:=[mv 4 kf]
def r5:=[m 15 5,ad 16 15 k1,m 5 16]
def r8:=[mv 4 kt]
def l1:=(s (s (d r4 [11,12,13]) (i 14 .skip (x 0))) (s (b 1 (s (e r6 (rl [14] 17 8)) (i 25 (s (d r7 [0,1,5,25]) .ret) .skip))) (d r5 [15,16,25])))
def c:=(s (d r0 [4]) (s (s (d r1 (ra 6 4)) (i 10 (s (d r2 [0,1,10]) .ret) .skip)) (s (s (d r3 [10]) (b 0 (w l1))) (s (d r8 [0,1,5,14]) .ret))))
end MN
def MN:AFn:=⟨2,MN.c,[.tmp 4],false⟩
namespace MW
def r0:=[bx 2 0,bx 3 1,mv 4 kf]
def r1:=[fa 5 2 0,uu 6 1 5,fa 7 3 0,uu 8 1 7,o 9 (.beq false 6 8),m 10 9,g 11 10 true (.u6 2 1),
 g 12 10 true (.ld false 1 11),g 13 10 true (.u6 3 1),g 14 10 true (.ld false 1 13),g 15 10 true (.call 156 [12,14]),
 pk 16 10 15 kf,m 4 16]
def c:=(s (d r0 [0,1,4]) (s (d r1 (rl [2,3] 5 12)) .ret))
end MW
def MW:AFn:=⟨2,MW.c,[.tmp 4],false⟩
namespace JJ
def r0:=[bx 2 0,bx 3 1,mv 4 kf]
def r1:=[fa 5 2 0,tt 6 2 5,fa 7 3 0,tt 8 2 7,ca 9 157 [6,8],m 10 9,g 11 10 true (.u6 2 2),
 g 12 10 true (.ld false 1 11),g 13 10 true (.u6 3 2),g 14 10 true (.ld false 1 13),g 15 10 true (.call 156 [12,14]),
 pk 16 10 15 kf,m 4 16]
def c:=(s (d r0 [0,1,4]) (s (d r1 (rl [2,3] 5 12)) .ret))
end JJ
def JJ:AFn:=⟨2,JJ.c,[.tmp 4],false⟩
namespace NB
def r0:=[mv 4 kf]
def r1:=[m 6 0,ln 7 6,m 8 1,ln 9 8,bi 10 .neq 7 9]
def r2:=[mv 4 kf]
def r3:=[mv 5 k0]
def r4:=[m 11 5,m 12 0,ln 13 12,ls 14 11 13]
def r6:=[m 17 0,m 18 5,ia 19 3 17 18,tt 20 3 19,m 21 1,m 22 5,ia 23 3 21 22,tt 24 3 23,ca 25 158 [20,24],
 nt 26 25]
def r7:=[mv 4 kf]
def r5:=[m 15 5,ad 16 15 k1,m 5 16]
def r8:=[mv 4 kt]
def l1:=(s (s (d r4 [11,12,13]) (i 14 .skip (x 0))) (s (b 1 (s (e r6 (rl [14] 17 9)) (i 26 (s (d r7 [0,1,5,26]) .ret) .skip))) (d r5 [15,16,26])))
def c:=(s (d r0 [4]) (s (s (d r1 (ra 6 4)) (i 10 (s (d r2 [0,1,10]) .ret) .skip)) (s (s (d r3 [10]) (b 0 (w l1))) (s (d r8 [0,1,5,14]) .ret))))
end NB
def NB:AFn:=⟨2,NB.c,[.tmp 4],false⟩
structure e7 (L:Lib):Prop extends a5 L where
 JI:L 152=some F.JI
 JL:L 153=some F.JL
 M5:L 154=some F.M5
 JK:L 155=some F.JK
 MN:L 156=some F.MN
 MW:L 157=some F.MW
 JJ:L 158=some F.JJ
 NB:L 159=some F.NB
end Go.b8.F

namespace Go.b8.F
open C
namespace NF
def r0:=[mv 2 (.c .nil)]
def r1:=[m 7 0,ln 8 7,m 3 8]
def r2:=[m 9 3,bi 10 .gtr 9 k0,m 11 10,g 12 11 true (.n0 0),g 13 11 true (.n0 3),g 14 11 true (.bin .sub 13 k1),g 15 11 true (.q7 none 3 12 14),
 g 16 11 true (.ld true 3 15),g 17 11 true (.call 155 [16]),g 18 11 true (.bin .eql 17 k0),pk 19 11 18 kf]
def r3:=[m 20 3,sb 21 20 k1,m 3 21]
def r4:=[o 4 (.v9 171004 3)]
def r5:=[m 22 0,m 23 3,o 24 (.fk 3 22 none (some 23)),ln 25 24,mv 26 k0]
def r6:=[ls 27 26 25]
def r7:=[ia 28 3 24 26,tt 29 3 28,o 6 (.alloc 171006 z3),so 3 6 29]
def r8:=[m 30 4,tt 31 3 6,ca 32 123 [31],o 33 (.b9 171033 3 [32]),o 34 (.app 171034 3 56 30 33),m 4 34]
def r9:=[ad 35 26 k1,m 26 35]
def B2:=[m 36 4,m 2 36]
def l1:=(s (s (d r2 (ra 9 10)) (i 19 .skip (x 0))) (b 1 (d r3 [19,20,21])))
def l2:=(s (p r6) (s (i 27 .skip (x 2)) (s (b 3 (s (d r7 [27,28,29]) (d r8 (rl [6] 30 5)))) (d r9 [35]))))
def c:=(s (d r0 [2]) (s (d r1 [7,8]) (s (b 0 (w l1)) (s (d r4 [19]) (s (s (d r5 [0,3,22,23]) (b 2 (w l2))) (s (d B2 [4,24,25,26,27,36]) .ret))))))
end NF
def NF:AFn:=⟨1,NF.c,[.tmp 2],false⟩
namespace ND
def r0:=[mv 4 kf]
def r1:=[m 5 0,m 6 1,ca 7 159 [5,6],m 4 7]
def c:=(s (d r0 [4]) (s (d r1 [0,1,5,6,7]) .ret))
end ND
def ND:AFn:=⟨2,ND.c,[.tmp 4],false⟩
structure v5 (L:Lib):Prop extends e7 L where
 NF:L 171=some F.NF
 ND:L 172=some F.ND
end Go.b8.F

namespace Go.b8.F
open C
structure tu (L:Lib):Prop extends qe L,w9 L,dz L,v5 L where
end Go.b8.F

namespace Go.b8.F
open C
namespace KV
def r0:=[bx 2 0,bx 3 1,mv 4 k0]
def r1:=[tt 7 2 2,ca 8 86 [7],tt 9 2 3,ca 10 86 [9],m 5 8,m 6 10]
def r2:=[m 12 5,m 13 6,ls 14 12 13,m 11 14]
def r3:=[mv 4 (k (-1))]
def r4:=[m 16 5,m 17 6,bi 18 .gtr 16 17,m 15 18]
def r5:=[mv 4 k1]
def r6:=[m 20 5,bi 21 .eql 20 (k (-1)),m 19 21]
def r7:=[fa 22 3 1,uu 23 1 22,fa 24 2 1,uu 25 1 24,ca 26 67 [23,25],m 4 26]
def r8:=[fa 27 2 1,uu 28 1 27,fa 29 3 1,uu 30 1 29,ca 31 67 [28,30],m 4 31]
def c:=(s (d r0 [0,1,4]) (s (e r1 (ra 7 4)) (s (b 0 (s (d r2 [12,13,14]) (i 11 (s (d r3 [2,3,5,6,11]) .ret) (s (d r4 [6,11,16,17,18]) (i 15 (s (d r5 [2,3,5,15]) .ret) (s (d r6 [5,15,20,21]) (i 19 (s (d r7 (rl [2,3,19] 22 5)) .ret) .skip))))))) (s (d r8 (rl [2,3,19] 27 5)) .ret))))
end KV
def KV:AFn:=⟨2,KV.c,[.tmp 4],false⟩
namespace JE
def r0:=[bx 2 0,bx 3 1,mv 4 k0]
def r1:=[q 7 [5,6] (.ld true 3 2),q 8 [5,6] (.j5 89 [7]),q 9 [5,6] (.ld true 3 3),q 10 [5,6] (.j5 89 [9]),
 al 5 [(.bool false),.nil,.nil,(.bool false)],al 6 [(.bool false),.nil,.nil,(.bool false)],so 4 5 8,so 4 6 10]
def r2:=[fa 11 5 3,uu 12 1 11,m 13 12,g 14 13 true (.u6 6 3),g 15 13 true (.ld false 1 14),pk 16 13 15 kf]
def r3:=[fa 17 5 0,fa 18 17 0,tt 19 2 18,fa 20 6 0,fa 21 20 0,tt 22 2 21,ca 23 197 [19,22],m 4 23]
def r4:=[fa 24 5 0,fa 25 24 0,tt 26 2 25,fa 27 6 0,fa 28 27 2,uu 29 1 28,o 30 (.j5 91 [29]),
 ca 31 88 [26,30],fa 32 6 0,fa 33 32 0,tt 34 2 33,fa 35 5 0,fa 36 35 2,uu 37 1 36,
 o 38 (.j5 91 [37]),ca 39 88 [34,38],ca 40 197 [31,39],m 4 40]
def c:=(s (d r0 [0,1,4]) (s (e r1 [2,3,7,8,9,10]) (s (s (d r2 (ra 11 5)) (i 16 (s (d r3 (rl [5,6] 16 8)) .ret) .skip)) (s (e r4 (rl [5,6,16] 24 17)) .ret))))
end JE
def JE:AFn:=⟨2,JE.c,[.tmp 4],false⟩
structure z8 (L:Lib):Prop extends tu L where
 KV:L 197=some F.KV
 JE:L 198=some F.JE
end Go.b8.F

namespace Go.b8.F
open C
namespace NU
def r0:=[mv 4 (.c .nil)]
def r1:=[m 5 1,ls 6 5 k0]
def r2:=[o 7 (.bad),n (.bad)]
def r3:=[m 8 1,m 9 0,o 10 (.eg 9),m 11 0,ln 12 11,sb 13 10 12,sb 14 8 13,m 1 14]
def r4:=[m 15 1,bi 16 .gtr 15 k0]
def r5:=[m 17 0,m 18 0,o 19 (.eg 18),o 20 (.fk 3 17 none (some 19)),m 21 1,o 22 (.oa 227022 3 56 20 21),m 23 0,ln 24 23,
 o 25 (.fk 3 22 none (some 24)),m 0 25]
def r6:=[m 26 0,m 4 26]
def c:=(s (d r0 [4]) (s (s (d r1 [5]) (i 6 (d r2 [6,7]) .skip)) (s (s (d r3 (rl [6] 8 7)) (s (d r4 [15]) (i 16 (d r5 (rl [1] 16 10)) .skip))) (s (d r6 [0,1,16,26]) .ret))))
end NU
def NU:AFn:=⟨2,NU.c,[.tmp 4],false⟩
namespace NT
def r0:=[mv 2 (.c .nil)]
def r1:=[mv 3 k0]
def r2:=[m 9 0,ln 10 9,mv 11 k0]
def r3:=[ls 12 11 10]
def r4:=[ia 13 1 9 11,uu 14 1 13,m 5 14]
def r5:=[m 15 3,m 16 5,ln 17 16,ad 18 15 17,m 3 18]
def r6:=[m 19 3,ls 20 19 k0]
def r7:=[o 21 (.bad),n (.bad)]
def r8:=[ad 22 11 k1,m 11 22]
def r9:=[m 23 3,o 24 (.c9 227 [(.c .nil),23]),m 6 24]
def B2:=[m 25 0,ln 26 25,mv 27 k0]
def B7:=[ls 28 27 26]
def q9:=[ia 29 1 25 27,uu 30 1 29,m 8 30]
def CG:=[m 31 6,m 32 8,o 33 (.app 33 3 56 31 32),m 6 33]
def y7:=[ad 34 27 k1,m 27 34]
def ak:=[m 35 6,m 2 35]
def l1:=(s (p r3) (s (i 12 .skip (x 0)) (s (b 1 (s (d r4 [12,13,14]) (s (d r5 (rl [5] 15 4)) (s (d r6 [19]) (i 20 (d r7 [20,21]) .skip))))) (d r8 [20,22]))))
def l2:=(s (p B7) (s (i 28 .skip (x 2)) (s (b 3 (s (d q9 [28,29,30]) (d CG [8,31,32,33]))) (d y7 [34]))))
def c:=(s (d r0 [2]) (s (p r1) (s (s (p r2) (b 0 (w l1))) (s (d r9 [3,9,10,11,12,23,24]) (s (s (d B2 [0]) (b 2 (w l2))) (s (d ak [6,25,26,27,28,35]) .ret))))))
end NT
def NT:AFn:=⟨1,NT.c,[.tmp 2],false⟩
namespace I5
def r0:=[mv 2 kf]
def r1:=[m 6 0,ln 7 6,ls 8 7 k1,m 9 8,g 10 9 false (.n0 0),g 11 9 false (.len 10),g 12 9 false (.bin .gtr 11 (k 52)),
 pk 13 9 kt 12]
def r2:=[mv 2 kf]
def r3:=[m 14 0,ia 15 1 14 k0,uu 16 1 15,ln 17 16,m 3 17]
def r4:=[m 18 0,ln 19 18,mv 20 k0]
def r5:=[ls 21 20 19]
def r6:=[ia 22 1 18 20,uu 23 1 22,m 5 23]
def r7:=[m 24 5,ln 25 24,m 26 3,bi 27 .neq 25 26]
def r8:=[mv 2 kf]
def r9:=[ad 28 20 k1,m 20 28]
def B2:=[m 29 3,bi 30 .geq 29 k1,m 31 30,g 32 31 true (.n0 3),g 33 31 true (.bin .leq 32 (k 52)),pk 34 31 33 kf,m 2 34]
def l1:=(s (p r5) (s (i 21 .skip (x 0)) (s (b 1 (s (d r6 [21,22,23]) (s (d r7 [5,24,25,26]) (i 27 (s (d r8 [3,18,19,20,27]) .ret) .skip)))) (d r9 [27,28]))))
def c:=(s (d r0 [2]) (s (s (d r1 (ra 6 7)) (i 13 (s (d r2 [0,13]) .ret) .skip)) (s (d r3 (ra 13 5)) (s (s (d r4 [0]) (b 0 (w l1))) (s (d B2 (rl [3,18,19,20,21] 29 6)) .ret)))))
end I5
def I5:AFn:=⟨1,I5.c,[.tmp 2],false⟩
namespace J1
def r0:=[mv 2 (.c .nil),mv 3 (.c .nil)]
def r1:=[m 14 0,ln 15 14,o 16 (.mk 231016 1 24 [.nil] 15 15),m 17 0,ln 18 17,o 19 (.mk 231019 3 56 z3 18 18),m 4 16,m 5 19]
def r2:=[m 20 0,ln 21 20,mv 22 k0]
def r3:=[ls 23 22 21]
def r4:=[m 24 22,ia 25 1 20 22,uu 26 1 25,m 6 24,m 7 26]
def r5:=[ca 27 96 [k1],o 8 (.alloc 231008 z3),so 3 8 27]
def r6:=[m 28 7,ln 29 28,mv 30 k0]
def r7:=[ls 31 30 29]
def r8:=[ia 32 3 28 30,tt 33 3 32,o 10 (.alloc 231010 z3),so 3 10 33]
def r9:=[tt 34 3 8,tt 35 3 10,ca 36 99 [34,35],o 11 (.alloc 231011 z3),so 3 11 36]
def B2:=[tt 37 3 8,fa 38 11 2,uu 39 1 38,o 40 (.build [(.bool false),.nil] [(1,1,39)]),o 41 (.b9 231041 1 [(.c (.int .u32 (1)))]),
 o 42 (.build z3 [(0,2,40),(2,1,41)]),ca 43 99 [37,42],so 3 8 43]
def B7:=[ad 44 30 k1,m 30 44]
def q9:=[m 45 4,m 46 6,m 47 7,ln 48 47,o 49 (.mk 231049 3 56 z3 48 48),ia 50 1 45 46,so 1 50 49]
def CG:=[m 51 7,ln 52 51,mv 53 k0]
def y7:=[ls 54 53 52]
def ak:=[m 55 53,ia 56 3 51 53,tt 57 3 56,o 13 (.alloc 231013 z3),m 12 55,so 3 13 57]
def br:=[m 58 4,m 59 6,ia 60 1 58 59,uu 61 1 60,m 62 12,tt 63 3 13,tt 64 3 8,ca 65 99 [63,64],
 ia 66 3 61 62,so 3 66 65]
def D7:=[ad 67 53 k1,m 53 67]
def bu:=[m 68 5,m 69 6,tt 70 3 8,ia 71 3 68 69,so 3 71 70]
def dj:=[ad 72 22 k1,m 22 72]
def gn:=[m 73 4,m 74 5,m 2 73,m 3 74]
def l2:=(s (p r7) (s (i 31 .skip (x 2)) (s (b 3 (s (d r8 [31,32,33]) (s (d r9 [10,34,35,36]) (d B2 (rl [11] 37 7))))) (d B7 [44]))))
def l3:=(s (p y7) (s (i 54 .skip (x 4)) (s (b 5 (s (d ak (ra 54 4)) (e br (rl [12,13] 58 9)))) (d D7 [67]))))
def l1:=(s (p r3) (s (i 23 .skip (x 0)) (s (b 1 (s (d r4 (ra 23 4)) (s (d r5 [27]) (s (s (p r6) (b 2 (w l2))) (s (d q9 (rl [28,29,30,31] 45 6)) (s (s (d CG [7]) (b 4 (w l3))) (d bu (rl [6,8,51,52,53,54] 68 4)))))))) (d dj [72]))))
def c:=(s (d r0 [2,3]) (s (e r1 (ra 14 6)) (s (s (d r2 [0]) (b 0 (w l1))) (s (d gn [4,5,20,21,22,23,73,74]) .ret))))
end J1
def J1:AFn:=⟨1,J1.c,[.tmp 2,.tmp 3],false⟩
namespace LA
def r0:=[o 7 (.box 900007 3)]
def r1:=[m 12 1,m 13 2,ia 14 3 12 13,q 15 [900008,900009] (.ld true 3 14),m 16 0,m 17 2,ia 18 3 16 17,
 q 19 [900008,900009,900008] (.ld true 3 18),o 8 (.alloc 900008 z3),o 9 (.alloc 900009 z3),
 n (.mq 900008 3 8 15),so 3 9 19]
def r2:=[m 20 2,m 10 20]
def r3:=[m 21 10,m 22 0,ln 23 22,ls 24 21 23]
def r5:=[m 27 0,m 28 10,ia 29 3 27 28,q 30 [900011] (.ld true 3 29),q 31 [900011] (.ld true 3 8),
 q 32 [900011] (.call 99 [30,31]),m 33 1,m 34 10,ia 35 3 33 34,q 36 [900011] (.ld true 3 35),
 q 37 [900011] (.ld true 3 9),q 38 [900011] (.call 99 [36,37]),q 39 [900011] (.call 150 [32,38]),
 o 11 (.alloc 900011 z3),so 3 11 39]
def r6:=[m 41 0,m 42 10,tt 43 3 11,tt 44 3 7,ca 45 100 [43,44],m 40 45,et 46 40 0,et 47 40 1,ia 48 3 41 42,
 so 3 48 46]
def r4:=[m 25 10,ad 26 25 k1,m 10 26]
def l1:=(s (s (d r3 [21,22,23]) (i 24 .skip (x 0))) (s (b 1 (s (e r5 (rl [24] 27 13)) (d r6 (rl [11] 40 9)))) (d r4 [25,26])))
def c:=(s (d r0 [3]) (s (e r1 (ra 12 8)) (s (d r2 [2,20]) (b 0 (w l1)))))
end LA
def LA:AFn:=⟨4,LA.c,[],false⟩
namespace J0
def r0:=[mv 4 k0,o 5 (.alloc 233005 z3),mv 6 kf]
def r1:=[mv 7 k0,mv 8 k0,mv 9 kf]
def r2:=[ca 13 96 [k1],o 10 (.alloc 233010 z3),so 3 10 13]
def r3:=[m 14 7,m 15 0,ln 16 15,ls 17 14 16]
def r4:=[m 18 8,m 19 1,ls 20 18 19]
def r6:=[m 23 7,m 11 23]
def r7:=[m 24 11,m 25 0,ln 26 25,ls 27 24 26]
def r9:=[m 30 0,m 31 11,ia 32 1 30 31,uu 33 1 32,m 34 8,ia 35 3 33 34,tt 36 3 35,ca 37 97 [36],
 bi 38 .neq 37 k0]
def B2:=[m 39 11,m 40 7,bi 41 .neq 39 40]
def B7:=[m 42 0,m 43 11,m 44 0,m 45 7,m 46 0,m 47 7,ia 48 1 46 47,uu 49 1 48,m 50 0,m 51 11,ia 52 1 50 51,
 uu 53 1 52,ia 54 1 42 43,so 1 54 49,ia 55 1 44 45,so 1 55 53]
def q9:=[m 56 9,nt 57 56,m 9 57]
def r8:=[m 28 11,ad 29 28 k1,m 11 29]
def r5:=[m 21 8,ad 22 21 k1,m 8 22]
def CG:=[m 58 8,m 59 1,bi 60 .geq 58 59]
def y7:=[m 61 7,ad 62 61 k1,m 12 62]
def ak:=[m 63 12,m 64 0,ln 65 64,ls 66 63 65]
def D7:=[m 69 0,m 70 12,ia 71 1 69 70,uu 72 1 71,m 73 0,m 74 7,ia 75 1 73 74,uu 76 1 75,m 77 8,
 tt 78 3 10,o 79 (.c9 900 [72,76,77,78])]
def br:=[m 67 12,ad 68 67 k1,m 12 68]
def bu:=[m 80 0,m 81 7,ia 82 1 80 81,uu 83 1 82,m 84 8,ia 85 3 83 84,tt 86 3 85,so 3 10 86]
def dj:=[m 87 7,ad 88 87 k1,m 7 88]
def gn:=[m 89 8,ad 90 89 k1,m 8 90]
def kn:=[m 91 7,tt 92 3 10,m 93 9,m 4 91,so 3 5 92,m 6 93]
def l3:=(s (s (d r7 [24,25,26]) (i 27 .skip (x 4))) (s (b 5 (s (d r9 (rl [27] 30 8)) (i 38 (s (s (d B2 [38,39,40]) (i 41 (s (e B7 (rl [11] 41 15)) (d q9 [56,57])) .skip)) (x 2)) .skip))) (d r8 [28,29,38])))
def l2:=(s (s (d r4 [17,18,19]) (i 20 .skip (x 2))) (s (b 3 (s (d r6 [20,23]) (b 4 (w l3)))) (d r5 [11,21,22,27])))
def l4:=(s (s (d ak [63,64,65]) (i 66 .skip (x 6))) (s (b 7 (e D7 (rl [66] 69 11))) (d br [67,68])))
def l1:=(s (s (d r3 [14,15,16]) (i 17 .skip (x 0))) (b 1 (.scope (s .skip (s (b 2 (w l2)) (s (s (d CG [11,20,41,58,59]) (i 60 (x 0) .skip)) (s (s (d y7 [60,61,62]) (b 6 (w l4))) (s (d bu (rl [12,66] 80 7)) (s (d dj [87,88]) (d gn [89,90]))))))))))
def c:=(s (d r0 [4,6]) (s (p r1) (s (d r2 [13]) (s (b 0 (w l1)) (s (e kn [0,1,7,8,9,10,17,60,91,92,93]) .ret)))))
end J0
def J0:AFn:=⟨2,J0.c,[.tmp 4,.cell 5 true 3,.tmp 6],false⟩
namespace K8
def r0:=[bx 5 2,mv 6 (.c .nil)]
def r1:=[m 11 0,ln 12 11,o 13 (.mk 13 3 56 z3 12 12),m 7 13]
def r2:=[m 14 0,ln 15 14,sb 16 15 k1,m 8 16]
def r3:=[m 17 8,bi 18 .geq 17 k0]
def r5:=[m 21 0,m 22 8,ia 23 1 21 22,q 24 [9] (.ld false 1 23),m 25 1,ia 26 3 24 25,q 27 [9] (.ld true 3 26),
 q 28 [9] (.ld true 3 5),q 29 [9] (.call 99 [27,28]),al 9 z3,so 3 9 29]
def r6:=[m 30 8,ad 31 30 k1,m 10 31]
def r7:=[m 32 10,m 33 0,ln 34 33,ls 35 32 34]
def r9:=[tt 38 3 9,m 39 0,m 40 8,ia 41 1 39 40,uu 42 1 41,m 43 10,ia 44 3 42 43,tt 45 3 44,m 46 7,
 m 47 10,ia 48 3 46 47,tt 49 3 48,ca 50 99 [45,49],ca 51 150 [38,50],so 3 9 51]
def r8:=[m 36 10,ad 37 36 k1,m 10 37]
def B2:=[m 53 7,m 54 8,tt 55 3 9,m 56 0,m 57 8,ia 58 1 56 57,uu 59 1 58,m 60 8,ia 61 3 59 60,tt 62 3 61,
 ca 63 100 [55,62],m 52 63,et 64 52 0,et 65 52 1,ia 66 3 53 54,so 3 66 64]
def r4:=[m 19 8,sb 20 19 k1,m 8 20]
def B7:=[m 67 7,m 6 67]
def l2:=(s (s (d r7 [32,33,34]) (i 35 .skip (x 2))) (s (b 3 (e r9 (rl [35] 38 14))) (d r8 [36,37])))
def l1:=(s (s (d r3 [17]) (i 18 .skip (x 0))) (s (b 1 (s (e r5 (rl [18] 21 9)) (s (s (d r6 [30,31]) (b 2 (w l2))) (e B2 (rl [9,10,35] 52 15))))) (d r4 [19,20])))
def c:=(s (d r0 [2,6]) (s (d r1 [11,12,13]) (s (s (d r2 [14,15,16]) (b 0 (w l1))) (s (d B7 [0,1,5,7,8,18,67]) .ret))))
end K8
def K8:AFn:=⟨3,K8.c,[.tmp 6],false⟩
namespace K9
def r0:=[mv 4 (.c .nil),mv 5 k0]
def r1:=[m 19 0,ln 20 19,m 6 20]
def r2:=[m 21 6,o 22 (.mk 22 1 24 [.nil] 21 21),m 7 22]
def r3:=[m 23 7,ln 24 23,mv 25 k0]
def r4:=[ls 26 25 24]
def r5:=[m 27 25,m 8 27]
def r6:=[m 28 7,m 29 8,m 30 0,m 31 8,ia 32 1 30 31,uu 33 1 32,m 34 1,m 35 8,ia 36 1 34 35,uu 37 1 36,
 o 38 (.b9 38 1 [33,37]),ca 39 228 [38],ia 40 1 28 29,so 1 40 39]
def r7:=[ad 41 25 k1,m 25 41]
def r8:=[m 43 7,o 44 (.c9 231 [43]),m 42 44,et 45 42 0,et 46 42 1,m 9 45,m 10 46]
def r9:=[m 48 9,m 49 6,o 50 (.c9 233 [48,49]),m 47 50,et 51 47 0,et 52 47 1,et 53 47 2,al 12 z3,
 m 11 51,so 3 12 52,m 13 53]
def B2:=[m 54 11,m 55 6,ls 56 54 55]
def B7:=[mv 4 (.c .nil),mv 5 (k 11)]
def q9:=[m 57 6,o 58 (.mk 58 1 24 [.nil] 57 57),m 14 58]
def CG:=[m 59 14,ln 60 59,mv 61 k0]
def y7:=[ls 62 61 60]
def ak:=[m 63 61,m 15 63]
def br:=[m 64 14,m 65 15,m 66 1,m 67 15,ia 68 1 66 67,uu 69 1 68,ln 70 69,o 71 (.mk 71 3 56 z3 70 70),
 ia 72 1 64 65,so 1 72 71]
def D7:=[ad 73 61 k1,m 61 73]
def bu:=[m 74 1,ia 75 1 74 k0,uu 76 1 75,ln 77 76,mv 78 k0]
def dj:=[ls 79 78 77]
def gn:=[m 80 78,m 16 80]
def kn:=[m 81 9,m 82 6,m 83 16,ad 84 82 83,tt 85 3 12,ca 86 234 [81,84,85],ln 87 86,mv 88 k0]
def mo:=[ls 89 88 87]
def rb:=[m 90 88,ia 91 3 86 88,tt 92 3 91,al 18 z3,m 17 90,so 3 18 92]
def JB:=[m 94 14,m 95 17,ia 96 1 94 95,uu 97 1 96,m 98 16,tt 99 3 18,tt 100 3 12,ca 101 100 [99,100],m 93 101,
 et 102 93 0,et 103 93 1,ia 104 3 97 98,so 3 104 102]
def JC:=[ad 105 88 k1,m 88 105]
def L7:=[ad 106 78 k1,m 78 106]
def L8:=[m 107 14,m 4 107,mv 5 k0]
def l1:=(s (p r4) (s (i 26 .skip (x 0)) (s (b 1 (s (d r5 [26,27]) (e r6 (rl [8] 28 13)))) (d r7 [41]))))
def l2:=(s (p y7) (s (i 62 .skip (x 2)) (s (b 3 (s (d ak [62,63]) (d br (rl [15] 64 9)))) (d D7 [73]))))
def l4:=(s (p mo) (s (i 89 .skip (x 6)) (s (b 7 (s (d rb (ra 89 4)) (e JB (rl [17,18] 93 12)))) (d JC [105]))))
def l3:=(s (p dj) (s (i 79 .skip (x 4)) (s (b 5 (s (d gn [79,80]) (s (d kn (ra 81 5)) (b 6 (w l4))))) (d L7 [16,86,87,88,89,106]))))
def c:=(s (d r0 [4,5]) (s (d r1 [19,20]) (s (d r2 [21,22]) (s (s (d r3 [23]) (b 0 (w l1))) (s (d r8 (rl [0,7,10,24,25,26] 42 5)) (s (d r9 (rl [13] 47 7)) (s (s (d B2 [11,54,55]) (i 56 (s (d B7 [1,6,9,12,56]) .ret) .skip)) (s (d q9 [56,57,58]) (s (s (d CG [59]) (b 2 (w l2))) (s (s (d bu [1,60,61,62,74,75,76]) (b 4 (w l3))) (s (d L8 [6,9,12,14,77,78,79,107]) .ret)))))))))))
end K9
def K9:AFn:=⟨2,K9.c,[.tmp 4,.tmp 5],false⟩
namespace K7
def r0:=[mv 4 (.c .nil),mv 5 k0]
def r1:=[m 13 0,ca 14 229 [13],nt 15 14]
def r2:=[mv 4 (.c .nil),mv 5 (k 2)]
def r3:=[m 16 0,ia 17 1 16 k0,uu 18 1 17,ln 19 18,m 20 0,ln 21 20,bi 22 .neq 19 21,m 23 22,g 24 23 false (.n0 1),
 g 25 23 false (.len 24),g 26 23 false (.n0 0),g 27 23 false (.len 26),g 28 23 false (.bin .neq 25 27),pk 29 23 kt 28]
def r4:=[mv 4 (.c .nil),mv 5 k1]
def r5:=[m 30 1,ln 31 30,o 32 (.mk 32 1 24 [.nil] 31 31),m 6 32]
def r6:=[m 33 1,ln 34 33,mv 35 k0]
def r7:=[ls 36 35 34]
def r8:=[m 37 35,ia 38 3 33 35,tt 39 3 38,al 8 z3,m 7 37,so 3 8 39]
def r9:=[m 40 6,m 41 7,tt 42 3 8,o 43 (.b9 43 3 [42]),ia 44 1 40 41,so 1 44 43]
def B2:=[ad 45 35 k1,m 35 45]
def B7:=[m 47 0,m 48 6,ca 49 235 [47,48],m 46 49,et 50 46 0,et 51 46 1,m 9 50,m 10 51]
def q9:=[m 52 10,bi 53 .neq 52 k0]
def CG:=[m 54 10,mv 4 (.c .nil),m 5 54]
def y7:=[m 55 9,ln 56 55,o 57 (.mk 57 3 56 z3 56 56),m 11 57]
def ak:=[m 58 9,ln 59 58,mv 60 k0]
def br:=[ls 61 60 59]
def D7:=[m 62 60,m 12 62]
def bu:=[m 63 11,m 64 12,m 65 9,m 66 12,ia 67 1 65 66,uu 68 1 67,ia 69 3 68 k0,tt 70 3 69,
 ia 71 3 63 64,so 3 71 70]
def dj:=[ad 72 60 k1,m 60 72]
def gn:=[m 73 11,m 4 73,mv 5 k0]
def l1:=(s (p r7) (s (i 36 .skip (x 0)) (s (b 1 (s (d r8 (ra 36 4)) (d r9 (rl [7,8] 40 5)))) (d B2 [45]))))
def l2:=(s (p br) (s (i 61 .skip (x 2)) (s (b 3 (s (d D7 [61,62]) (d bu (rl [12] 63 9)))) (d dj [72]))))
def c:=(s (d r0 [4,5]) (s (s (d r1 [13,14]) (i 15 (s (d r2 [0,1,15]) .ret) .skip)) (s (s (d r3 (ra 15 14)) (i 29 (s (d r4 [0,1,29]) .ret) .skip)) (s (d r5 (ra 29 4)) (s (s (d r6 [1]) (b 0 (w l1))) (s (d B7 (rl [0,6,33,34,35,36] 46 6)) (s (s (d q9 [52]) (i 53 (s (d CG [9,10,53,54]) .ret) .skip)) (s (d y7 [10,53,55,56,57]) (s (s (d ak [58]) (b 2 (w l2))) (s (d gn [9,11,59,60,61,73]) .ret))))))))))
end K7
def K7:AFn:=⟨2,K7.c,[.tmp 4,.tmp 5],false⟩
structure o4 (L:Lib):Prop extends w9 L,z8 L where
 NU:L 227=some F.NU
 NT:L 228=some F.NT
 I5:L 229=some F.I5
 J1:L 231=some F.J1
 LA:L 900=some F.LA
 J0:L 233=some F.J0
 K8:L 234=some F.K8
 K9:L 235=some F.K9
 K7:L 237=some F.K7
end Go.b8.F

namespace Go.b8.F
open C
namespace JD
def r0:=[bx 1 0,al 2 z3]
def r1:=[fa 3 1 0,fa 4 3 1,uu 5 1 4,o 6 (.build [(.bool false),.nil] [(1,1,5)]),fa 7 1 2,uu 8 1 7,
 o 9 (.build z3 [(0,2,6),(2,1,8)]),ca 10 95 [9],so 3 2 10]
def c:=(s (d r0 [0]) (s (d r1 (rl [1] 3 8)) .ret))
end JD
def JD:AFn:=⟨1,JD.c,[.cell 2 true 3],false⟩
namespace L4
def r0:=[bx 1 0,al 2 z3,al 3 z3]
def r1:=[o 5 (.b9 5 1 [(.c (.int .u32 (1)))]),m 4 5]
def r2:=[fa 6 1 0,tt 7 2 6,m 8 4,o 9 (.build z3 [(0,2,7),(2,1,8)]),fa 10 1 2,
 q 11 [2] (.ld false 1 10),o 12 (.build [(.bool false),.nil] [(1,1,11)]),m 13 4,
 o 14 (.build z3 [(0,2,12),(2,1,13)]),n (.mq 2 3 2 9),so 3 3 14]
def c:=(s (d r0 [0]) (s (d r1 [5]) (s (e r2 (rl [1,4] 6 9)) .ret)))
end L4
def L4:AFn:=⟨1,L4.c,[.cell 2 true 3,.cell 3 true 3],false⟩
namespace L3
def r0:=[bx 2 0,bx 3 1,al 4 z3]
def r1:=[tt 11 3 2,ca 12 97 [11],bi 13 .eql 12 k0]
def r2:=[tt 14 3 3,ca 15 256 [14],so 3 4 15]
def r3:=[tt 17 3 2,tt 18 3 3,ca 19 100 [17,18],m 16 19,et 20 16 0,et 21 16 1,al 5 z3,
 so 3 5 20,m 6 21]
def r4:=[m 22 6,bi 23 .neq 22 k0]
def r5:=[tt 24 3 2,so 3 4 24]
def r6:=[tt 26 3 5,ca 27 257 [26],m 25 27,et 28 25 0,et 29 25 1,al 7 z3,
 al 8 z3,so 3 7 28,so 3 8 29]
def r7:=[tt 31 3 2,tt 32 3 7,ca 33 100 [31,32],m 30 33,et 34 30 0,et 35 30 1,al 9 z3,
 so 3 9 34,m 10 35]
def r8:=[tt 36 3 9,ca 37 256 [36],so 3 4 37]
def c:=(s (d r0 [0,1]) (s (s (d r1 [11,12]) (i 13 (s (d r2 [2,3,13,14,15]) .ret) .skip)) (s (d r3 (rl [3,13] 16 6)) (s (s (d r4 [6,22]) (i 23 (s (d r5 [2,5,23,24]) .ret) .skip)) (s (d r6 (rl [5,8,23] 25 5)) (s (d r7 (rl [2,7,10] 30 6)) (s (d r8 [9,36,37]) .ret)))))))
end L3
def L3:AFn:=⟨2,L3.c,[.cell 4 true 3],false⟩
namespace L5
def r0:=[al 2 z3,mv 3 (.c .nil)]
def r1:=[m 10 0,o 11 (.c9 169 [10]),m 0 11]
def r2:=[ca 12 96 [k0],al 4 z3,so 3 4 12]
def r3:=[m 13 0,ln 14 13,mv 15 k0]
def r4:=[ls 16 15 14]
def r5:=[ia 17 3 13 15,tt 18 3 17,al 6 z3,so 3 6 18]
def r6:=[tt 19 3 4,tt 20 3 6,ca 21 258 [19,20],so 3 4 21]
def r7:=[ad 22 15 k1,m 15 22]
def r8:=[m 23 0,ln 24 23,o 25 (.mk 25 3 56 z3 24 24),m 7 25]
def r9:=[m 26 0,ln 27 26,mv 28 k0]
def B2:=[ls 29 28 27]
def B7:=[m 30 28,ia 31 3 26 28,tt 32 3 31,al 9 z3,m 8 30,so 3 9 32]
def q9:=[m 34 7,m 35 8,tt 36 3 9,tt 37 3 4,ca 38 100 [36,37],m 33 38,et 39 33 0,et 40 33 1,ia 41 3 34 35,
 so 3 41 39]
def CG:=[ad 42 28 k1,m 28 42]
def y7:=[tt 43 3 4,m 44 7,so 3 2 43,m 3 44]
def l1:=(s (p r4) (s (i 16 .skip (x 0)) (s (b 1 (s (d r5 [16,17,18]) (d r6 [6,19,20,21]))) (d r7 [22]))))
def l2:=(s (p B2) (s (i 29 .skip (x 2)) (s (b 3 (s (d B7 (ra 29 4)) (d q9 (rl [8,9] 33 9)))) (d CG [42]))))
def c:=(s (d r0 [3]) (s (d r1 [10,11]) (s (d r2 [12]) (s (s (p r3) (b 0 (w l1))) (s (d r8 [13,14,15,16,23,24,25]) (s (s (d r9 [0]) (b 2 (w l2))) (s (d y7 [4,7,26,27,28,29,43,44]) .ret)))))))
end L5
def L5:AFn:=⟨1,L5.c,[.cell 2 true 3,.tmp 3],false⟩
namespace L1
def r0:=[bx 3 1,al 4 z3]
def r1:=[m 16 0,ca 17 259 [16],m 15 17,et 18 15 0,et 19 15 1,al 5 z3,so 3 5 18,m 6 19]
def r2:=[tt 20 3 3,ca 21 95 [20],so 3 3 21]
def r3:=[tt 23 3 3,ca 24 257 [23],m 22 24,et 25 22 0,et 26 22 1,al 7 z3,
 al 8 z3,so 3 7 25,so 3 8 26]
def r4:=[ca 27 96 [k0],ca 28 96 [k1],al 9 z3,al 10 z3,so 3 9 27,
 so 3 10 28]
def r5:=[m 29 6,ln 30 29,mv 31 k0]
def r6:=[ls 32 31 30]
def r7:=[m 33 31,m 11 33]
def r8:=[m 34 11,bi 35 .gtr 34 k0]
def r9:=[tt 36 3 10,tt 37 3 8,ca 38 99 [36,37],so 3 10 38]
def B2:=[m 39 6,m 40 6,ln 41 40,sb 42 41 k1,m 43 11,sb 44 42 43,ia 45 3 39 44,tt 46 3 45,
 al 12 z3,so 3 12 46]
def B7:=[tt 47 3 9,tt 48 3 7,ca 49 99 [47,48],tt 50 3 12,tt 51 3 10,ca 52 99 [50,51],
 ca 53 98 [49,52],so 3 9 53]
def q9:=[ad 54 31 k1,m 31 54]
def CG:=[tt 56 3 9,tt 57 3 10,ca 58 100 [56,57],m 55 58,et 59 55 0,et 60 55 1,al 13 z3,
 so 3 13 59,m 14 60]
def y7:=[tt 61 3 5,tt 62 3 13,ca 63 99 [61,62],so 3 4 63]
def l1:=(s (p r6) (s (i 32 .skip (x 0)) (s (b 1 (s (d r7 [32,33]) (s (s (d r8 [34]) (i 35 (d r9 (ra 35 4)) .skip)) (s (d B2 (rl [11,35] 39 8)) (e B7 (rl [12] 47 7)))))) (d q9 [54]))))
def c:=(s (d r0 [1]) (s (d r1 (rl [0] 15 5)) (s (d r2 [20,21]) (s (d r3 (rl [3] 22 5)) (s (d r4 [27,28]) (s (s (d r5 [29]) (b 0 (w l1))) (s (d CG (rl [6,7,8,9,10,14,30,31,32] 55 6)) (s (d y7 [5,13,61,62,63]) .ret))))))))
end L1
def L1:AFn:=⟨2,L1.c,[.cell 4 true 3],false⟩
structure w8 (L:Lib):Prop extends z8 L where
 JD:L 256=some F.JD
 L4:L 257=some F.L4
 L3:L 258=some F.L3
 L5:L 259=some F.L5
 L1:L 260=some F.L1
end Go.b8.F
