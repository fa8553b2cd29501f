/-
  The abstract machine: data without memory. AV: a value; slices that are only read are lists ('sl'), rows and boxes of the call's own are named by a site and a stamp.
  Nothing here speaks of a program; EngSound ties it to the model.
-/
import Derived.Calls
set_option linter.unusedSimpArgs false
set_option linter.unusedVariables false
set_option linter.unnecessarySimpa false
namespace Go.c8
theorem zE {α : Type} {l : List α} {i : Nat} (h : i < l.length) : l[i]? = some l[i] :=
 List.getElem?_eq_getElem h
theorem zS {α : Type} {l : List α} {i : Nat} {a : α} (h : l[i]? = some a) : ∃ h : i < l.length, l[i] = a :=
 List.getElem?_eq_some_iff.1 h
theorem zM {α : Type} {l : List α} {i : Nat} {a : α} (h : l[i]? = some a) : a ∈ l :=
 List.mem_of_getElem? h
theorem zR {m n : Nat} (k : Nat) (h : m <= n) : m * k <= n * k :=
 Nat.mul_le_mul_right k h
theorem zT {α : Type} {l : List α} {i : Nat} (h : l.length <= i) : l.take i = l :=
 List.take_of_length_le h
end Go.c8
namespace Go.c8
inductive AV where
 | int (k:IntKind) (n:Int)
 | bool (b:Bool)
 | sl (l:Bool) (es:List (List AV))
 | row (s t z off len:Nat)
 | nil
 | ptr (s t i j:Nat)
 | n7 (cs:List AV)
 | agg (cs:List AV)
 | e7 (vs:List AV)
 | w6 (v:Value)
 | fn (p:Bool) (f g:Nat) (cs:List AV)
 | any
 deriving Inhabited
inductive AM where
 | t (n:Nat)
 | c (v:AV)
 deriving Inhabited
structure C6 where
 a4:Nat
 es:List (List AV)
structure BO where
 c9:Nat
 c7:Nat->Option C6
def AE:=Nat->BO
def AE.emp:AE:=λ_=>⟨0,λ_=>none⟩
def AE.put (o:AE) (s:Nat) (x:BO):AE:=λ s'=>if s'=s then x else o s'
def AE.get (o:AE) (s t:Nat):Option C6:=(o s).c7 t
def AE.c9 (o:AE) (s:Nat):Nat:=(o s).c9
def BO.m9 (x:BO) (t:Nat) (b:Option C6):BO:=⟨x.c9,λ t'=>if t'=t then b else x.c7 t'⟩
def BO.new (x:BO) (b:C6):BO:=⟨x.c9+1,λ t'=>if t'=x.c9 then some b else x.c7 t'⟩
theorem AE.g7 (o:AE) (s:Nat) (x:BO):o.put s x s=x:=by simp [AE.put]
theorem AE.bm (o:AE) (s s':Nat) (x:BO) (h:s'≠s):o.put s x s'=o s':=by simp [AE.put,h]
theorem AE.ju (o:AE) (s:Nat) (x y:BO):(o.put s x).put s y=o.put s y:=by
 funext s';by_cases h:s'=s<;>simp [AE.put,h]
inductive C2 where
 | m8 (x:AM)
 | u9 (s a4:Nat)
 | pick (c a b:AM)
 | bin (op:BinOp) (x y:AM)
 | beq (ne:Bool) (x y:AM)
 | un (op:UnOp) (x:AM)
 | conv (k:IntKind) (x:AM)
 | box (s:Nat) (x:AM)
 | alloc (s:Nat) (zero:List AV)
 | build (zero:List AV) (parts:List (Nat × Nat × AM))
 | b9 (s a4:Nat) (parts:List AM)
 | m4 (x:AM) (off:Nat)
 | gu (x:AM) (off n:Nat) (agg:Bool)
 | o6 (arr:Option Nat) (a4:Nat) (x i:AM)
 | ld (agg:Bool) (n:Nat) (x:AM)
 | st (n:Nat) (x v:AM)
 | mk (s a4 bytes:Nat) (zero:List AV) (l c:AM)
 | de (a4:Nat) (x:AM) (lo hi:Option AM)
 | ext (x:AM) (i:Nat)
 | len (x:AM)
 | mm (max:Bool) (xs:List AM)
 | app (s a4 bytes:Nat) (x y:AM)
 | call (f:Nat) (xs:List AM)
 | c4 (f:Nat) (xs:List AM)
 | kn (ne:Bool) (x:AM)
 | bn (tb:List Nat) (x:AM)
 | jb (p:Bool) (f:Nat) (xs:List AM)
 | l8 (x:AM) (xs:List AM)
 | l7 (f:Nat) (xs:List AM)
 | il (s n:Nat) (x v:AM)
 | n6 (s f:Nat) (xs:List AM)
 | w5 (s f:Nat) (xs:List AM)
 | bad
 deriving Inhabited
structure AI where
 dst:Option Nat
 op:C2
 guard:Option (Nat × Bool):=none
 a7:List Nat:=[]
 deriving Inhabited
inductive A8 where
 | skip
 | ops (l:List AI) (draw:Bool)
 | dr (c:A8) (ts ss:List Nat)
 | scope (c:A8)
 | seq (a b:A8)
 | cond (c:AM) (a b:A8)
 | block (id:Nat) (c:A8)
 | loop (c:A8)
 | exit (id:Nat)
 | ret
 deriving Inhabited
inductive HU where
 | tmp (t:Nat)
 | cell (t:Nat) (agg:Bool) (n:Nat)
 deriving Inhabited
structure AFn where
 u6:Nat
 body:A8
 res:List HU
 je:Bool
abbrev Tm:=List (Nat × AV)
def c6:Tm->Nat->AV
 | [],_ => .any
 | (i,v)::r,j=>if j=i then v else c6 r j
def df:Tm->Nat->AV->Tm
 | [],j,u=>[(j,u)]
 | (i,v)::r,j,u=>if j=i then (i,u)::r else if j<i then (j,u)::(i,v)::r else (i,v)::df r j u
def q9:Tm->List Nat->Tm
 | [],_=>[]
 | (i,v)::r,l=>if l.contains i then q9 r l else (i,v)::q9 r l
theorem S1 (m:Tm) (i:Nat) (v:AV) (j:Nat):c6 (df m i v) j=if j=i then v else c6 m j:=by
 induction m with
 | nil=>by_cases h:j=i<;>simp [df,c6,h]
 | cons x r ih =>
  obtain ⟨a,u⟩:=x;by_cases h:i=a
  ·subst h
   by_cases h2:j=i<;>simp [df,c6,h2]
  ·by_cases k6:i<a
   ·by_cases h2:j=i<;>simp [df,c6,h,k6,h2]
   ·by_cases h2:j=a
    ·subst h2
     have : ¬ j=i:=λ e=>h e.symm
     simp [df,c6,h,k6,this]
    ·simp [df,c6,h,k6,h2,ih]
structure St where
 tm:Tm
 own:AE
def St.ev (st:St):AM->AV
 | .t n=>c6 st.tm n
 | .c v=>v
inductive BM where
 | val (v:AV)
 | new (s:Nat) (b:C6) (v:Nat->AV)
 | qb (s:Nat) (b:C6) (v:Nat->AV)
 | aj (v:AV) (own:AE)
 | m9 (s:Nat) (x:BO)
 | og (s:Nat) (x:BO) (v:AV)
 | ru (s:Nat) (v:AV) (own:AE)
def cellsOf:AV->Option (List AV)
 | .agg cs=>some cs
 | .fn _ _ _ _=>none
 | .e7 _=>none
 | .any=>none
 | v=>some [v]
def IV (agg:Bool) (cs:List AV):Option AV :=
 if agg then some (.agg cs) else match cs with|[c]=>some c|_=>none
def part (cs:List AV) (off n:Nat):Option (List AV) :=
 if off+n<=cs.length then some ((cs.drop off).take n) else none
def splice (cs:List AV) (off:Nat) (vs:List AV):List AV:=cs.take off++vs++cs.drop (off+vs.length)
def fill (cells:List AV):List (Nat × Nat × AV)->Option (List AV)
 | []=>some cells
 | (off,n,v)::r=>match cellsOf v with
  | some vs=>if vs.length=n/\off+n<=cells.length then fill (splice cells off vs) r else none
  | none=>none
def CD (op:BinOp) (k:IntKind) (a:Int) (k':IntKind) (b:Int):Option AV :=
 match op with
 | .shl=>if b<0 then none else some (.int k (k.wrap (a*2^(min b.toNat k.bits))))
 | .shr=>if b<0 then none else some (.int k (a.fdiv (2^(min b.toNat k.bits))))
 | .add=>if k=k' then some (.int k (k.wrap (a+b))) else none
 | .sub=>if k=k' then some (.int k (k.wrap (a-b))) else none
 | .mul=>if k=k' then some (.int k (k.wrap (a*b))) else none
 | .quo=>if k=k'/\b≠0 then some (.int k (k.wrap (a.tdiv b))) else none
 | .rem=>if k=k'/\b≠0 then some (.int k (a.tmod b)) else none
 | .and=>if k=k' then some (.int k (k.wrap (BitVec.ofInt k.bits a &&& BitVec.ofInt k.bits b).toNat)) else none
 | .or=>if k=k' then some (.int k (k.wrap (BitVec.ofInt k.bits a ||| BitVec.ofInt k.bits b).toNat)) else none
 | .xor=>if k=k' then some (.int k (k.wrap (BitVec.ofInt k.bits a ^^^ BitVec.ofInt k.bits b).toNat)) else none
 | .andNot=>if k=k' then some (.int k (k.wrap (BitVec.ofInt k.bits a &&& ~~~ BitVec.ofInt k.bits b).toNat)) else none
 | .eql=>if k=k' then some (.bool (a == b)) else none
 | .neq=>if k=k' then some (.bool (a != b)) else none
 | .lss=>if k=k' then some (.bool (decide (a<b))) else none
 | .leq=>if k=k' then some (.bool (decide (a<=b))) else none
 | .gtr=>if k=k' then some (.bool (decide (a>b))) else none
 | .geq=>if k=k' then some (.bool (decide (a≥b))) else none
def NZ (op:UnOp):AV->Option AV
 | .int k n=>match op with
  | .neg=>some (.int k (k.wrap (0-n)))
  | .xor=>some (.int k (k.wrap (BitVec.ofInt k.bits (if k.signed then -1 else k.max) ^^^ BitVec.ofInt k.bits n).toNat))
  | _=>none
 | .bool b=>match op with
  | .not=>some (.bool (!b))
  | _=>none
 | _=>none
def MT (max:Bool):AV->AV->Option AV
 | .int k a,.int _ b=>some (.int k (if max then (if b>a then b else a) else (if b<a then b else a)))
 | _,_=>none
def IU (max:Bool):AV->List AV->Option AV
 | v,[]=>some v
 | v,u::r=>match MT max v u with|some x=>IU max x r|none=>none
def AE.j9 (o:AE):List Nat->AE
 | []=>o
 | s::r=>λ s'=>if s'=s then ⟨0,λ_=>none⟩ else o.j9 r s'
def AE.ja (own:AE) (s t i j n:Nat):Option (List AV) :=
 match own.get s t with
 | some b=>match b.es[i]? with
  | some cs=>part cs j n
  | none=>none
 | none=>none
def AE.gp (own:AE) (s t i j:Nat) (vs:List AV):Option AE :=
 match own.get s t with
 | some b=>match b.es[i]? with
  | some cs=>if j+vs.length<=cs.length then some (own.put s ((own s).m9 t (some ⟨b.a4,b.es.set i (splice cs j vs)⟩))) else none
  | none=>none
 | none=>none
def DS (own:AE):AV->Option (List (List AV))
 | .sl _ es=>some es
 | .nil=>some []
 | .w6 (.bool _)=>some []
 | .row s t z off len=>match own.get s t with
  | some b=>if off+len<=b.es.length/\b.a4=z then some ((b.es.drop off).take len) else none
  | none=>none
 | _=>none
def MQ:AV->Option Nat
 | .sl _ es=>some es.length
 | .nil=>some 0
 | .row _ _ _ _ len=>some len
 | _=>none
def snap (own:AE) (l:Bool):Nat->AV->Option AV
 | _,.int k n=>some (.int k n)
 | _,.bool b=>some (.bool b)
 | _,.sl l' es=>some (.sl l' es)
 | _,.nil=>some (.sl false [])
 | _,.w6 v=>some (.w6 v)
 | d+1,.row s t z off len=>match DS own (.row s t z off len) with
  | some es=>(es.mapM (λ cs:List AV=>cs.mapM (snap own l d))).map (AV.sl l)
  | none=>none
 | _,_=>none
def CB (own:AE) (l:Bool):AV->Option AV
 | .agg cs=>(cs.mapM (snap own l 6)).map AV.agg
 | v=>snap own l 6 v
def MB (own:AE) (l:Bool):AV->Option AV
 | .nil=>some .nil
 | v=>CB own l v
def NW (own:AE) (l:Bool):AV->Option AV
 | .e7 cs=>(cs.mapM (CB own l)).map AV.e7
 | v=>CB own l v
mutual
def AZ:AV->Prop
 | .int _ _=>True
 | .bool _=>True
 | .w6 _=>True
 | .sl l es=>l=false/\FB es
 | .agg cs=>CG cs
 | .e7 cs=>CG cs
 | _=>False
def CG:List AV->Prop
 | []=>True
 | c::r=>AZ c/\CG r
def FB:List (List AV)->Prop
 | []=>True
 | c::r=>CG c/\FB r
end
def FF:Nat:=140737488355328
structure Cl where
 pure:Nat->List AV->Option AV
 y6:Nat->List AV->AE->Option (AV × AE)
 num:Nat->Nat
noncomputable def TR (C:Cl) (f:Nat) (vs:List AV) (s:Nat) (q:BO):Option (AV × BO) :=
 open Classical in if h : ∃ p : AV × BO, ∀ o : AE, o s = q -> C.y6 f vs o = some (p.1, o.put s p.2) then some h.choose else none
theorem TS {C:Cl} {f:Nat} {vs:List AV} {s:Nat} {q:BO} {p:AV × BO}:TR C f vs s q=some p ↔ ∀ o:AE,o s=q->C.y6 f vs o=some (p.1,o.put s p.2):=by
 unfold TR;constructor
 ·intro h
  split at h
  ·rename_i hx
   obtain rfl:=Option.some.inj h;exact hx.choose_spec
  ·cases h
 ·intro h
  rw[dif_pos ⟨p,h⟩];have h1:=(⟨p,h⟩ : ∃ p:AV × BO,∀ o:AE,o s=q->C.y6 f vs o=some (p.1,o.put s p.2)).choose_spec (λ_=>q) rfl;have h2:=h (λ_=>q) rfl;have h3:=Option.some.inj (h2.symm.trans h1);refine congrArg some ?_;generalize (Exists.choose _:AV × BO)=p' at h3;obtain ⟨a,b⟩:=p;obtain ⟨a',b'⟩:=p';simp only[Prod.mk.injEq]at h3;obtain ⟨h4,h5⟩:=h3;have h6:b=b':=by
   have:=congrFun h5 s
   simpa [AE.put] using this
  rw[h4,h6]
noncomputable def LY (C:Cl) (f:Nat) (vs:List AV) (s:Nat) (own:AE):Option (AV × AE) :=
 open Classical in if h : ∃ p : AV × AE, ∀ o : AE, (∀ q, q ≠ s -> o q = own q) -> C.y6 f vs o = some (p.1, p.2.put s (o s)) then some (h.choose.1, h.choose.2.put s ⟨0, λ_ => none⟩) else none
theorem TQ {C:Cl} {f:Nat} {vs:List AV} {s:Nat} {own:AE} {p:AV × AE} (h:LY C f vs s own=some p):p.2 s=⟨0,λ_=>none⟩ /\ ∀ o:AE,(∀ q,q≠s->o q=own q)->C.y6 f vs o=some (p.1,p.2.put s (o s)):=by
 unfold LY at h;split at h
 ·rename_i hx
  obtain rfl:=Option.some.inj h;refine ⟨by simp [AE.put],λ o h2 => ?_⟩;rw[hx.choose_spec o h2];congr 2;funext q
  simp only[AE.put];split<;>rfl
 ·cases h
theorem TP {C:Cl} {f:Nat} {vs:List AV} {s:Nat} {own:AE} {p:AV × AE} (hp:p.2 s=⟨0,λ_=>none⟩) (h : ∀ o:AE,(∀ q,q≠s->o q=own q)->C.y6 f vs o=some (p.1,p.2.put s (o s))):LY C f vs s own=some p:=by
 have hex : ∃ p:AV × AE,∀ o:AE,(∀ q,q≠s->o q=own q)->C.y6 f vs o=some (p.1,p.2.put s (o s)):=⟨p,h⟩;unfold LY;rw[dif_pos hex];have h1:=hex.choose_spec own λ_ _=>rfl
 have h2:=h own λ_ _=>rfl
 have h3:=Option.some.inj (h2.symm.trans h1);simp only[Prod.mk.injEq]at h3;refine congrArg some (Prod.ext h3.1.symm ?_);funext q
 have h4:=congrFun h3.2 q;simp only[AE.put]at h4 ⊢;by_cases e:q=s
 ·subst e;simp [hp]
 ·simpa [e] using h4.symm
def QX:AV->AV
 | .sl _ es => .sl false es
 | .nil => .sl false []
 | v=>v
def oe:AV->AV
 | .agg cs => .agg (cs.map QX)
 | v=>QX v
def R6:AV->AV
 | .sl _ es => .sl true es
 | v=>v
def px:AV->AV
 | .agg cs => .agg (cs.map R6)
 | v=>R6 v
mutual
def FX:AV->AV
 | .sl _ es => .sl true (L8 es)
 | v=>v
def JT:List AV->List AV
 | []=>[]
 | c::r=>FX c::JT r
def L8:List (List AV)->List (List AV)
 | []=>[]
 | c::r=>JT c::L8 r
end
def GZ:AV->AV
 | .agg cs => .agg (JT cs)
 | v=>FX v
def IQ:AV->AV
 | .e7 vs => .e7 (vs.map GZ)
 | v=>GZ v
def S6:AV->Prop
 | .e7 _=>False
 | .fn _ _ _ _=>False
 | _=>True
def N1:AV->Prop
 | .e7 vs => ∀ v∈vs,S6 v
 | v=>S6 v
def FD:AV->Bool
 | .int _ _=>true | .bool _=>true | .sl _ _=>true | .nil=>true
 | _=>false
def dq:AV->Bool
 | .agg cs=>cs.all FD
 | v=>FD v
def jF:AV->Bool
 | .int _ _=>true | .bool _=>true
 | _=>false
def Q4:AV->Prop
 | .int _ _=>True
 | .bool _=>True
 | .sl _ es => ∀ e∈es,∀ c∈e,jF c=true
 | _=>False
def HW:AV->Prop
 | .agg cs => ∀ c∈cs,Q4 c
 | v=>Q4 v
open Classical in
noncomputable def JU (r:AV):AV:=if HW r then px r else IQ r
theorem YH {r:AV} (h:HW r):JU r=px r:=if_pos h
theorem YG {r:AV} (h : ¬ HW r):JU r=IQ r:=if_neg h
def FQ:AV->Option AV
 | .agg _=>none
 | .fn _ _ _ _=>none
 | .e7 _=>none
 | .any=>none
 | v=>some v
open Classical in
noncomputable def LX (x:Option (AV × AE)):Option (Nat × List (List AV)):=match x with
 | some (.row s t z 0 n,o)=>match o.get s t with
  | some b=>if b.es.length=n/\FB b.es then some (z,b.es) else none
  | none=>none
 | _=>none
theorem pW {x:Option (AV × AE)} {z:Nat} {es:List (List AV)} (h:LX x=some (z,es)) : ∃ s t o b,x=some (.row s t z 0 es.length,o)/\o.get s t=some b/\b.es=es/\FB es:=by
 unfold LX at h;split at h
 ·split at h
  ·rename_i s t z' n o b hb
   split at h
   ·rename_i hc
    obtain ⟨rfl,hc⟩:=hc;simp only[Option.some.injEq,Prod.mk.injEq]at h;obtain ⟨rfl,rfl⟩:=h;exact ⟨_,_,_,_,rfl,hb,rfl,hc⟩
   ·cases h
  ·cases h
 ·cases h
open Classical in
noncomputable def c5 (C:Cl) (a7:List Nat) (ρ:AM->AV) (own:AE):C2->Option BM
 | .m8 x=>some (.val (ρ x))
 | .u9 s a4=>some (.qb s ⟨a4,[]⟩ (λ t => .row s t a4 0 0))
 | .pick c a b=>match ρ c with
  | .bool true=>some (.val (ρ a))
  | .bool false=>some (.val (ρ b))
  | _=>none
 | .bin op x y=>match ρ x,ρ y with
  | .int k a,.int k' b=>(CD op k a k' b).map .val
  | _,_=>none
 | .beq ne x y=>match ρ x,ρ y with
  | .bool a,.bool b=>some (.val (.bool (if ne then !(a == b) else a == b)))
  | _,_=>none
 | .un op x=>(NZ op (ρ x)).map .val
 | .conv k x=>match ρ x with
  | .int _ n=>some (.val (.int k (k.wrap n)))
  | _=>none
 | .box s x=>match cellsOf (ρ x) with
  | some cs=>some (.new s ⟨cs.length,[cs]⟩ (λ t => .ptr s t 0 0))
  | none=>none
 | .alloc s zero=>some (.new s ⟨zero.length,[zero]⟩ (λ t => .ptr s t 0 0))
 | .build zero parts=>(fill zero (parts.map λ p=>(p.1,p.2.1,ρ p.2.2))).map (λ cs => .val (.agg cs))
 | .b9 s a4 parts=>match parts.mapM (λ x=>cellsOf (ρ x)) with
  | some es=>if ∀ e∈es,e.length=a4 then some (.new s ⟨a4,es⟩ (λ t => .row s t a4 0 es.length)) else none
  | none=>none
 | .m4 x off=>match ρ x with
  | .ptr s t i j=>some (.val (.ptr s t i (j+off)))
  | .n7 cs=>some (.val (.n7 (cs.drop off)))
  | _=>none
 | .gu x off n agg=>match ρ x with
  | .agg cs=>match part cs off n with
   | some ds=>(IV agg ds).map .val
   | none=>none
  | _=>none
 | .o6 arr a4 x i=>match ρ i with
  | .int _ n=>match arr,ρ x with
   | some len,.ptr s t i' j=>if 0<=n/\n<len then some (.val (.ptr s t i' (j+n.toNat*a4))) else none
   | some len,.n7 cs=>if 0<=n/\n<len then some (.val (.n7 (cs.drop (n.toNat*a4)))) else none
   | none,.row s t z off len=>if 0<=n/\n<len/\z=a4 then some (.val (.ptr s t (off+n.toNat) 0)) else none
   | none,.sl _ es=>if 0<=n then match es[n.toNat]? with
     | some cs=>if cs.length=a4 then some (.val (.n7 cs)) else none
     | none=>none
    else none
   | _,_=>none
  | _=>none
 | .ld agg n x=>match ρ x with
  | .ptr s t i j=>match (own.j9 a7).ja s t i j n with
   | some cs=>(IV agg cs).map .val
   | none=>none
  | .n7 cs=>match part cs 0 n with
   | some ds=>(IV agg ds).map .val
   | none=>none
  | _=>none
 | .st n x v=>match ρ x,cellsOf (ρ v) with
  | .ptr s t i j,some vs=>if vs.length=n then (own.gp s t i j vs).map (BM.aj (.e7 [])) else none
  | _,_=>none
 | .mk s a4 bytes zero l c=>match ρ l,ρ c with
  | .int _ a,.int _ b=>if 0<=a/\a<=b/\b*bytes<=FF/\b<=9223372036854775807/\zero.length=a4 then some (.new s ⟨a4,List.replicate a.toNat zero⟩ (λ t => .row s t a4 0 a.toNat)) else none
  | _,_=>none
 | .de a4 x lo hi=>match ρ x with
  | .sl l es =>
   let h:Option Nat:=match hi with|none=>some es.length|some o=>match ρ o with | .int _ n=>if 0<=n/\n<=es.length then some n.toNat else none|_=>none
   let a:Option Nat:=match lo with|none=>some 0|some o=>match ρ o with | .int _ n=>if 0<=n then some n.toNat else none|_=>none
   match a,h with
   | some a,some h=>if a<=h /\ ∀ e∈es,e.length=a4 then some (.val (.sl l ((es.take h).drop a))) else none
   | _,_=>none
  | .nil =>
   let h:Option Nat:=match hi with|none=>some 0|some o=>match ρ o with | .int _ n=>if n=0 then some 0 else none|_=>none
   let a:Option Nat:=match lo with|none=>some 0|some o=>match ρ o with | .int _ n=>if n=0 then some 0 else none|_=>none
   match a,h with
   | some _,some _=>some (.val .nil)
   | _,_=>none
  | .row s t z off len =>
   let h:Option Nat:=match hi with|none=>some len|some o=>match ρ o with | .int _ n=>if 0<=n/\n<=len then some n.toNat else none|_=>none
   let a:Option Nat:=match lo with|none=>some 0|some o=>match ρ o with | .int _ n=>if 0<=n then some n.toNat else none|_=>none
   match a,h with
   | some a,some h=>if a<=h/\z=a4 then some (.val (.row s t z (off+a) (h-a))) else none
   | _,_=>none
  | _=>none
 | .ext x i=>match ρ x with
  | .e7 vs=>(vs[i]?).map .val
  | _=>none
 | .len x=>match MQ (ρ x) with
  | some n=>some (.val (.int .i64 (n:Int)))
  | none=>none
 | .mm max xs=>match xs.map ρ with
  | []=>none
  | v::r=>(IU max v r).map .val
 | .app s a4 bytes x y=>match DS own (ρ y) with
  | some ys=>if ∀ e∈ys,e.length=a4 then match ρ x with
    | .row s' t z 0 len=>match own.get s' t with
     | some b=>if b.a4=a4/\z=a4/\len<=b.es.length/\(len+ys.length)*bytes<=FF/\len+ys.length<=9223372036854775807 then
       some (.aj (.row s' (own.c9 s') a4 0 (len+ys.length)) (own.put s' (((own s').m9 t none).new ⟨a4,b.es.take len++ys⟩)))
      else none
     | none=>none
    | .nil=>if ys.length*bytes<=FF/\ys.length<=9223372036854775807 then
       some (.aj (.row s (own.c9 s) a4 0 ys.length) (own.put s ((own s).new ⟨a4,ys⟩))) else none
    | _=>none
   else none
  | none=>none
 | .call f xs=>match (xs.map ρ).mapM (CB (own.j9 a7) true) with
  | some vs=>(C.pure f vs).map .val
  | none=>none
 | .c4 f xs=>match a7 with
  | [s]=>(LY C f (xs.map ρ) s own).map (λ r => .ru s r.1 r.2)
  | _=>(C.y6 f (xs.map ρ) own).map (λ r => .aj r.1 r.2)
 | .kn ne x=>match ρ x with
  | .nil=>some (.val (.bool (xor true ne)))
  | .w6 (.bool b)=>some (.val (.bool (xor b ne)))
  | .sl _ (_::_)=>some (.val (.bool (xor false ne)))
  | .row _ _ _ _ (_+1)=>some (.val (.bool (xor false ne)))
  | _=>none
 | .bad=>none
 | .w5 s f xs=>(TR C f (xs.map ρ) s (own s)).map λ p => .og s p.2 p.1
 | .bn tb x=>match ρ x with
  | .int _ n=>if 0<=n then (match tb[n.toNat]? with
   | some v=>some (.val (.int .u8 v))
   | none=>none) else none
  | _=>none
 | .jb p f xs=>(xs.mapM (λ x=>FQ (ρ x))).map (λ cs => .val (.fn (p&&cs.isEmpty) f (C.num f) cs))
 | .l7 f xs=>if (xs.map ρ).all dq=true then (match C.pure f ((xs.map ρ).map oe) with
   | some r=>if HW r\/N1 r then some (.val (JU r)) else none
   | none=>none) else none
 | .il s n x v=>match ρ x,cellsOf (ρ v) with
  | .ptr s' t i j,some vs=>if s'=s/\vs.length=n then (own.gp s t i j vs).map (λ o'=>BM.m9 s (o' s)) else none
  | _,_=>none
 | .n6 s f xs=>match (xs.map ρ).mapM (MB (own.j9 a7) true) with
  | some vs=>(LX (C.y6 f vs AE.emp)).map (λ r => .new s ⟨r.1,r.2⟩ (λ t => .row s t r.1 0 r.2.length))
  | none=>none
 | .l8 x xs=>match ρ x with
  | .fn p f g cs=>if g=C.num f then (match p,cs with
   | true,[]=>(match (xs.map ρ).mapM (CB own true) with
    | some vs=>(C.pure f vs).map .val
    | none=>none)
   | false,cs=>(C.y6 f (xs.map ρ++cs) own).map (λ r => .aj r.1 r.2)
   | true,c::cs=>(match (AV.agg (c::cs)::xs.map ρ).mapM (CB own true) with
    | some vs=>(C.pure f vs).map .val
    | none=>none)) else none
  | _=>none
def St.dst (st:St) (d:Option Nat) (v:AV):St :=
 match d with
 | some d=>{ st with tm:=df st.tm d v }
 | none=>st
def St.app (st:St) (d:Option Nat):BM->St
 | .val v=>st.dst d v
 | .new s b v=>{ (st.dst d (v (st.own.c9 s))) with own:=st.own.put s ((st.own s).new b) }
 | .qb s b v=>{ (st.dst d (v (st.own.c9 s))) with own:=st.own.put s ((st.own s).new b) }
 | .aj v o=>{ (st.dst d v) with own:=o }
 | .ru s v o=>{ (st.dst d v) with own:=o.put s (st.own s) }
 | .m9 s x=>{ (st.dst d (.e7 [])) with own:=st.own.put s x }
 | .og s x v=>{ (st.dst d v) with own:=st.own.put s x }
def EC (st:St):Option (Nat × Bool)->Option Bool
 | none=>some true
 | some (g,want)=>match c6 st.tm g with
  | .bool b=>some (b == want)
  | .e7 []=>some false
  | _=>none
noncomputable def B6 (C:Cl) (o:AI) (st:St):Option St :=
 match EC st o.guard with
 | some true=>(c5 C o.a7 st.ev st.own o.op).map (st.app o.dst)
 | some false=>some (st.dst o.dst (.e7 []))
 | none=>none
noncomputable def CI (C:Cl):List AI->St->Option St
 | [],st=>some st
 | o::r,st=>match B6 C o st with
  | some e9=>CI C r e9
  | none=>none
def DH:C2->Option Nat
 | .u9 s _=>some s
 | .box s _=>some s
 | .alloc s _=>some s
 | .b9 s _ _=>some s
 | .mk s _ _ _ _ _=>some s
 | .il s _ _ _=>some s
 | .n6 s _ _=>some s
 | .w5 s _ _=>some s
 | _=>none
inductive It where
 | code (c:A8)
 | gq (ts ss:List Nat)
 | c7 (id:Nat)
 | lp (c:A8)
def EG (id:Nat):List It->Option (List It)
 | .c7 Ax::k=>if Ax=id then some k else EG id k
 | _::k=>EG id k
 | []=>none
def AE.drop (o:AE):List Nat->AE
 | []=>o
 | s::r=>(o.drop r).put s ⟨(o s).c9,λ_=>none⟩
noncomputable def run (C:Cl):Nat->List It->St->Option St
 | 0,_,_=>none
 | _+1,[],st=>some st
 | n+1,.c7 _::k,st=>run C n k st
 | n+1,.gq ts ss::k,st=>run C n k ⟨q9 st.tm ts,st.own.drop ss⟩
 | n+1,.lp c::k,st=>run C n (.code c :: .lp c::k) st
 | n+1,.code c::k,st=>match c with
  | .skip=>run C n k st
  | .ops l _=>match CI C l st with
   | some e9=>run C n k e9
   | none=>none
  | .dr c ts ss=>run C n (.code c :: .gq ts ss::k) st
  | .scope c=>run C n (.code c::k) st
  | .seq a b=>run C n (.code a :: .code b::k) st
  | .cond c a b=>match st.ev c with
   | .bool true=>run C n (.code a::k) st
   | .bool false=>run C n (.code b::k) st
   | _=>none
  | .block id c=>run C n (.code c :: .c7 id::k) st
  | .loop c=>run C n (.code c :: .lp c::k) st
  | .exit id=>match EG id k with
   | some k'=>run C n k' st
   | none=>none
  | .ret=>some st
def BX (i:Nat):List AV->Tm
 | []=>[]
 | v::r=>(i,v)::BX (i+1) r
def HF:AV->Option AV
 | .any=>none
 | .e7 _=>none
 | v=>some v
def D7 (st:St):HU->Option AV
 | .tmp t=>HF (c6 st.tm t)
 | .cell t agg n=>match c6 st.tm t with
  | .ptr s u i j=>match st.own.ja s u i j n with
   | some cs=>IV agg cs
   | none=>none
  | _=>none
def GM:List AV->AV
 | [v]=>v
 | vs => .e7 vs
structure Lib where
 fn:Nat->Option AFn
 num:Nat->Nat
instance : CoeFun Lib (λ_ => Nat -> Option AFn) := ⟨Lib.fn⟩
open Classical in
noncomputable def G7 (I:List AV->Option (AV × AE)) (vs:List AV):Option AV :=
 match I vs with
 | some (r,o)=>match NW o false r with
  | some r'=>if AZ r' then some r' else none
  | none=>none
 | none=>none
def Lib.je (L:Lib) (f:Nat):Bool:=match L f with
 | some fn=>fn.je
 | none=>false
open Classical in
noncomputable def IX (b:Bool) (I:List AV->Option (AV × AE)) (vs:List AV):Option AV:=match b,vs with
 | true,.sl _ []::vs=>match G7 I (.w6 (.bool true)::vs),G7 I (.w6 (.bool false)::vs) with
  | some r,some r'=>if r=r' then some r else none
  | _,_=>none
 | _,vs=>G7 I vs
noncomputable def CN (L:Lib):Nat->Nat->List AV->AE->Option (AV × AE)
 | 0,_,_,_=>none
 | n+1,f,args,own=>match L f with
  | none=>none
  | some fn=>if args.length=fn.u6 then
    match run ⟨λ f vs=>IX (L.je f) (λ vs=>CN L n f vs AE.emp) vs,CN L n,L.num⟩ n [.code fn.body] ⟨BX 0 args,own⟩ with
    | some st=>match fn.res.mapM (D7 st) with
     | some vs=>some (GM vs,st.own)
     | none=>none
    | none=>none
   else none
noncomputable def FW (L:Lib) (n f:Nat) (vs:List AV):Option AV:=IX (L.je f) (λ vs=>CN L n f vs AE.emp) vs
noncomputable def B7 (L:Lib) (n:Nat):Cl:=⟨FW L n,CN L n,L.num⟩
theorem RR (L:Lib) (n f:Nat) (args:List AV) (own:AE):CN L (n+1) f args own =
  match L f with
  | none=>none
  | some fn=>if args.length=fn.u6 then
    match run (B7 L n) n [.code fn.body] ⟨BX 0 args,own⟩ with
    | some st=>match fn.res.mapM (D7 st) with
     | some vs=>some (GM vs,st.own)
     | none=>none
    | none=>none
   else none:=rfl
namespace C
abbrev o (d:Nat) (op:C2):AI:=⟨some d,op,none,[]⟩
abbrev n (op:C2):AI:=⟨none,op,none,[]⟩
abbrev g (d i:Nat) (b:Bool) (op:C2):AI:=⟨some d,op,some (i,b),[]⟩
abbrev m (d s:Nat):AI:=⟨some d,.m8 (.t s),none,[]⟩
abbrev k (v:Int):AM := .c (.int .i64 v)
abbrev z:AV := .int .i64 0
abbrev q (d:Nat) (a7:List Nat) (op:C2):AI:=⟨some d,op,none,a7⟩
abbrev u (a7:List Nat) (op:C2):AI:=⟨none,op,none,a7⟩
abbrev v (d i:Nat) (b:Bool) (a7:List Nat) (op:C2):AI:=⟨some d,op,some (i,b),a7⟩
abbrev p (l:List AI):A8 := .ops l false
abbrev P (l:List AI):A8 := .ops l true
abbrev d (l:List AI) (ts:List Nat):A8 := .dr (.ops l false) ts []
abbrev e (l:List AI) (ts:List Nat):A8 := .dr (.ops l true) ts []
abbrev s (a b:A8):A8 := .seq a b
abbrev i (c:AM) (a b:A8):A8 := .cond c a b
abbrev b (id:Nat) (c:A8):A8 := .block id c
abbrev w (c:A8):A8 := .loop c
abbrev x (id:Nat):A8 := .exit id
instance (i : Nat) : OfNat AM i := ⟨.t i⟩
abbrev mv (d:Nat) (x:AM):AI:=⟨some d,.m8 x,none,[]⟩
abbrev tt (d n:Nat) (x:AM):AI:=⟨some d,.ld true n x,none,[]⟩
abbrev uu (d n:Nat) (x:AM):AI:=⟨some d,.ld false n x,none,[]⟩
abbrev ca (d f:Nat) (l:List AM):AI:=⟨some d,.call f l,none,[]⟩
abbrev fa (d:Nat) (x:AM) (a:Nat):AI:=⟨some d,.m4 x a,none,[]⟩
abbrev ia (d z:Nat) (x y:AM):AI:=⟨some d,.o6 none z x y,none,[]⟩
abbrev bi (d:Nat) (f:BinOp) (x y:AM):AI:=⟨some d,.bin f x y,none,[]⟩
abbrev ad (d:Nat) (x y:AM):AI:=⟨some d,.bin .add x y,none,[]⟩
abbrev sb (d:Nat) (x y:AM):AI:=⟨some d,.bin .sub x y,none,[]⟩
abbrev ls (d:Nat) (x y:AM):AI:=⟨some d,.bin .lss x y,none,[]⟩
abbrev al (d:Nat) (l:List AV):AI:=⟨some d,.alloc d l,none,[]⟩
abbrev ln (d:Nat) (x:AM):AI:=⟨some d,.len x,none,[]⟩
abbrev et (d:Nat) (x:AM) (a:Nat):AI:=⟨some d,.ext x a,none,[]⟩
abbrev bx (d:Nat) (x:AM):AI:=⟨some d,.box d x,none,[]⟩
abbrev pk (d:Nat) (x y w:AM):AI:=⟨some d,.pick x y w,none,[]⟩
abbrev nt (d:Nat) (x:AM):AI:=⟨some d,.un .not x,none,[]⟩
abbrev cu (d:Nat) (x:AM):AI:=⟨some d,.conv .u64 x,none,[]⟩
abbrev so (n:Nat) (x y:AM):AI:=⟨none,.st n x y,none,[]⟩
abbrev kf:AM := .c (.bool false)
abbrev kt:AM := .c (.bool true)
abbrev k0:AM := .c (.int .i64 0)
abbrev k1:AM := .c (.int .i64 1)
abbrev z3:List AV:=[.bool false,.nil,.nil]
abbrev z6:List AV:=[.nil,.nil,.nil,.bool false,.nil,.nil]
abbrev ra (a n:Nat):List Nat:=List.range' a n
abbrev rl (l:List Nat) (a n:Nat):List Nat:=l++List.range' a n
end C
end Go.c8
namespace Go.c8.F
open C
namespace I8
def r0:=[mv 2 kf]
def r1:=[m 3 0,m 4 0,bi 5 .neq 3 4,m 2 5]
def c:=(s (d r0 [2]) (s (d r1 [0,3,4,5]) .ret))
end I8
def I8:AFn:=⟨1,I8.c,[.tmp 2],false⟩
namespace I9
def r0:=[mv 2 kf]
def r1:=[m 3 0,m 4 0,bi 5 .neq 3 4,m 2 5]
def c:=(s (d r0 [2]) (s (d r1 [0,3,4,5]) .ret))
end I9
def I9:AFn:=⟨1,I9.c,[.tmp 2],false⟩
namespace I6
def r0:=[mv 4 k0]
def r1:=[m 7 0,ca 8 58 [7],m 5 8]
def r2:=[m 9 1,ca 10 58 [9],m 6 10]
def r3:=[m 11 5]
def r4:=[m 12 6]
def r5:=[mv 4 k0]
def r6:=[mv 4 (k (-1))]
def r7:=[m 13 6]
def r8:=[mv 4 k1]
def r9:=[m 14 0,m 15 1,ls 16 14 15]
def BW:=[mv 4 (k (-1))]
def BZ:=[m 17 0,m 18 1,bi 19 .gtr 17 18]
def s9:=[mv 4 k1]
def CT:=[mv 4 k0]
def c:=(s (d r0 [4]) (s (d r1 [7,8]) (s (d r2 [9,10]) (s (s (d r3 [5]) (i 11 (s (s (d r4 [0,1,6,11]) (i 12 (s (d r5 [12]) .ret) .skip)) (s (d r6 [12]) .ret)) .skip)) (s (s (d r7 [6,11]) (i 13 (s (d r8 [0,1,13]) .ret) .skip)) (s (s (d r9 [13,14,15]) (i 16 (s (d BW [0,1,16]) .ret) .skip)) (s (s (d BZ [0,1,16,17,18]) (i 19 (s (d s9 [19]) .ret) .skip)) (s (d CT [19]) .ret))))))))
end I6
def I6:AFn:=⟨2,I6.c,[.tmp 4],false⟩
namespace I7
def r0:=[mv 4 k0]
def r1:=[m 7 0,ca 8 59 [7],m 5 8]
def r2:=[m 9 1,ca 10 59 [9],m 6 10]
def r3:=[m 11 5]
def r4:=[m 12 6]
def r5:=[mv 4 k0]
def r6:=[mv 4 (k (-1))]
def r7:=[m 13 6]
def r8:=[mv 4 k1]
def r9:=[m 14 0,m 15 1,ls 16 14 15]
def BW:=[mv 4 (k (-1))]
def BZ:=[m 17 0,m 18 1,bi 19 .gtr 17 18]
def s9:=[mv 4 k1]
def CT:=[mv 4 k0]
def c:=(s (d r0 [4]) (s (d r1 [7,8]) (s (d r2 [9,10]) (s (s (d r3 [5]) (i 11 (s (s (d r4 [0,1,6,11]) (i 12 (s (d r5 [12]) .ret) .skip)) (s (d r6 [12]) .ret)) .skip)) (s (s (d r7 [6,11]) (i 13 (s (d r8 [0,1,13]) .ret) .skip)) (s (s (d r9 [13,14,15]) (i 16 (s (d BW [0,1,16]) .ret) .skip)) (s (s (d BZ [0,1,16,17,18]) (i 19 (s (d s9 [19]) .ret) .skip)) (s (d CT [19]) .ret))))))))
end I7
def I7:AFn:=⟨2,I7.c,[.tmp 4],false⟩
namespace GE
def r0:=[mv 2 (.c .nil)]
def r1:=[m 3 0,o 4 (.kn false 3)]
def r2:=[mv 2 (.c .nil)]
def r3:=[o 5 (.b9 5 1 []),m 6 0,o 7 (.app 7 1 4 5 6),m 2 7]
def c:=(s (d r0 [2]) (s (s (d r1 [3]) (i 4 (s (d r2 [0,4]) .ret) .skip)) (s (d r3 [0,4,5,6,7]) .ret)))
end GE
def GE:AFn:=⟨1,GE.c,[.tmp 2],true⟩
namespace JX
def r0:=[mv 2 k0]
def r1:=[m 3 0,bi 4 .geq 3 (.c (.int .u32 (65536)))]
def r2:=[m 5 0,bi 6 .shr 5 (.c (.int .u64 (16))),m 0 6]
def r3:=[mv 2 (k 16)]
def r4:=[m 7 0,bi 8 .geq 7 (.c (.int .u32 (256)))]
def r5:=[m 9 0,bi 10 .shr 9 (.c (.int .u64 (8))),m 0 10]
def r6:=[m 11 2,ad 12 11 (k 8),m 2 12]
def r7:=[m 13 2,m 14 0,o 15 (.conv .u8 14),
 o 16 (.bn (List.replicate 1 0++List.replicate 1 1++List.replicate 2 2++List.replicate 4 3++List.replicate 8 4++List.replicate 16 5++List.replicate 32 6++List.replicate 64 7++List.replicate 128 8) 15),
 o 17 (.conv .i64 16),ad 18 13 17,m 2 18]
def c:=(s (p r0) (s (s (d r1 [3]) (i 4 (s (d r2 [2,4,5,6]) (p r3)) .skip)) (s (s (d r4 [4,7]) (i 8 (s (d r5 [8,9,10]) (d r6 [11,12])) .skip)) (s (d r7 (rl [0,8] 13 6)) .ret))))
end JX
def JX:AFn:=⟨1,JX.c,[.tmp 2],false⟩
namespace JW
def r0:=[mv 2 k0]
def r1:=[m 3 0,ca 4 63 [3],sb 5 (k 32) 4,m 2 5]
def c:=(s (d r0 [2]) (s (d r1 [0,3,4,5]) .ret))
end JW
def JW:AFn:=⟨1,JW.c,[.tmp 2],false⟩
namespace EO
def r0:=[mv 2 (.c .nil)]
def r1:=[m 4 0,ln 5 4,m 3 5]
def r2:=[m 6 3,bi 7 .gtr 6 k0,m 8 7,g 9 8 true (.m8 0),g 10 8 true (.m8 3),g 11 8 true (.bin .sub 10 k1),g 12 8 true (.o6 none 1 9 11),
 g 13 8 true (.ld false 1 12),g 14 8 true (.bin .eql 13 (.c (.int .u32 (0)))),pk 15 8 14 kf]
def r3:=[m 16 3,sb 17 16 k1,m 3 17]
def r4:=[m 18 0,m 19 3,o 20 (.de 1 18 none (some 19)),m 2 20]
def l1:=(s (s (d r2 (ra 6 9)) (i 15 .skip (x 0))) (b 1 (d r3 [15,16,17])))
def c:=(s (d r0 [2]) (s (d r1 [4,5]) (s (b 0 (w l1)) (s (d r4 [0,3,15,18,19,20]) .ret))))
end EO
def EO:AFn:=⟨1,EO.c,[.tmp 2],false⟩
namespace J4
def r0:=[mv 2 (.c .nil)]
def r1:=[m 3 0,o 4 (.c4 65 [3]),ca 5 62 [4],m 2 5]
def c:=(s (d r0 [2]) (s (d r1 [0,3,4,5]) .ret))
end J4
def J4:AFn:=⟨1,J4.c,[.tmp 2],false⟩
namespace J0
def r0:=[mv 4 k0]
def r1:=[m 8 0,o 9 (.c4 65 [8]),m 10 1,o 11 (.c4 65 [10]),m 5 9,m 6 11]
def r2:=[m 12 5,ln 13 12,m 14 6,ln 15 14,bi 16 .neq 13 15]
def r3:=[m 17 5,ln 18 17,m 19 6,ln 20 19,ca 21 60 [18,20],m 4 21]
def r4:=[m 22 5,ln 23 22,sb 24 23 k1,m 7 24]
def r5:=[m 25 7,bi 26 .geq 25 k0]
def r7:=[m 29 5,m 30 7,ia 31 1 29 30,uu 32 1 31,m 33 6,m 34 7,ia 35 1 33 34,uu 36 1 35,bi 37 .neq 32 36]
def r8:=[m 38 5,m 39 7,ia 40 1 38 39,uu 41 1 40,m 42 6,m 43 7,ia 44 1 42 43,uu 45 1 44,ca 46 61 [41,45],
 m 4 46]
def r6:=[m 27 7,sb 28 27 k1,m 7 28]
def r9:=[mv 4 k0]
def l1:=(s (s (d r5 [25]) (i 26 .skip (x 0))) (s (b 1 (s (e r7 (rl [26] 29 8)) (i 37 (s (e r8 (rl [5,6,7] 37 10)) .ret) .skip))) (d r6 [27,28,37])))
def c:=(s (d r0 [4]) (s (d r1 (rl [0,1] 8 4)) (s (s (d r2 (ra 12 4)) (i 16 (s (d r3 (rl [5,6] 16 6)) .ret) .skip)) (s (s (d r4 [16,22,23,24]) (b 0 (w l1))) (s (d r9 [5,6,7,26]) .ret)))))
end J0
def J0:AFn:=⟨2,J0.c,[.tmp 4],false⟩
namespace JZ
def r0:=[mv 4 (.c .nil)]
def r1:=[m 12 0,o 13 (.c4 65 [12]),m 14 1,o 15 (.c4 65 [14]),m 5 13,m 6 15]
def r2:=[m 16 5,ln 17 16,m 18 6,ln 19 18,ls 20 17 19]
def r3:=[m 21 6,m 22 5,m 5 21,m 6 22]
def r4:=[m 23 5,ln 24 23,ad 25 24 k1,o 26 (.mk 26 1 4 [(.int .u32 (0))] 25 25),m 7 26]
def r5:=[mv 8 (.c (.int .u64 (0)))]
def r6:=[m 27 5,ln 28 27,mv 29 k0]
def r7:=[ls 30 29 28]
def r8:=[m 31 29,ia 32 1 27 29,uu 33 1 32,m 9 31,m 10 33]
def r9:=[m 34 10,cu 35 34,m 36 8,ad 37 35 36,m 11 37]
def BW:=[m 38 9,m 39 6,ln 40 39,ls 41 38 40]
def BZ:=[m 42 11,m 43 6,m 44 9,ia 45 1 43 44,uu 46 1 45,cu 47 46,ad 48 42 47,m 11 48]
def s9:=[m 49 7,m 50 9,m 51 11,o 52 (.conv .u32 51),ia 53 1 49 50,so 1 53 52]
def CT:=[m 54 11,bi 55 .shr 54 (.c (.int .u64 (32))),m 8 55]
def x7:=[ad 56 29 k1,m 29 56]
def ah:=[m 57 7,m 58 5,ln 59 58,m 60 8,o 61 (.conv .u32 60),ia 62 1 57 59,so 1 62 61]
def br:=[m 63 7,o 64 (.c4 65 [63]),m 4 64]
def l1:=(s (p r7) (s (i 30 .skip (x 0)) (s (b 1 (s (d r8 (ra 30 4)) (s (d r9 (rl [8,10] 34 4)) (s (s (d BW [38,39,40]) (i 41 (d BZ (ra 41 8)) .skip)) (s (d s9 (rl [9,41] 49 5)) (d CT [11,54,55])))))) (d x7 [56]))))
def c:=(s (d r0 [4]) (s (d r1 (rl [0,1] 12 4)) (s (s (d r2 (ra 16 4)) (i 20 (d r3 [20,21,22]) .skip)) (s (d r4 (rl [20] 23 4)) (s (p r5) (s (s (p r6) (b 0 (w l1))) (s (d ah (rl [5,6,8,27,28,29,30] 57 6)) (s (d br [7,63,64]) .ret))))))))
end JZ
def JZ:AFn:=⟨2,JZ.c,[.tmp 4],false⟩
namespace J3
def r0:=[mv 4 (.c .nil)]
def r1:=[m 12 0,m 13 1,ca 14 67 [12,13],bi 15 .leq 14 k0]
def r2:=[mv 4 (.c .nil)]
def r3:=[m 16 0,o 17 (.c4 65 [16]),m 18 1,o 19 (.c4 65 [18]),m 5 17,m 6 19]
def r4:=[m 20 5,ln 21 20,o 22 (.mk 22 1 4 [(.int .u32 (0))] 21 21),m 7 22]
def r5:=[mv 8 (.c (.int .u64 (0)))]
def r6:=[m 23 5,ln 24 23,mv 25 k0]
def r7:=[ls 26 25 24]
def r8:=[m 27 25,ia 28 1 23 25,uu 29 1 28,m 9 27,m 10 29]
def r9:=[m 30 10,cu 31 30,m 32 8,sb 33 31 32,m 11 33]
def BW:=[m 34 9,m 35 6,ln 36 35,ls 37 34 36]
def BZ:=[m 38 11,m 39 6,m 40 9,ia 41 1 39 40,uu 42 1 41,cu 43 42,sb 44 38 43,m 11 44]
def s9:=[m 45 7,m 46 9,m 47 11,o 48 (.conv .u32 47),ia 49 1 45 46,so 1 49 48]
def CT:=[m 50 11,bi 51 .shr 50 (.c (.int .u64 (63))),m 8 51]
def x7:=[ad 52 25 k1,m 25 52]
def ah:=[m 53 7,o 54 (.c4 65 [53]),m 4 54]
def l1:=(s (p r7) (s (i 26 .skip (x 0)) (s (b 1 (s (d r8 (ra 26 4)) (s (d r9 (rl [8,10] 30 4)) (s (s (d BW [34,35,36]) (i 37 (d BZ (ra 37 8)) .skip)) (s (d s9 (rl [9,37] 45 5)) (d CT [11,50,51])))))) (d x7 [52]))))
def c:=(s (d r0 [4]) (s (s (d r1 [12,13,14]) (i 15 (s (d r2 [0,1,15]) .ret) .skip)) (s (d r3 (rl [0,1] 15 5)) (s (d r4 [20,21,22]) (s (p r5) (s (s (d r6 [5]) (b 0 (w l1))) (s (d ah [6,7,8,23,24,25,26,53,54]) .ret)))))))
end J3
def J3:AFn:=⟨2,J3.c,[.tmp 4],false⟩
namespace J2
def r0:=[mv 4 (.c .nil)]
def r1:=[m 14 0,o 15 (.c4 65 [14]),m 16 1,o 17 (.c4 65 [16]),m 5 15,m 6 17]
def r2:=[m 18 5,ln 19 18,bi 20 .eql 19 k0,m 21 20,g 22 21 false (.m8 6),g 23 21 false (.len 22),g 24 21 false (.bin .eql 23 k0),
 pk 25 21 kt 24]
def r3:=[mv 4 (.c .nil)]
def r4:=[m 26 5,ln 27 26,m 28 6,ln 29 28,ad 30 27 29,o 31 (.mk 31 1 4 [(.int .u32 (0))] 30 30),m 7 31]
def r5:=[m 32 5,ln 33 32,mv 34 k0]
def r6:=[ls 35 34 33]
def r7:=[m 36 34,ia 37 1 32 34,uu 38 1 37,m 8 36,m 9 38]
def r8:=[m 39 9,bi 40 .eql 39 (.c (.int .u32 (0)))]
def r9:=[mv 10 (.c (.int .u64 (0)))]
def BW:=[m 41 6,ln 42 41,mv 43 k0]
def BZ:=[ls 44 43 42]
def s9:=[m 45 43,ia 46 1 41 43,uu 47 1 46,m 11 45,m 12 47]
def CT:=[m 48 9,cu 49 48,m 50 12,cu 51 50,bi 52 .mul 49 51,m 53 7,m 54 8,m 55 11,ad 56 54 55,ia 57 1 53 56,
 uu 58 1 57,cu 59 58,ad 60 52 59,m 61 10,ad 62 60 61,m 13 62]
def x7:=[m 63 7,m 64 8,m 65 11,ad 66 64 65,m 67 13,o 68 (.conv .u32 67),ia 69 1 63 66,so 1 69 68]
def ah:=[m 70 13,bi 71 .shr 70 (.c (.int .u64 (32))),m 10 71]
def br:=[ad 72 43 k1,m 43 72]
def EP:=[m 73 7,m 74 8,m 75 6,ln 76 75,ad 77 74 76,m 78 10,o 79 (.conv .u32 78),ia 80 1 73 77,so 1 80 79]
def bu:=[ad 81 34 k1,m 34 81]
def fc:=[m 82 7,o 83 (.c4 65 [82]),m 4 83]
def l2:=(s (p BZ) (s (i 44 .skip (x 2)) (s (b 3 (s (d s9 (ra 44 4)) (s (d CT (rl [10,12] 48 15)) (s (d x7 (rl [11] 63 7)) (d ah [13,70,71]))))) (d br [72]))))
def l1:=(s (p r6) (s (i 35 .skip (x 0)) (s (b 1 (s (d r7 (ra 35 4)) (s (s (d r8 [39]) (i 40 (x 1) .skip)) (s (d r9 [40]) (s (s (p BW) (b 2 (w l2))) (d EP (rl [8,9,10,41,42,43,44] 73 8))))))) (d bu [8,9,40,81]))))
def c:=(s (d r0 [4]) (s (d r1 (rl [0,1] 14 4)) (s (s (d r2 (ra 18 7)) (i 25 (s (d r3 [5,6,25]) .ret) .skip)) (s (d r4 (ra 25 7)) (s (s (d r5 [5]) (b 0 (w l1))) (s (d fc [6,7,32,33,34,35,82,83]) .ret))))))
end J2
def J2:AFn:=⟨2,J2.c,[.tmp 4],false⟩
namespace H7
def r0:=[mv 6 (.c .nil)]
def r1:=[m 11 2,o 12 (.mk 71012 1 4 [(.int .u32 (0))] 11 11),m 7 12]
def r2:=[mv 8 (.c (.int .u32 (0)))]
def r3:=[m 13 0,ln 14 13,mv 15 k0]
def r4:=[ls 16 15 14]
def r5:=[m 17 15,ia 18 1 13 15,uu 19 1 18,m 9 17,m 10 19]
def r6:=[m 20 7,m 21 9,m 22 10,m 23 1,bi 24 .shl 22 23,m 25 8,bi 26 .or 24 25,ia 27 1 20 21,so 1 27 26]
def r7:=[m 28 10,cu 29 28,m 30 1,bi 31 .shl 29 30,bi 32 .shr 31 (.c (.int .u64 (32))),o 33 (.conv .u32 32),m 8 33]
def r8:=[ad 34 15 k1,m 15 34]
def r9:=[m 35 2,m 36 0,ln 37 36,bi 38 .gtr 35 37]
def BW:=[m 39 7,m 40 0,ln 41 40,m 42 8,ia 43 1 39 41,so 1 43 42]
def BZ:=[m 44 7,m 6 44]
def l1:=(s (p r4) (s (i 16 .skip (x 0)) (s (b 1 (s (d r5 (ra 16 4)) (s (d r6 (rl [8,9] 20 8)) (d r7 (rl [10] 28 6))))) (d r8 [34]))))
def c:=(s (d r0 [6]) (s (d r1 [11,12]) (s (p r2) (s (s (p r3) (b 0 (w l1))) (s (s (d r9 [1,2,13,14,15,16,35,36,37]) (i 38 (d BW (rl [0,8] 38 6)) .skip)) (s (d BZ [0,7,8,38,44]) .ret))))))
end H7
def H7:AFn:=⟨3,H7.c,[.tmp 6],false⟩
namespace J9
def r0:=[mv 4 (.c .nil)]
def r1:=[m 8 0,ln 9 8,o 10 (.mk 10 1 4 [(.int .u32 (0))] 9 9),m 5 10]
def r2:=[mv 6 (.c (.int .u32 (0)))]
def r3:=[m 11 0,ln 12 11,sb 13 12 k1,m 7 13]
def r4:=[m 14 7,bi 15 .geq 14 k0]
def r6:=[m 18 5,m 19 7,m 20 0,m 21 7,ia 22 1 20 21,uu 23 1 22,m 24 1,bi 25 .shr 23 24,m 26 6,bi 27 .or 25 26,
 ia 28 1 18 19,so 1 28 27]
def r7:=[m 29 0,m 30 7,ia 31 1 29 30,uu 32 1 31,cu 33 32,m 34 1,sb 35 (.c (.int .u64 (32))) 34,
 bi 36 .shl 33 35,o 37 (.conv .u32 36),m 6 37]
def r5:=[m 16 7,sb 17 16 k1,m 7 17]
def r8:=[m 38 5,m 4 38]
def l1:=(s (s (d r4 [14]) (i 15 .skip (x 0))) (s (b 1 (s (d r6 (rl [6,15] 18 11)) (d r7 (ra 29 9)))) (d r5 [16,17])))
def c:=(s (d r0 [4]) (s (d r1 [8,9,10]) (s (p r2) (s (s (d r3 [11,12,13]) (b 0 (w l1))) (s (d r8 [0,1,5,6,7,15,38]) .ret)))))
end J9
def J9:AFn:=⟨2,J9.c,[.tmp 4],false⟩
namespace E0
def r0:=[mv 4 (.c (.int .u32 (0)))]
def r1:=[m 19 1,ln 20 19,m 5 20]
def r2:=[m 21 0,m 22 5,ia 23 1 21 22,uu 24 1 23,cu 25 24,bi 26 .shl 25 (.c (.int .u64 (32))),m 27 0,m 28 5,
 sb 29 28 k1,ia 30 1 27 29,uu 31 1 30,cu 32 31,bi 33 .or 26 32,m 6 33]
def r3:=[m 34 6,m 35 1,m 36 5,sb 37 36 k1,ia 38 1 35 37,uu 39 1 38,cu 40 39,bi 41 .quo 34 40,m 42 6,
 m 43 1,m 44 5,sb 45 44 k1,ia 46 1 43 45,uu 47 1 46,cu 48 47,bi 49 .rem 42 48,m 7 41,m 8 49]
def r4:=[m 50 7,bi 51 .geq 50 (.c (.int .u64 (4294967296))),m 52 51,g 53 52 false (.m8 7),g 54 52 false (.m8 1),g 55 52 false (.m8 5),
 g 56 52 false (.bin .sub 55 (k 2)),g 57 52 false (.o6 none 1 54 56),g 58 52 false (.ld false 1 57),g 59 52 false (.conv .u64 58),
 g 60 52 false (.bin .mul 53 59),g 61 52 false (.m8 8),g 62 52 false (.bin .shl 61 (.c (.int .u64 (32)))),g 63 52 false (.m8 0),g 64 52 false (.m8 5),
 g 65 52 false (.bin .sub 64 (k 2)),g 66 52 false (.o6 none 1 63 65),g 67 52 false (.ld false 1 66),g 68 52 false (.conv .u64 67),
 g 69 52 false (.bin .or 62 68),g 70 52 false (.bin .gtr 60 69),pk 71 52 kt 70]
def r5:=[m 72 7,sb 73 72 (.c (.int .u64 (1))),m 7 73]
def r6:=[m 74 8,m 75 1,m 76 5,sb 77 76 k1,ia 78 1 75 77,uu 79 1 78,cu 80 79,ad 81 74 80,m 8 81]
def r7:=[m 82 8,bi 83 .geq 82 (.c (.int .u64 (4294967296)))]
def r8:=[mv 9 (.c (.int .u64 (0))),mv 10 (.c (.int .u64 (0)))]
def r9:=[m 84 1,ln 85 84,mv 86 k0]
def BW:=[ls 87 86 85]
def BZ:=[m 88 86,ia 89 1 84 86,uu 90 1 89,m 11 88,m 12 90]
def s9:=[m 91 7,m 92 12,cu 93 92,bi 94 .mul 91 93,m 95 9,ad 96 94 95,m 13 96]
def CT:=[m 97 13,bi 98 .shr 97 (.c (.int .u64 (32))),m 9 98]
def x7:=[m 99 0,m 100 11,ia 101 1 99 100,uu 102 1 101,cu 103 102,m 104 13,o 105 (.conv .u32 104),cu 106 105,
 sb 107 103 106,m 108 10,sb 109 107 108,m 14 109]
def ah:=[m 110 0,m 111 11,m 112 14,o 113 (.conv .u32 112),ia 114 1 110 111,so 1 114 113]
def br:=[m 115 14,bi 116 .shr 115 (.c (.int .u64 (63))),m 10 116]
def EP:=[ad 117 86 k1,m 86 117]
def bu:=[m 118 0,m 119 5,ia 120 1 118 119,uu 121 1 120,cu 122 121,m 123 9,sb 124 122 123,m 125 10,
 sb 126 124 125,m 15 126]
def fc:=[m 127 0,m 128 5,m 129 15,o 130 (.conv .u32 129),ia 131 1 127 128,so 1 131 130]
def fr:=[m 132 15,bi 133 .shr 132 (.c (.int .u64 (63))),bi 134 .eql 133 (.c (.int .u64 (0)))]
def ij:=[m 135 7,o 136 (.conv .u32 135),m 4 136]
def ik:=[mv 9 (.c (.int .u64 (0)))]
def jv:=[m 137 1,ln 138 137,mv 139 k0]
def KP:=[ls 140 139 138]
def KQ:=[m 141 139,ia 142 1 137 139,uu 143 1 142,m 16 141,m 17 143]
def MY:=[m 144 0,m 145 16,ia 146 1 144 145,uu 147 1 146,cu 148 147,m 149 17,cu 150 149,ad 151 148 150,
 m 152 9,ad 153 151 152,m 18 153]
def SH:=[m 154 0,m 155 16,m 156 18,o 157 (.conv .u32 156),ia 158 1 154 155,so 1 158 157]
def SI:=[m 159 18,bi 160 .shr 159 (.c (.int .u64 (32))),m 9 160]
def SJ:=[ad 161 139 k1,m 139 161]
def vu:=[m 162 0,m 163 5,ia 164 1 162 163,uu 165 1 164,m 166 9,o 167 (.conv .u32 166),ad 168 165 167,
 ia 169 1 162 163,so 1 169 168]
def vy:=[m 170 7,sb 171 170 (.c (.int .u64 (1))),o 172 (.conv .u32 171),m 4 172]
def l1:=(s (s (e r4 [50,51,52,53,54,55,56,57,58,59,60,61,62,63,64,65,66,67,68,69,70,83]) (i 71 .skip (x 0))) (b 1 (s (d r5 [71,72,73]) (s (d r6 (ra 74 8)) (s (d r7 [82]) (i 83 (x 0) .skip))))))
def l2:=(s (p BW) (s (i 87 .skip (x 2)) (s (b 3 (s (d BZ (ra 87 4)) (s (d s9 (rl [9,12] 91 6)) (s (d CT [97,98]) (s (d x7 (rl [10,13] 99 11)) (s (d ah (rl [11] 110 5)) (d br [14,115,116]))))))) (d EP [117]))))
def l3:=(s (p KP) (s (i 140 .skip (x 4)) (s (b 5 (s (d KQ (ra 140 4)) (s (d MY (rl [9,17] 144 10)) (s (d SH (rl [16] 154 5)) (d SI [18,159,160]))))) (d SJ [161]))))
def c:=(s (d r0 [4]) (s (d r1 [19,20]) (s (e r2 (ra 21 13)) (s (e r3 (rl [6] 34 16)) (s (b 0 (w l1)) (s (d r8 [8,71,83]) (s (s (p r9) (b 2 (w l2))) (s (d bu (rl [9,10,84,85,86,87] 118 9)) (s (d fc (ra 127 5)) (s (s (d fr [15,132,133]) (i 134 (s (d ij [0,1,5,7,134,135,136]) .ret) .skip)) (s (d ik [134]) (s (s (d jv [1]) (b 4 (w l3))) (s (d vu (rl [0,5,9,137,138,139,140] 162 8)) (s (d vy [7,170,171,172]) .ret))))))))))))))
end E0
def E0:AFn:=⟨2,E0.c,[.tmp 4],false⟩
namespace J7
def r0:=[mv 4 (.c .nil),mv 5 (.c .nil)]
def r1:=[m 15 0,m 16 1,ca 17 67 [15,16],ls 18 17 k0]
def r2:=[m 19 0,ca 20 62 [19],mv 4 (.c .nil),m 5 20]
def r3:=[m 21 1,ln 22 21,m 6 22]
def r4:=[m 23 0,ln 24 23,m 25 6,sb 26 24 25,ad 27 26 k1,o 28 (.mk 28 1 4 [(.int .u32 (0))] 27 27),m 7 28]
def r5:=[m 29 6,bi 30 .eql 29 k1]
def r6:=[mv 8 (.c (.int .u64 (0)))]
def r7:=[m 31 0,ln 32 31,sb 33 32 k1,m 9 33]
def r8:=[m 34 9,bi 35 .geq 34 k0]
def BW:=[m 38 8,bi 39 .shl 38 (.c (.int .u64 (32))),m 40 0,m 41 9,ia 42 1 40 41,uu 43 1 42,cu 44 43,
 bi 45 .or 39 44,m 10 45]
def BZ:=[m 46 7,m 47 9,m 48 10,m 49 1,ia 50 1 49 k0,uu 51 1 50,cu 52 51,bi 53 .quo 48 52,o 54 (.conv .u32 53),
 ia 55 1 46 47,so 1 55 54]
def s9:=[m 56 10,m 57 1,ia 58 1 57 k0,uu 59 1 58,cu 60 59,bi 61 .rem 56 60,m 8 61]
def r9:=[m 36 9,sb 37 36 k1,m 9 37]
def CT:=[m 62 7,o 63 (.c4 65 [62]),m 64 8,o 65 (.conv .u32 64),o 66 (.b9 66 1 [65]),o 67 (.c4 65 [66]),m 4 63,m 5 67]
def x7:=[m 68 1,m 69 6,sb 70 69 k1,ia 71 1 68 70,uu 72 1 71,ca 73 64 [72],cu 74 73,m 11 74]
def ah:=[m 75 0,m 76 11,m 77 0,ln 78 77,ad 79 78 k1,o 80 (.c4 71 [75,76,79]),m 81 1,m 82 11,m 83 6,ca 84 71 [81,82,83],
 m 12 80,m 13 84]
def br:=[m 85 0,ln 86 85,m 87 6,sb 88 86 87,m 14 88]
def EP:=[m 89 14,bi 90 .geq 89 k0]
def fc:=[m 93 7,m 94 14,m 95 12,m 96 14,m 97 14,m 98 6,ad 99 97 98,ad 100 99 k1,o 101 (.de 1 95 (some 96) (some 100)),m 102 13,
 o 103 (.c4 73 [101,102]),ia 104 1 93 94,so 1 104 103]
def bu:=[m 91 14,sb 92 91 k1,m 14 92]
def fr:=[m 105 7,o 106 (.c4 65 [105]),m 107 12,m 108 6,o 109 (.de 1 107 none (some 108)),m 110 11,ca 111 72 [109,110],o 112 (.c4 65 [111]),
 m 4 106,m 5 112]
def l1:=(s (s (d r8 [34]) (i 35 .skip (x 0))) (s (b 1 (s (d BW (rl [8,35] 38 8)) (s (d BZ (ra 46 10)) (d s9 (rl [10] 56 6))))) (d r9 [36,37])))
def l2:=(s (s (d EP [89]) (i 90 .skip (x 2))) (s (b 3 (d fc (rl [90] 93 12))) (d bu [91,92])))
def c:=(s (d r0 [4,5]) (s (s (d r1 [15,16,17]) (i 18 (s (d r2 [0,1,18,19,20]) .ret) .skip)) (s (d r3 [18,21,22]) (s (d r4 (ra 23 6)) (s (s (d r5 [29]) (i 30 (s (d r6 [6,30]) (s (s (d r7 [31,32,33]) (b 0 (w l1))) (s (d CT (rl [0,1,7,8,9,35] 62 6)) .ret))) .skip)) (s (d x7 (rl [30] 68 7)) (s (d ah (rl [1] 75 10)) (s (s (d br (rl [0] 85 4)) (b 2 (w l2))) (s (e fr (rl [6,7,11,12,13,14,90] 105 8)) .ret)))))))))
end J7
def J7:AFn:=⟨2,J7.c,[.tmp 4,.tmp 5],false⟩
namespace J1
def r0:=[mv 4 (.c .nil),mv 5 (.c .nil),mv 6 k0]
def r1:=[m 10 1,o 11 (.c4 65 [10]),m 7 11]
def r2:=[m 12 7,ln 13 12,bi 14 .eql 13 k0]
def r3:=[mv 4 (.c .nil),mv 5 (.c .nil),mv 6 (k 3)]
def r4:=[m 16 0,o 17 (.c4 65 [16]),m 18 7,ca 19 74 [17,18],m 15 19,et 20 15 0,et 21 15 1,m 8 20,m 9 21]
def r5:=[m 22 8,m 23 9,m 4 22,m 5 23,mv 6 k0]
def c:=(s (d r0 [4,5,6]) (s (d r1 [1,10,11]) (s (s (d r2 [12,13]) (i 14 (s (d r3 [0,7,14]) .ret) .skip)) (s (d r4 (rl [0,7] 14 8)) (s (d r5 [8,9,22,23]) .ret)))))
end J1
def J1:AFn:=⟨2,J1.c,[.tmp 4,.tmp 5,.tmp 6],false⟩
namespace KB
def r0:=[mv 2 (.c (.int .u64 (0)))]
def r1:=[mv 3 (.c (.int .u64 (0)))]
def r2:=[m 6 0,ln 7 6,mv 8 k0]
def r3:=[ls 9 8 7]
def r4:=[m 10 8,ia 11 1 6 8,uu 12 1 11,m 4 10,m 5 12]
def r5:=[m 13 3,m 14 5,cu 15 14,m 16 4,bi 17 .mul (k 32) 16,bi 18 .shl 15 17,bi 19 .or 13 18,m 3 19]
def r6:=[ad 20 8 k1,m 8 20]
def r7:=[m 21 3,m 2 21]
def l1:=(s (p r3) (s (i 9 .skip (x 0)) (s (b 1 (s (d r4 (ra 9 4)) (d r5 (rl [4,5] 13 7)))) (d r6 [20]))))
def c:=(s (d r0 [2]) (s (p r1) (s (s (d r2 [0]) (b 0 (w l1))) (s (d r7 [3,6,7,8,9,21]) .ret))))
end KB
def KB:AFn:=⟨1,KB.c,[.tmp 2],false⟩
namespace G0
def r0:=[mv 3 (.c (.int .u64 (0)))]
def r1:=[m 4 0,uu 5 1 1,ln 6 5,ls 7 4 6]
def r2:=[uu 8 1 1,m 9 0,ia 10 1 8 9,uu 11 1 10,cu 12 11,m 3 12]
def r3:=[mv 3 (.c (.int .u64 (0)))]
def c:=(s (d r0 [3]) (s (s (d r1 [4,5,6]) (i 7 (s (d r2 (rl [0,1] 7 6)) .ret) .skip)) (s (d r3 [0,1,7]) .ret)))
end G0
def G0:AFn:=⟨2,G0.c,[.tmp 3],false⟩
namespace J8
def r0:=[bx 3 0,mv 6 k0]
def r1:=[o 9 (.jb false 77 [3]),m 7 9]
def r2:=[m 10 7,m 11 1,sb 12 11 k1,o 13 (.l8 10 [12]),bi 14 .shl 13 (.c (.int .u64 (32))),m 15 7,m 16 1,sb 17 16 (k 2),
 o 18 (.l8 15 [17]),bi 19 .or 14 18,m 20 2,bi 21 .shl 19 20,m 8 21]
def r3:=[m 22 8,m 23 7,m 24 1,sb 25 24 (k 3),o 26 (.l8 23 [25]),m 27 2,bi 28 .shl 26 27,bi 29 .shr 28 (.c (.int .u64 (32))),
 bi 30 .or 22 29,m 8 30]
def r4:=[m 31 8,bi 32 .shr 31 (.c (.int .u64 (2))),o 33 (.conv .i64 32),m 6 33]
def c:=(s (d r0 [0,6]) (s (d r1 [3,9]) (s (d r2 (ra 10 12)) (s (d r3 (rl [1,2,7] 22 9)) (s (d r4 [8,31,32,33]) .ret)))))
end J8
def J8:AFn:=⟨3,J8.c,[.tmp 6],false⟩
namespace J5
def r0:=[mv 4 k0,mv 5 k0,mv 6 k0,mv 7 k0]
def r1:=[mv 4 k1,mv 7 k1]
def r2:=[m 11 1,m 12 6,ad 13 11 12,bi 14 .neq 13 k0,m 15 14,g 16 15 true (.m8 1),g 17 15 true (.m8 7),g 18 15 true (.bin .add 16 17),
 g 19 15 true (.bin .neq 18 k0),pk 20 15 19 kf]
def r3:=[m 21 0,m 22 4,ad 23 21 22,m 24 1,m 25 6,ad 26 24 25,bi 27 .quo 23 26,m 8 27]
def r4:=[m 28 8,m 29 0,m 30 5,ad 31 29 30,m 32 1,m 33 7,ad 34 32 33,bi 35 .quo 31 34,bi 36 .neq 28 35,m 37 36,
 g 38 37 false (.m8 8),g 39 37 false (.bin .gtr 38 (k 2147483647)),pk 40 37 kt 39]
def r5:=[m 41 4,m 42 8,m 43 6,bi 44 .mul 42 43,sb 45 41 44,m 46 5,m 47 8,m 48 7,bi 49 .mul 47 48,sb 50 46 49,m 9 45,m 10 50]
def r6:=[m 51 9,m 52 9,o 53 (.un .neg 52),m 54 10,m 55 10,o 56 (.un .neg 55),o 57 (.mm true [51,53,54,56]),bi 58 .gtr 57 (k 2147483647)]
def r7:=[m 59 6,m 60 7,m 61 9,m 62 10,m 4 59,m 5 60,m 6 61,m 7 62]
def r8:=[m 63 1,m 64 0,m 65 8,m 66 1,bi 67 .mul 65 66,sb 68 64 67,m 0 63,m 1 68]
def r9:=[m 69 4,m 70 5,m 71 6,m 72 7,m 4 69,m 5 70,m 6 71,m 7 72]
def l1:=(s (s (d r2 (ra 11 9)) (i 20 .skip (x 0))) (b 1 (s (d r3 (ra 20 8)) (s (s (d r4 (ra 28 12)) (i 40 (x 0) .skip)) (s (d r5 (ra 40 11)) (s (s (d r6 (ra 51 7)) (i 58 (x 0) .skip)) (s (d r7 (rl [9,10] 58 5)) (d r8 (rl [8] 63 6)))))))))
def c:=(s (d r0 [4,7]) (s (p r1) (s (b 0 (w l1)) (s (d r9 (rl [0,1,8,9,10,20,40,58] 69 4)) .ret))))
end J5
def J5:AFn:=⟨2,J5.c,[.tmp 4,.tmp 5,.tmp 6,.tmp 7],false⟩
namespace J6
def r0:=[mv 8 (.c .nil)]
def r1:=[m 14 0,ln 15 14,o 16 (.mk 16 1 4 [(.int .u32 (0))] 15 15),m 9 16]
def r2:=[mv 10 k0]
def r3:=[m 17 0,ln 18 17,mv 19 k0]
def r4:=[ls 20 19 18]
def r5:=[m 21 19,ia 22 1 17 19,uu 23 1 22,m 11 21,m 12 23]
def r6:=[m 24 2,m 25 12,o 26 (.conv .i64 25),bi 27 .mul 24 26,m 28 10,ad 29 27 28,m 13 29]
def r7:=[m 30 11,m 31 1,ln 32 31,ls 33 30 32]
def r8:=[m 34 13,m 35 3,m 36 1,m 37 11,ia 38 1 36 37,uu 39 1 38,o 40 (.conv .i64 39),bi 41 .mul 35 40,ad 42 34 41,
 m 13 42]
def r9:=[m 43 9,m 44 11,m 45 13,o 46 (.conv .u32 45),ia 47 1 43 44,so 1 47 46]
def BW:=[m 48 13,bi 49 .shr 48 (.c (.int .u64 (32))),m 10 49]
def BZ:=[ad 50 19 k1,m 19 50]
def s9:=[m 51 9,o 52 (.c4 65 [51]),m 8 52]
def l1:=(s (p r4) (s (i 20 .skip (x 0)) (s (b 1 (s (d r5 (ra 20 4)) (s (d r6 (rl [10,12] 24 6)) (s (s (d r7 [30,31,32]) (i 33 (d r8 (ra 33 10)) .skip)) (s (d r9 (rl [11,33] 43 5)) (d BW [13,48,49])))))) (d BZ [50]))))
def c:=(s (d r0 [8]) (s (d r1 [14,15,16]) (s (p r2) (s (s (d r3 [0]) (b 0 (w l1))) (s (d s9 [1,2,3,9,10,17,18,19,20,51,52]) .ret)))))
end J6
def J6:AFn:=⟨4,J6.c,[.tmp 8],false⟩
namespace KA
def r0:=[mv 4 (.c .nil),mv 5 (.c .nil)]
def r1:=[m 14 0,ln 15 14,m 6 15]
def r2:=[m 16 0,m 17 6,sb 18 17 k1,ia 19 1 16 18,uu 20 1 19,ca 21 64 [20],cu 22 21,m 7 22]
def r3:=[m 24 0,m 25 6,m 26 7,ca 27 78 [24,25,26],m 28 1,m 29 6,m 30 7,ca 31 78 [28,29,30],ca 32 79 [27,31],m 23 32,et 33 23 0,
 et 34 23 1,et 35 23 2,et 36 23 3,m 8 33,m 9 34,m 10 35,m 11 36]
def r4:=[m 37 9,bi 38 .eql 37 k0]
def r5:=[m 40 0,m 41 1,ca 42 74 [40,41],m 39 42,et 43 39 0,et 44 39 1,m 12 43,m 13 44]
def r6:=[m 45 1,m 46 13,m 4 45,m 5 46]
def r7:=[m 47 0,m 48 1,m 49 8,m 50 9,ca 51 80 [47,48,49,50],m 52 0,m 53 1,m 54 10,m 55 11,ca 56 80 [52,53,54,55],m 4 51,m 5 56]
def c:=(s (d r0 [4,5]) (s (d r1 [14,15]) (s (d r2 (ra 16 7)) (s (d r3 (rl [6,7] 23 14)) (s (s (d r4 [37]) (i 38 (s (d r5 (rl [0,8,9,10,11,12] 38 7)) (s (d r6 [1,13,45,46]) .ret)) .skip)) (s (d r7 (rl [0,1,8,9,10,11,38] 47 10)) .ret))))))
end KA
def KA:AFn:=⟨2,KA.c,[.tmp 4,.tmp 5],false⟩
namespace FP
def r0:=[mv 4 (.c .nil)]
def r1:=[m 11 0,ca 12 66 [11],m 13 1,ca 14 66 [13],m 5 12,m 6 14]
def r2:=[m 15 5,m 16 6,ca 17 67 [15,16],ls 18 17 k0]
def r3:=[m 19 6,m 20 5,m 5 19,m 6 20]
def r4:=[m 21 6,ln 22 21,bi 23 .gtr 22 (k 2)]
def r5:=[m 25 5,m 26 6,ca 27 81 [25,26],m 24 27,et 28 24 0,et 29 24 1,m 5 28,m 6 29]
def r6:=[m 30 6,ln 31 30,bi 32 .eql 31 k0]
def r7:=[m 33 5,m 4 33]
def r8:=[m 35 5,m 36 6,ca 37 74 [35,36],m 34 37,et 38 34 0,et 39 34 1,m 7 38,m 8 39]
def r9:=[m 40 6,ca 41 76 [40],m 42 8,ca 43 76 [42],m 9 41,m 10 43]
def BW:=[m 44 10,bi 45 .neq 44 (.c (.int .u64 (0)))]
def BZ:=[m 46 10,m 47 9,m 48 10,bi 49 .rem 47 48,m 9 46,m 10 49]
def s9:=[m 50 9,o 51 (.conv .u32 50),m 52 9,bi 53 .shr 52 (.c (.int .u64 (32))),o 54 (.conv .u32 53),o 55 (.b9 55 1 [51,54]),o 56 (.c4 65 [55]),
 m 4 56]
def l1:=(s (s (d r4 [18,21,22]) (i 23 .skip (x 0))) (b 1 (d r5 (ra 23 7))))
def l2:=(s (s (d BW [44]) (i 45 .skip (x 2))) (b 3 (e BZ (ra 45 5))))
def c:=(s (d r0 [4]) (s (d r1 (rl [0,1] 11 4)) (s (s (d r2 [15,16,17]) (i 18 (d r3 [18,19,20]) .skip)) (s (b 0 (w l1)) (s (s (d r6 [23,30,31]) (i 32 (s (d r7 [5,6,32,33]) .ret) .skip)) (s (d r8 (rl [5,7,32] 34 6)) (s (d r9 (rl [6,8] 40 4)) (s (b 2 (w l2)) (s (d s9 (rl [9,10,45] 50 7)) .ret)))))))))
end FP
def FP:AFn:=⟨2,FP.c,[.tmp 4],false⟩
structure a9 (L:Lib):Prop where
 I8:L 58=some F.I8
 I9:L 59=some F.I9
 I6:L 60=some F.I6
 I7:L 61=some F.I7
 GE:L 62=some F.GE
 JX:L 63=some F.JX
 JW:L 64=some F.JW
 EO:L 65=some F.EO
 J4:L 66=some F.J4
 J0:L 67=some F.J0
 JZ:L 68=some F.JZ
 J3:L 69=some F.J3
 J2:L 70=some F.J2
 H7:L 71=some F.H7
 J9:L 72=some F.J9
 E0:L 73=some F.E0
 J7:L 74=some F.J7
 J1:L 75=some F.J1
 KB:L 76=some F.KB
 G0:L 77=some F.G0
 J8:L 78=some F.J8
 J5:L 79=some F.J5
 J6:L 80=some F.J6
 KA:L 81=some F.KA
 FP:L 82=some F.FP
end Go.c8.F

namespace Go.c8.F
open C
namespace CO
def r0:=[o 4 (.alloc 83004 [(.bool false),.nil])]
def r1:=[m 5 0,m 6 5,g 7 6 true (.m8 1),g 8 6 true (.len 7),g 9 6 true (.bin .gtr 8 k0),pk 10 6 9 kf,m 11 1,
 o 12 (.build [(.bool false),.nil] [(0,1,10),(1,1,11)]),so 2 4 12]
def c:=(s (p r0) (s (d r1 (rl [0,1] 5 8)) .ret))
end CO
def CO:AFn:=⟨2,CO.c,[.cell 4 true 2],false⟩
namespace JR
def r0:=[bx 1 0,al 2 [(.bool false),.nil]]
def r1:=[fa 3 1 0,uu 4 1 3,fa 5 1 1,uu 6 1 5,ca 7 66 [6],o 8 (.c4 83 [4,7]),so 2 2 8]
def c:=(s (d r0 [0]) (s (e r1 (rl [1] 3 6)) .ret))
end JR
def JR:AFn:=⟨1,JR.c,[.cell 2 true 2],false⟩
namespace JP
def r0:=[al 2 [(.bool false),.nil]]
def r1:=[m 4 0,cu 5 4,m 3 5]
def r2:=[m 6 0,ls 7 6 k0]
def r3:=[m 8 3,o 9 (.un .neg 8),m 3 9]
def r4:=[m 10 0,ls 11 10 k0,m 12 3,o 13 (.conv .u32 12),m 14 3,bi 15 .shr 14 (.c (.int .u64 (32))),o 16 (.conv .u32 15),
 o 17 (.b9 17 1 [13,16]),ca 18 66 [17],o 19 (.c4 83 [11,18]),so 2 2 19]
def c:=(s (p r0) (s (d r1 [4,5]) (s (s (d r2 [6]) (i 7 (d r3 [7,8,9]) .skip)) (s (d r4 (rl [0,3,7] 10 10)) .ret))))
end JP
def JP:AFn:=⟨1,JP.c,[.cell 2 true 2],false⟩
namespace JQ
def r0:=[bx 1 0,mv 2 k0]
def r1:=[fa 4 1 1,uu 5 1 4,ca 6 67 [5,(.c .nil)],bi 7 .eql 6 k0,m 3 7]
def r2:=[mv 2 k0]
def r3:=[fa 9 1 0,uu 10 1 9,m 8 10]
def r4:=[mv 2 (k (-1))]
def r5:=[mv 2 k1]
def c:=(s (d r0 [0,2]) (s (b 0 (s (d r1 (ra 4 4)) (i 3 (s (d r2 [1,3]) .ret) (s (d r3 [1,3,9,10]) (i 8 (s (d r4 [8]) .ret) .skip))))) (s (d r5 [8]) .ret)))
end JQ
def JQ:AFn:=⟨1,JQ.c,[.tmp 2],false⟩
namespace JN
def r0:=[bx 2 0,bx 3 1,al 4 [(.bool false),.nil]]
def r1:=[fa 5 2 0,uu 6 1 5,fa 7 3 0,uu 8 1 7,o 9 (.beq false 6 8)]
def r2:=[fa 10 2 0,uu 11 1 10,fa 12 2 1,uu 13 1 12,fa 14 3 1,uu 15 1 14,ca 16 68 [13,15],
 o 17 (.c4 83 [11,16]),so 2 4 17]
def r3:=[fa 18 2 1,uu 19 1 18,fa 20 3 1,uu 21 1 20,ca 22 67 [19,21],bi 23 .eql 22 (k (-1))]
def r4:=[fa 24 3 0,uu 25 1 24,fa 26 3 1,uu 27 1 26,fa 28 2 1,uu 29 1 28,ca 30 69 [27,29],
 o 31 (.c4 83 [25,30]),so 2 4 31]
def r5:=[fa 32 2 0,uu 33 1 32,fa 34 2 1,uu 35 1 34,fa 36 3 1,uu 37 1 36,ca 38 69 [35,37],
 o 39 (.c4 83 [33,38]),so 2 4 39]
def c:=(s (d r0 [0,1]) (s (s (d r1 (ra 5 4)) (i 9 (s (e r2 (rl [2,3] 9 9)) .ret) .skip)) (s (s (d r3 (rl [9] 18 5)) (i 23 (s (e r4 (rl [2,3] 23 9)) .ret) .skip)) (s (e r5 (rl [2,3,23] 32 8)) .ret))))
end JN
def JN:AFn:=⟨2,JN.c,[.cell 4 true 2],false⟩
namespace JO
def r0:=[bx 2 0,bx 3 1,al 4 [(.bool false),.nil]]
def r1:=[fa 5 2 0,uu 6 1 5,fa 7 3 0,uu 8 1 7,o 9 (.beq true 6 8),fa 10 2 1,uu 11 1 10,fa 12 3 1,
 uu 13 1 12,ca 14 70 [11,13],o 15 (.c4 83 [9,14]),so 2 4 15]
def c:=(s (d r0 [0,1]) (s (e r1 (rl [2,3] 5 11)) .ret))
end JO
def JO:AFn:=⟨2,JO.c,[.cell 4 true 2],false⟩
namespace HA
def r0:=[bx 1 0,al 2 [(.bool false),.nil,.nil,(.bool false)]]
def r1:=[fa 3 1 2,uu 4 1 3,ln 5 4,bi 6 .eql 5 k1,m 7 6,g 8 7 true (.m4 1 2),g 9 7 true (.ld false 1 8),
 g 10 7 true (.o6 none 1 9 k0),g 11 7 true (.ld false 1 10),g 12 7 true (.bin .eql 11 (.c (.int .u32 (1)))),pk 13 7 12 kf]
def r2:=[fa 14 1 0,tt 15 2 14,fa 16 1 2,uu 17 1 16,o 18 (.build z3 [(0,2,15),(2,1,17)]),
 o 19 (.build [(.bool false),.nil,.nil,(.bool false)] [(0,3,18),(3,1,kt)]),so 4 2 19]
def r3:=[fa 20 1 2,uu 21 1 20,ca 22 67 [21,(.c .nil)],bi 23 .eql 22 k0]
def r4:=[o 24 (.build [(.bool false),.nil] []),o 25 (.b9 25 1 [(.c (.int .u32 (1)))]),o 26 (.build z3 [(0,2,24),(2,1,25)]),
 o 27 (.build [(.bool false),.nil,.nil,(.bool false)] [(0,3,26),(3,1,kt)]),so 4 2 27]
def r5:=[fa 28 1 0,tt 29 2 28,fa 30 1 2,uu 31 1 30,o 32 (.build z3 [(0,2,29),(2,1,31)]),
 o 33 (.build [(.bool false),.nil,.nil,(.bool false)] [(0,3,32),(3,1,kf)]),so 4 2 33]
def c:=(s (d r0 [0]) (s (s (d r1 (ra 3 10)) (i 13 (s (d r2 (rl [1] 13 7)) .ret) .skip)) (s (s (d r3 [13,20,21,22]) (i 23 (s (d r4 (rl [1] 23 5)) .ret) .skip)) (s (d r5 (rl [1,23] 28 6)) .ret))))
end HA
def HA:AFn:=⟨1,HA.c,[.cell 2 true 4],false⟩
namespace KV
def r0:=[mv 2 kf]
def r1:=[m 3 0,ln 4 3,bi 5 .eql 4 k1,m 6 5,g 7 6 true (.m8 0),g 8 6 true (.o6 none 1 7 k0),g 9 6 true (.ld false 1 8),
 g 10 6 true (.bin .eql 9 (.c (.int .u32 (1)))),pk 11 6 10 kf,m 2 11]
def c:=(s (d r0 [2]) (s (d r1 (rl [0] 3 9)) .ret))
end KV
def KV:AFn:=⟨1,KV.c,[.tmp 2],false⟩
namespace KW
def r0:=[al 2 [(.bool false),.nil]]
def r1:=[m 3 0,o 4 (.build [(.bool false),.nil] [(1,1,3)]),so 2 2 4]
def c:=(s (p r0) (s (d r1 [0,3,4]) .ret))
end KW
def KW:AFn:=⟨1,KW.c,[.cell 2 true 2],false⟩
namespace F9
def r0:=[o 1 (.box 92001 0),o 2 (.alloc 92002 z3)]
def r1:=[tt 3 2 1,o 4 (.b9 92004 1 [(.c (.int .u32 (1)))]),o 5 (.build z3 [(0,2,3),(2,1,4)]),so 3 2 5]
def c:=(s (d r0 [0]) (s (d r1 [1,3,4,5]) .ret))
end F9
def F9:AFn:=⟨1,F9.c,[.cell 2 true 3],false⟩
namespace KY
def r0:=[o 2 (.box 93002 0),o 3 (.box 93003 1),o 4 (.alloc 93004 z3)]
def r1:=[fa 5 2 0,uu 6 1 5,fa 7 3 0,uu 8 1 7,o 9 (.beq true 6 8),fa 10 2 1,uu 11 1 10,
 o 12 (.build [(.bool false),.nil] [(0,1,9),(1,1,11)]),fa 13 3 1,uu 14 1 13,
 o 15 (.build z3 [(0,2,12),(2,1,14)]),so 3 4 15]
def c:=(s (d r0 [0,1]) (s (d r1 (rl [2,3] 5 11)) .ret))
end KY
def KY:AFn:=⟨2,KY.c,[.cell 4 true 3],false⟩
namespace KX
def r0:=[bx 1 0,al 2 z3]
def r1:=[fa 14 1 0,fa 15 14 1,uu 16 1 15,fa 17 1 2,uu 18 1 17,ca 19 75 [16,18],m 13 19,et 20 13 0,
 et 21 13 1,et 22 13 2,m 3 20,m 4 21,m 5 22]
def r2:=[m 23 4,ln 24 23,bi 25 .eql 24 k0]
def r3:=[fa 26 1 0,fa 27 26 0,uu 28 1 27,m 29 3,o 30 (.build [(.bool false),.nil] [(0,1,28),(1,1,29)]),ca 31 84 [30],
 o 32 (.c4 92 [31]),so 3 2 32]
def r4:=[fa 33 1 2,uu 34 1 33,m 35 4,ca 36 82 [34,35],m 6 36]
def r5:=[m 37 6,ca 38 90 [37]]
def r6:=[fa 39 1 0,tt 40 2 39,ca 41 84 [40],fa 42 1 2,uu 43 1 42,ca 44 66 [43],
 o 45 (.build z3 [(0,2,41),(2,1,44)]),so 3 2 45]
def r7:=[fa 47 1 0,fa 48 47 1,uu 49 1 48,m 50 6,ca 51 75 [49,50],m 46 51,et 52 46 0,et 53 46 1,et 54 46 2,
 m 7 52,m 8 53,m 9 54]
def r8:=[fa 56 1 2,uu 57 1 56,m 58 6,ca 59 75 [57,58],m 55 59,et 60 55 0,et 61 55 1,et 62 55 2,m 10 60,m 11 61,
 m 12 62]
def r9:=[fa 63 1 0,fa 64 63 0,uu 65 1 64,m 66 7,o 67 (.build [(.bool false),.nil] [(0,1,65),(1,1,66)]),m 68 10,
 o 69 (.build z3 [(0,2,67),(2,1,68)]),so 3 2 69]
def c:=(s (d r0 [0]) (s (d r1 (rl [5] 13 10)) (s (s (d r2 [23,24]) (i 25 (s (d r3 (rl [1,3,4] 25 8)) .ret) .skip)) (s (d r4 (rl [3,4,25] 33 4)) (s (s (d r5 [37]) (i 38 (s (e r6 (rl [1,6] 38 8)) .ret) .skip)) (s (d r7 (rl [8,9,38] 46 9)) (s (d r8 (rl [6,11,12] 55 8)) (s (d r9 (rl [1,7,10] 63 7)) .ret))))))))
end KX
def KX:AFn:=⟨1,KX.c,[.cell 2 true 3],false⟩
namespace KU
def r0:=[bx 1 0,al 2 z3]
def r1:=[tt 3 3 1,o 4 (.l7 89 [3]),o 5 (.gu 4 0 3 true),ca 6 94 [5],so 3 2 6]
def c:=(s (d r0 [0]) (s (d r1 [1,3,4,5,6]) .ret))
end KU
def KU:AFn:=⟨1,KU.c,[.cell 2 true 3],false⟩
namespace KS
def r0:=[al 2 z3]
def r1:=[m 3 0,ca 4 85 [3],o 5 (.c4 92 [4]),so 3 2 5]
def c:=(s (p r0) (s (d r1 [0,3,4,5]) .ret))
end KS
def KS:AFn:=⟨1,KS.c,[.cell 2 true 3],false⟩
namespace KT
def r0:=[bx 1 0,mv 2 k0]
def r1:=[tt 3 3 1,o 4 (.l7 89 [3]),o 5 (.gu 4 0 3 true),o 6 (.gu 5 0 2 true),ca 7 86 [6],m 2 7]
def c:=(s (d r0 [0,2]) (s (d r1 (rl [1] 3 5)) .ret))
end KT
def KT:AFn:=⟨1,KT.c,[.tmp 2],false⟩
namespace G9
def r0:=[bx 2 0,bx 3 1,al 4 z3]
def r1:=[q 8 [5,6] (.ld true 3 2),q 9 [5,6] (.l7 89 [8]),q 10 [5,6] (.ld true 3 3),q 11 [5,6] (.l7 89 [10]),
 al 5 [(.bool false),.nil,.nil,(.bool false)],al 6 [(.bool false),.nil,.nil,(.bool false)],so 4 5 9,so 4 6 11]
def r2:=[fa 12 5 3,uu 13 1 12,m 14 13,g 15 14 true (.m4 6 3),g 16 14 true (.ld false 1 15),pk 17 14 16 kf]
def r3:=[fa 18 5 0,fa 19 18 0,tt 20 2 19,fa 21 6 0,fa 22 21 0,tt 23 2 22,ca 24 87 [20,23],
 o 25 (.c4 92 [24]),so 3 4 25]
def r4:=[fa 26 5 0,fa 27 26 2,uu 28 1 27,fa 29 6 0,fa 30 29 2,uu 31 1 30,ca 32 67 [28,31],
 bi 33 .eql 32 k0]
def r5:=[fa 34 5 0,fa 35 34 0,tt 36 2 35,fa 37 6 0,fa 38 37 0,tt 39 2 38,ca 40 87 [36,39],
 fa 41 5 0,fa 42 41 2,uu 43 1 42,o 44 (.build z3 [(0,2,40),(2,1,43)]),ca 45 94 [44],
 so 3 4 45]
def r6:=[fa 46 5 0,fa 47 46 0,q 48 [7] (.ld true 2 47),fa 49 6 0,fa 50 49 2,q 51 [7] (.ld false 1 50),
 q 52 [7] (.l7 91 [51]),q 53 [7] (.call 88 [48,52]),fa 54 6 0,fa 55 54 0,q 56 [7] (.ld true 2 55),
 fa 57 5 0,fa 58 57 2,q 59 [7] (.ld false 1 58),q 60 [7] (.l7 91 [59]),q 61 [7] (.call 88 [56,60]),
 q 62 [7] (.call 87 [53,61]),al 7 [(.bool false),.nil],so 2 7 62]
def r7:=[tt 63 2 7,fa 64 5 0,fa 65 64 2,uu 66 1 65,fa 67 6 0,fa 68 67 2,uu 69 1 68,
 ca 70 70 [66,69],o 71 (.build z3 [(0,2,63),(2,1,70)]),ca 72 94 [71],so 3 4 72]
def c:=(s (d r0 [0,1]) (s (e r1 (rl [2,3] 8 4)) (s (s (d r2 (ra 12 5)) (i 17 (s (d r3 (rl [5,6] 17 9)) .ret) .skip)) (s (s (d r4 (rl [17] 26 7)) (i 33 (s (e r5 (rl [5,6] 33 13)) .ret) .skip)) (s (e r6 (rl [33] 46 17)) (s (e r7 (rl [5,6,7] 63 10)) .ret))))))
end G9
def G9:AFn:=⟨2,G9.c,[.cell 4 true 3],false⟩
namespace H8
def r0:=[bx 2 0,bx 3 1,al 4 z3]
def r1:=[q 8 [5,6] (.ld true 3 2),q 9 [5,6] (.l7 89 [8]),q 10 [5,6] (.ld true 3 3),q 11 [5,6] (.l7 89 [10]),
 al 5 [(.bool false),.nil,.nil,(.bool false)],al 6 [(.bool false),.nil,.nil,(.bool false)],so 4 5 9,so 4 6 11]
def r2:=[fa 12 5 0,fa 13 12 0,tt 14 2 13,fa 15 6 0,fa 16 15 0,tt 17 2 16,ca 18 88 [14,17],
 al 7 [(.bool false),.nil],so 2 7 18]
def r3:=[fa 19 5 3,uu 20 1 19,m 21 20,g 22 21 true (.m4 6 3),g 23 21 true (.ld false 1 22),pk 24 21 23 kf]
def r4:=[tt 25 2 7,o 26 (.c4 92 [25]),so 3 4 26]
def r5:=[tt 27 2 7,fa 28 5 0,fa 29 28 2,uu 30 1 29,fa 31 6 0,fa 32 31 2,uu 33 1 32,
 ca 34 70 [30,33],o 35 (.build z3 [(0,2,27),(2,1,34)]),ca 36 94 [35],so 3 4 36]
def c:=(s (d r0 [0,1]) (s (e r1 (rl [2,3] 8 4)) (s (d r2 (ra 12 7)) (s (s (d r3 (ra 19 5)) (i 24 (s (d r4 [5,6,7,24,25,26]) .ret) .skip)) (s (e r5 (rl [5,6,7,24] 27 10)) .ret)))))
end H8
def H8:AFn:=⟨2,H8.c,[.cell 4 true 3],false⟩
structure a5 (L:Lib):Prop extends a9 L where
 CO:L 83=some F.CO
 JR:L 84=some F.JR
 JP:L 85=some F.JP
 JQ:L 86=some F.JQ
 JN:L 87=some F.JN
 JO:L 88=some F.JO
 HA:L 89=some F.HA
 KV:L 90=some F.KV
 KW:L 91=some F.KW
 F9:L 92=some F.F9
 KY:L 93=some F.KY
 KX:L 94=some F.KX
 KU:L 95=some F.KU
 KS:L 96=some F.KS
 KT:L 97=some F.KT
 G9:L 98=some F.G9
 H8:L 99=some F.H8
end Go.c8.F

namespace Go.c8.F
open C
namespace GA
def r0:=[mv 2 (.c .nil)]
def r1:=[m 4 0,ln 5 4,m 3 5]
def r2:=[m 6 3,bi 7 .gtr 6 k0,m 8 7,g 9 8 true (.m8 0),g 10 8 true (.m8 3),g 11 8 true (.bin .sub 10 k1),g 12 8 true (.o6 none 1 9 11),
 g 13 8 true (.ld false 1 12),g 14 8 true (.bin .eql 13 (.c (.int .u32 (0)))),pk 15 8 14 kf]
def r3:=[m 16 3,sb 17 16 k1,m 3 17]
def r4:=[m 18 0,m 19 3,o 20 (.de 1 18 none (some 19)),o 21 (.app 101021 1 4 (.c .nil) 20),m 2 21]
def l1:=(s (s (d r2 (ra 6 9)) (i 15 .skip (x 0))) (b 1 (d r3 [15,16,17])))
def c:=(s (d r0 [2]) (s (d r1 [4,5]) (s (b 0 (w l1)) (s (d r4 (rl [0,3,15] 18 4)) .ret))))
end GA
def GA:AFn:=⟨1,GA.c,[.tmp 2],false⟩
namespace K1
def r0:=[mv 4 k0]
def r1:=[m 6 0,ca 7 101 [6],m 8 1,ca 9 101 [8],m 0 7,m 1 9]
def r2:=[m 10 0,ln 11 10,m 12 1,ln 13 12,bi 14 .neq 11 13]
def r3:=[m 15 0,ln 16 15,m 17 1,ln 18 17,ls 19 16 18]
def r4:=[mv 4 (k (-1))]
def r5:=[mv 4 k1]
def r6:=[m 20 0,ln 21 20,sb 22 21 k1,m 5 22]
def r7:=[m 23 5,bi 24 .geq 23 k0]
def r9:=[m 27 0,m 28 5,ia 29 1 27 28,uu 30 1 29,m 31 1,m 32 5,ia 33 1 31 32,uu 34 1 33,ls 35 30 34]
def BW:=[mv 4 (k (-1))]
def BZ:=[m 36 0,m 37 5,ia 38 1 36 37,uu 39 1 38,m 40 1,m 41 5,ia 42 1 40 41,uu 43 1 42,bi 44 .gtr 39 43]
def s9:=[mv 4 k1]
def r8:=[m 25 5,sb 26 25 k1,m 5 26]
def CT:=[mv 4 k0]
def l1:=(s (s (d r7 [23]) (i 24 .skip (x 0))) (s (b 1 (s (s (e r9 (rl [24] 27 8)) (i 35 (s (d BW [0,1,5,35]) .ret) .skip)) (s (e BZ (ra 35 9)) (i 44 (s (d s9 [0,1,5,44]) .ret) .skip)))) (d r8 [25,26,44])))
def c:=(s (d r0 [4]) (s (d r1 (ra 6 4)) (s (s (d r2 (ra 10 4)) (i 14 (s (s (d r3 (rl [0,1] 14 5)) (i 19 (s (d r4 [19]) .ret) .skip)) (s (d r5 [19]) .ret)) .skip)) (s (s (d r6 [14,20,21,22]) (b 0 (w l1))) (s (d CT [0,1,5,24]) .ret)))))
end K1
def K1:AFn:=⟨2,K1.c,[.tmp 4],false⟩
namespace KZ
def r0:=[mv 4 (.c .nil)]
def r1:=[o 5 (.u9 5 1)]
def r2:=[mv 6 (.c (.int .u64 (0)))]
def r3:=[mv 7 k0]
def r4:=[m 8 7,m 9 0,ln 10 9,ls 11 8 10,m 12 11,g 13 12 false (.m8 7),g 14 12 false (.m8 1),g 15 12 false (.len 14),
 g 16 12 false (.bin .lss 13 15),pk 17 12 kt 16]
def r6:=[m 20 7,m 21 0,ln 22 21,ls 23 20 22]
def r7:=[m 24 6,m 25 0,m 26 7,ia 27 1 25 26,uu 28 1 27,cu 29 28,ad 30 24 29,m 6 30]
def r8:=[m 31 7,m 32 1,ln 33 32,ls 34 31 33]
def r9:=[m 35 6,m 36 1,m 37 7,ia 38 1 36 37,uu 39 1 38,cu 40 39,ad 41 35 40,m 6 41]
def BW:=[m 42 5,m 43 6,o 44 (.conv .u32 43),o 45 (.b9 45 1 [44]),o 46 (.app 46 1 4 42 45),m 5 46]
def BZ:=[m 47 6,bi 48 .shr 47 (.c (.int .u64 (32))),m 6 48]
def r5:=[m 18 7,ad 19 18 k1,m 7 19]
def s9:=[m 49 5,m 50 6,o 51 (.conv .u32 50),o 52 (.b9 52 1 [51]),o 53 (.app 53 1 4 49 52),ca 54 101 [53],m 4 54]
def l1:=(s (s (d r4 (ra 8 9)) (i 17 .skip (x 0))) (s (b 1 (s (s (d r6 [17,20,21,22]) (i 23 (d r7 (ra 23 8)) .skip)) (s (s (d r8 [23,31,32,33]) (i 34 (d r9 (ra 34 8)) .skip)) (s (d BW (rl [34] 42 5)) (d BZ [47,48]))))) (d r5 [18,19])))
def c:=(s (d r0 [4]) (s (p r1) (s (p r2) (s (s (p r3) (b 0 (w l1))) (s (d s9 (rl [0,1,5,6,7,17] 49 6)) .ret)))))
end KZ
def KZ:AFn:=⟨2,KZ.c,[.tmp 4],false⟩
namespace HR
def r0:=[mv 4 (.c .nil)]
def r1:=[m 10 0,m 11 1,ca 12 102 [10,11],ls 13 12 k0]
def r2:=[mv 4 (.c .nil)]
def r3:=[m 14 1,ca 15 101 [14],m 1 15]
def r4:=[m 16 0,o 17 (.c4 101 [16]),m 5 17]
def r5:=[mv 6 (.c (.int .u64 (0)))]
def r6:=[mv 7 k0]
def r7:=[m 18 7,m 19 5,ln 20 19,ls 21 18 20]
def r9:=[m 24 6,m 8 24]
def BW:=[m 25 7,m 26 1,ln 27 26,ls 28 25 27]
def BZ:=[m 29 8,m 30 1,m 31 7,ia 32 1 30 31,uu 33 1 32,cu 34 33,ad 35 29 34,m 8 35]
def s9:=[m 36 5,m 37 7,ia 38 1 36 37,uu 39 1 38,cu 40 39,m 9 40]
def CT:=[mv 6 (.c (.int .u64 (0)))]
def x7:=[m 41 9,m 42 8,ls 43 41 42]
def ah:=[m 44 9,ad 45 44 (.c (.int .u64 (4294967296))),m 9 45]
def br:=[mv 6 (.c (.int .u64 (1)))]
def EP:=[m 46 5,m 47 7,m 48 9,m 49 8,sb 50 48 49,o 51 (.conv .u32 50),ia 52 1 46 47,so 1 52 51]
def r8:=[m 22 7,ad 23 22 k1,m 7 23]
def bu:=[m 53 5,ca 54 101 [53],m 4 54]
def l1:=(s (s (d r7 [18,19,20]) (i 21 .skip (x 0))) (s (b 1 (s (d r9 [6,21,24]) (s (s (d BW [25,26,27]) (i 28 (d BZ (ra 28 8)) .skip)) (s (d s9 (rl [28] 36 5)) (s (p CT) (s (s (d x7 [41,42]) (i 43 (s (d ah [6,43,44,45]) (p br)) .skip)) (d EP (rl [8,9,43] 46 7)))))))) (d r8 [22,23])))
def c:=(s (d r0 [4]) (s (s (d r1 [10,11,12]) (i 13 (s (d r2 [0,1,13]) .ret) .skip)) (s (d r3 [13,14,15]) (s (d r4 [0,16,17]) (s (p r5) (s (s (p r6) (b 0 (w l1))) (s (d bu [1,5,6,7,21,53,54]) .ret)))))))
end HR
def HR:AFn:=⟨2,HR.c,[.tmp 4],false⟩
namespace K3
def r0:=[mv 4 (.c .nil)]
def r1:=[m 9 0,ln 10 9,m 11 1,ln 12 11,ad 13 10 12,ad 14 13 k1,o 15 (.mk 15 1 4 [(.int .u32 (0))] 14 14),m 5 15]
def r2:=[mv 6 k0]
def r3:=[m 16 6,m 17 0,ln 18 17,ls 19 16 18]
def r5:=[mv 7 (.c (.int .u64 (0)))]
def r6:=[mv 8 k0]
def r7:=[m 22 8,m 23 1,ln 24 23,ls 25 22 24]
def r9:=[m 28 7,m 29 0,m 30 6,ia 31 1 29 30,uu 32 1 31,cu 33 32,m 34 1,m 35 8,ia 36 1 34 35,
 uu 37 1 36,cu 38 37,bi 39 .mul 33 38,m 40 5,m 41 6,m 42 8,ad 43 41 42,ia 44 1 40 43,
 uu 45 1 44,cu 46 45,ad 47 39 46,ad 48 28 47,m 7 48]
def BW:=[m 49 5,m 50 6,m 51 8,ad 52 50 51,m 53 7,o 54 (.conv .u32 53),ia 55 1 49 52,so 1 55 54]
def BZ:=[m 56 7,bi 57 .shr 56 (.c (.int .u64 (32))),m 7 57]
def r8:=[m 26 8,ad 27 26 k1,m 8 27]
def s9:=[m 58 5,m 59 6,m 60 1,ln 61 60,ad 62 59 61,m 63 7,o 64 (.conv .u32 63),ia 65 1 58 62,so 1 65 64]
def r4:=[m 20 6,ad 21 20 k1,m 6 21]
def CT:=[m 66 5,ca 67 101 [66],m 4 67]
def l2:=(s (s (d r7 [22,23,24]) (i 25 .skip (x 2))) (s (b 3 (s (e r9 (rl [25] 28 21)) (s (d BW (ra 49 7)) (d BZ [56,57])))) (d r8 [26,27])))
def l1:=(s (s (d r3 [16,17,18]) (i 19 .skip (x 0))) (s (b 1 (s (d r5 [19]) (s (s (p r6) (b 2 (w l2))) (d s9 (rl [7,8,25] 58 8))))) (d r4 [20,21])))
def c:=(s (d r0 [4]) (s (d r1 (ra 9 7)) (s (s (p r2) (b 0 (w l1))) (s (d CT [0,1,5,6,19,66,67]) .ret))))
end K3
def K3:AFn:=⟨2,K3.c,[.tmp 4],false⟩
namespace K0
def r0:=[mv 2 k0]
def r1:=[m 5 0,ca 6 101 [5],m 0 6]
def r2:=[m 7 0,ln 8 7,bi 9 .eql 8 k0]
def r3:=[mv 2 k0]
def r4:=[m 10 0,ln 11 10,sb 12 11 k1,bi 13 .mul (k 32) 12,m 3 13]
def r5:=[m 14 0,m 15 0,ln 16 15,sb 17 16 k1,ia 18 1 14 17,uu 19 1 18,m 4 19]
def r6:=[m 20 4,bi 21 .gtr 20 (.c (.int .u32 (0)))]
def r8:=[m 24 3,ad 25 24 k1,m 3 25]
def r7:=[m 22 4,bi 23 .shr 22 (.c (.int .u64 (1))),m 4 23]
def r9:=[m 26 3,m 2 26]
def l1:=(s (s (d r6 [20]) (i 21 .skip (x 0))) (s (b 1 (d r8 [21,24,25])) (d r7 [22,23])))
def c:=(s (d r0 [2]) (s (d r1 [5,6]) (s (s (d r2 [7,8]) (i 9 (s (d r3 [0,9]) .ret) .skip)) (s (d r4 (ra 9 5)) (s (s (d r5 (rl [0] 14 6)) (b 0 (w l1))) (s (d r9 [3,4,21,26]) .ret))))))
end K0
def K0:AFn:=⟨1,K0.c,[.tmp 2],false⟩
namespace HB
def r0:=[mv 4 (.c .nil)]
def r1:=[m 11 0,ca 12 101 [11],m 0 12]
def r2:=[m 13 1,bi 14 .gtr 13 (k 65536),m 15 14,g 16 15 false (.m8 0),g 17 15 false (.len 16),g 18 15 false (.bin .eql 17 k0),
 pk 19 15 kt 18]
def r3:=[mv 4 (.c .nil)]
def r4:=[m 20 1,ls 21 20 k0]
def r5:=[m 22 1,m 23 0,ln 24 23,bi 25 .mul (k (-32)) 24,ls 26 22 25]
def r6:=[mv 4 (.c .nil)]
def r7:=[m 27 1,o 28 (.un .neg 27),m 1 28]
def r8:=[o 5 (.u9 107005 1)]
def r9:=[m 29 1,bi 30 .quo 29 (k 32),m 6 30]
def BW:=[m 31 6,m 32 0,ln 33 32,ls 34 31 33]
def s9:=[m 37 0,m 38 6,ia 39 1 37 38,uu 40 1 39,cu 41 40,m 7 41]
def CT:=[m 42 6,ad 43 42 k1,m 44 0,ln 45 44,ls 46 43 45]
def x7:=[m 47 7,m 48 0,m 49 6,ad 50 49 k1,ia 51 1 48 50,uu 52 1 51,cu 53 52,
 bi 54 .shl 53 (.c (.int .u64 (32))),bi 55 .or 47 54,m 7 55]
def ah:=[m 56 5,m 57 7,m 58 1,bi 59 .rem 58 (k 32),cu 60 59,bi 61 .shr 57 60,o 62 (.conv .u32 61),o 63 (.b9 107063 1 [62]),
 o 64 (.app 107064 1 4 56 63),m 5 64]
def BZ:=[m 35 6,ad 36 35 k1,m 6 36]
def br:=[m 65 5,ca 66 101 [65],m 4 66]
def EP:=[m 67 1,bi 68 .quo 67 (k 32),o 69 (.mk 107069 1 4 [(.int .u32 (0))] 68 68),m 8 69]
def bu:=[mv 9 (.c (.int .u64 (0)))]
def fc:=[mv 10 k0]
def fr:=[m 70 10,m 71 0,ln 72 71,ls 73 70 72]
def ik:=[m 76 9,m 77 0,m 78 10,ia 79 1 77 78,uu 80 1 79,cu 81 80,m 82 1,bi 83 .rem 82 (k 32),cu 84 83,
 bi 85 .shl 81 84,bi 86 .or 76 85,m 9 86]
def jv:=[m 87 8,m 88 9,o 89 (.conv .u32 88),o 90 (.b9 107090 1 [89]),o 91 (.app 107091 1 4 87 90),m 8 91]
def KP:=[m 92 9,bi 93 .shr 92 (.c (.int .u64 (32))),m 9 93]
def ij:=[m 74 10,ad 75 74 k1,m 10 75]
def KQ:=[m 94 8,m 95 9,o 96 (.conv .u32 95),o 97 (.b9 107097 1 [96]),o 98 (.app 107098 1 4 94 97),o 99 (.c4 101 [98]),m 4 99]
def l1:=(s (s (d BW [31,32,33]) (i 34 .skip (x 0))) (s (b 1 (s (d s9 (rl [34] 37 5)) (s (s (d CT (ra 42 4)) (i 46 (d x7 (ra 46 10)) .skip)) (d ah (rl [7,46] 56 9))))) (d BZ [35,36])))
def l2:=(s (s (d fr [70,71,72]) (i 73 .skip (x 2))) (s (b 3 (s (d ik (rl [73] 76 11)) (s (d jv (ra 87 5)) (d KP [92,93])))) (d ij [74,75])))
def c:=(s (d r0 [4]) (s (d r1 [11,12]) (s (s (d r2 (ra 13 6)) (i 19 (s (d r3 [0,1,19]) .ret) .skip)) (s (s (d r4 [19,20]) (i 21 (s (s (d r5 (ra 21 5)) (i 26 (s (d r6 [0,1,26]) .ret) .skip)) (s (d r7 [26,27,28]) (s (p r8) (s (s (d r9 [29,30]) (b 0 (w l1))) (s (d br [0,1,5,6,34,65,66]) .ret))))) .skip)) (s (d EP [21,67,68,69]) (s (p bu) (s (s (p fc) (b 2 (w l2))) (s (d KQ (rl [0,1,8,9,10,73] 94 6)) .ret))))))))
end HB
def HB:AFn:=⟨2,HB.c,[.tmp 4],false⟩
namespace K4
def r0:=[mv 4 (.c .nil),mv 5 (.c (.int .u32 (0)))]
def r1:=[m 9 0,ln 10 9,o 11 (.mk 11 1 4 [(.int .u32 (0))] 10 10),m 6 11]
def r2:=[mv 7 (.c (.int .u64 (0)))]
def r3:=[m 12 0,ln 13 12,sb 14 13 k1,m 8 14]
def r4:=[m 15 8,bi 16 .geq 15 k0]
def r6:=[m 19 7,bi 20 .shl 19 (.c (.int .u64 (32))),m 21 0,m 22 8,ia 23 1 21 22,uu 24 1 23,cu 25 24,
 bi 26 .or 20 25,m 7 26]
def r7:=[m 27 6,m 28 8,m 29 7,m 30 1,cu 31 30,bi 32 .quo 29 31,o 33 (.conv .u32 32),ia 34 1 27 28,so 1 34 33]
def r8:=[m 35 7,m 36 1,cu 37 36,bi 38 .rem 35 37,m 7 38]
def r5:=[m 17 8,sb 18 17 k1,m 8 18]
def r9:=[m 39 6,ca 40 101 [39],m 41 7,o 42 (.conv .u32 41),m 4 40,m 5 42]
def l1:=(s (s (d r4 [15]) (i 16 .skip (x 0))) (s (b 1 (s (d r6 (rl [16] 19 8)) (s (d r7 (ra 27 8)) (d r8 (ra 35 4))))) (d r5 [17,18])))
def c:=(s (d r0 [4,5]) (s (d r1 [9,10,11]) (s (p r2) (s (s (d r3 [12,13,14]) (b 0 (w l1))) (s (d r9 (rl [0,1,6,7,8,16] 39 4)) .ret)))))
end K4
def K4:AFn:=⟨2,K4.c,[.tmp 4,.tmp 5],false⟩
namespace CZ
def r0:=[mv 4 (.c .nil),mv 5 (.c .nil),mv 6 k0]
def r1:=[m 27 0,ca 28 101 [27],m 29 1,ca 30 101 [29],m 0 28,m 1 30]
def r2:=[m 31 1,ln 32 31,bi 33 .eql 32 k0]
def r3:=[mv 4 (.c .nil),mv 5 (.c .nil),mv 6 (k 3)]
def r4:=[m 34 1,ln 35 34,bi 36 .eql 35 k1]
def r5:=[m 38 0,m 39 1,ia 40 1 39 k0,uu 41 1 40,ca 42 108 [38,41],m 37 42,et 43 37 0,et 44 37 1,m 7 43,m 8 44]
def r6:=[m 45 7,m 46 8,o 47 (.b9 47 1 [46]),ca 48 101 [47],m 4 45,m 5 48,mv 6 k0]
def r7:=[m 49 0,m 50 1,ca 51 102 [49,50],ls 52 51 k0]
def r8:=[m 53 0,mv 4 (.c .nil),m 5 53,mv 6 k0]
def r9:=[m 54 1,m 55 1,ln 56 55,sb 57 56 k1,o 58 (.de 1 54 (some 57) none),ca 59 106 [58],sb 60 (k 32) 59,m 9 60]
def BW:=[m 61 0,m 62 9,o 63 (.c4 107 [61,62]),m 64 1,m 65 9,ca 66 107 [64,65],m 10 63,m 11 66]
def BZ:=[m 67 10,o 68 (.b9 68 1 [(.c (.int .u32 (0)))]),o 69 (.app 69 1 4 67 68),m 10 69]
def s9:=[m 70 10,ln 71 70,m 72 0,ln 73 72,ad 74 73 k1,ls 75 71 74]
def CT:=[m 76 10,o 77 (.b9 77 1 [(.c (.int .u32 (0)))]),o 78 (.app 78 1 4 76 77),m 10 78]
def x7:=[m 79 11,ln 80 79,m 12 80]
def ah:=[m 81 10,ln 82 81,m 83 12,sb 84 82 83,o 85 (.mk 85 1 4 [(.int .u32 (0))] 84 84),m 13 85]
def br:=[m 86 10,ln 87 86,m 88 12,sb 89 87 88,sb 90 89 k1,m 14 90]
def EP:=[m 91 14,bi 92 .geq 91 k0]
def fc:=[m 95 10,m 96 14,m 97 12,ad 98 96 97,ia 99 1 95 98,uu 100 1 99,cu 101 100,
 bi 102 .shl 101 (.c (.int .u64 (32))),m 103 10,m 104 14,m 105 12,ad 106 104 105,sb 107 106 k1,
 ia 108 1 103 107,uu 109 1 108,cu 110 109,bi 111 .or 102 110,m 15 111]
def fr:=[m 112 15,m 113 11,m 114 12,sb 115 114 k1,ia 116 1 113 115,uu 117 1 116,cu 118 117,
 bi 119 .quo 112 118,m 16 119]
def ij:=[m 120 15,m 121 11,m 122 12,sb 123 122 k1,ia 124 1 121 123,uu 125 1 124,cu 126 125,
 bi 127 .rem 120 126,m 17 127]
def ik:=[m 128 16,bi 129 .geq 128 (.c (.int .u64 (4294967296))),m 130 129,g 131 130 false (.m8 16),g 132 130 false (.m8 11),g 133 130 false (.m8 12),
 g 134 130 false (.bin .sub 133 (k 2)),g 135 130 false (.o6 none 1 132 134),g 136 130 false (.ld false 1 135),g 137 130 false (.conv .u64 136),
 g 138 130 false (.bin .mul 131 137),g 139 130 false (.m8 17),g 140 130 false (.bin .shl 139 (.c (.int .u64 (32)))),g 141 130 false (.m8 10),
 g 142 130 false (.m8 14),g 143 130 false (.m8 12),g 144 130 false (.bin .add 142 143),g 145 130 false (.bin .sub 144 (k 2)),
 g 146 130 false (.o6 none 1 141 145),g 147 130 false (.ld false 1 146),g 148 130 false (.conv .u64 147),g 149 130 false (.bin .or 140 148),
 g 150 130 false (.bin .gtr 138 149),pk 151 130 kt 150]
def jv:=[m 152 16,sb 153 152 (.c (.int .u64 (1))),m 16 153]
def KP:=[m 154 17,m 155 11,m 156 12,sb 157 156 k1,ia 158 1 155 157,uu 159 1 158,cu 160 159,
 ad 161 154 160,m 17 161]
def KQ:=[m 162 17,bi 163 .geq 162 (.c (.int .u64 (4294967296)))]
def MY:=[mv 18 (.c (.int .u64 (0))),mv 19 (.c (.int .u64 (0)))]
def SH:=[mv 20 k0]
def SI:=[m 164 20,m 165 12,ls 166 164 165]
def vu:=[m 169 19,m 170 16,m 171 11,m 172 20,ia 173 1 171 172,uu 174 1 173,cu 175 174,bi 176 .mul 170 175,
 ad 177 169 176,m 19 177]
def vy:=[m 178 19,bi 179 .and 178 (.c (.int .u64 (4294967295))),m 180 18,ad 181 179 180,m 21 181]
def Y2:=[m 182 19,bi 183 .shr 182 (.c (.int .u64 (32))),m 19 183]
def Y3:=[m 184 10,m 185 20,m 186 14,ad 187 185 186,ia 188 1 184 187,uu 189 1 188,cu 190 189,m 22 190]
def Y4:=[mv 18 (.c (.int .u64 (0)))]
def Y5:=[m 191 22,m 192 21,ls 193 191 192]
def Y6:=[m 194 22,ad 195 194 (.c (.int .u64 (4294967296))),m 22 195]
def Y7:=[mv 18 (.c (.int .u64 (1)))]
def Y8:=[m 196 10,m 197 20,m 198 14,ad 199 197 198,m 200 22,m 201 21,sb 202 200 201,o 203 (.conv .u32 202),ia 204 1 196 199,
 so 1 204 203]
def SJ:=[m 167 20,ad 168 167 k1,m 20 168]
def Hh:=[m 205 19,m 206 18,ad 207 205 206,m 23 207]
def Hi:=[m 208 10,m 209 14,m 210 12,ad 211 209 210,ia 212 1 208 211,uu 213 1 212,cu 214 213,m 24 214]
def Hj:=[mv 18 (.c (.int .u64 (0)))]
def Hk:=[m 215 24,m 216 23,ls 217 215 216]
def Hl:=[m 218 24,ad 219 218 (.c (.int .u64 (4294967296))),m 24 219]
def Hm:=[mv 18 (.c (.int .u64 (1)))]
def Hn:=[m 220 10,m 221 14,m 222 12,ad 223 221 222,m 224 24,m 225 23,sb 226 224 225,o 227 (.conv .u32 226),ia 228 1 220 223,
 so 1 228 227]
def Ho:=[m 229 18,bi 230 .eql 229 (.c (.int .u64 (1)))]
def Hp:=[m 231 16,sb 232 231 (.c (.int .u64 (1))),m 16 232]
def Hq:=[mv 25 (.c (.int .u64 (0)))]
def Hr:=[mv 26 k0]
def Qk:=[m 233 26,m 234 12,ls 235 233 234]
def Qm:=[m 238 25,m 239 10,m 240 26,m 241 14,ad 242 240 241,ia 243 1 239 242,uu 244 1 243,cu 245 244,m 246 11,
 m 247 26,ia 248 1 246 247,uu 249 1 248,cu 250 249,ad 251 245 250,ad 252 238 251,m 25 252]
def Qn:=[m 253 10,m 254 26,m 255 14,ad 256 254 255,m 257 25,o 258 (.conv .u32 257),ia 259 1 253 256,so 1 259 258]
def Qo:=[m 260 25,bi 261 .shr 260 (.c (.int .u64 (32))),m 25 261]
def Ql:=[m 236 26,ad 237 236 k1,m 26 237]
def Hs:=[m 262 10,m 263 14,m 264 12,ad 265 263 264,ia 266 1 262 265,uu 267 1 266,m 268 25,o 269 (.conv .u32 268),
 ad 270 267 269,ia 271 1 262 265,so 1 271 270]
def Ht:=[m 272 13,m 273 14,m 274 16,o 275 (.conv .u32 274),ia 276 1 272 273,so 1 276 275]
def bu:=[m 93 14,sb 94 93 k1,m 14 94]
def Fa:=[m 277 13,ca 278 101 [277],m 279 10,m 280 12,o 281 (.de 1 279 none (some 280)),m 282 9,o 283 (.un .neg 282),ca 284 107 [281,283],m 4 278,
 m 5 284,mv 6 k0]
def l1:=(s (s (d s9 (ra 70 5)) (i 75 .skip (x 0))) (b 1 (d CT (ra 75 4))))
def l3:=(s (s (e ik [128,129,130,131,132,133,134,135,136,137,138,139,140,141,142,143,144,145,146,147,148,149,150,163]) (i 151 .skip (x 4))) (b 5 (s (d jv [151,152,153]) (s (d KP (ra 154 8)) (s (d KQ [162]) (i 163 (x 4) .skip))))))
def l4:=(s (s (d SI [164,165]) (i 166 .skip (x 6))) (s (b 7 (s (d vu (rl [166] 169 9)) (s (d vy (rl [18] 178 4)) (s (d Y2 [182,183]) (s (d Y3 (ra 184 7)) (s (p Y4) (s (s (d Y5 [191,192]) (i 193 (s (d Y6 [18,193,194,195]) (p Y7)) .skip)) (d Y8 (rl [21,22,193] 196 9))))))))) (d SJ [167,168])))
def l5:=(s (s (d Qk [233,234]) (i 235 .skip (x 8))) (s (b 9 (s (e Qm (rl [235] 238 15)) (s (d Qn (ra 253 7)) (d Qo [260,261])))) (d Ql [236,237])))
def l2:=(s (s (d EP [91]) (i 92 .skip (x 2))) (s (b 3 (s (e fc (rl [92] 95 17)) (s (d fr (ra 112 8)) (s (d ij (rl [15] 120 8)) (s (b 4 (w l3)) (s (d MY [17,151,163]) (s (s (p SH) (b 6 (w l4))) (s (d Hh [18,19,20,166,205,206,207]) (s (d Hi (ra 208 7)) (s (p Hj) (s (s (d Hk [215,216]) (i 217 (s (d Hl [18,217,218,219]) (p Hm)) .skip)) (s (d Hn (rl [23,24,217] 220 9)) (s (s (d Ho [18,229]) (i 230 (s (d Hp [230,231,232]) (s (p Hq) (s (s (p Hr) (b 8 (w l5))) (d Hs (rl [25,26,235] 262 10))))) .skip)) (d Ht (rl [16,230] 272 5))))))))))))))) (d bu [93,94])))
def c:=(s (d r0 [4,5,6]) (s (d r1 (ra 27 4)) (s (s (d r2 [31,32]) (i 33 (s (d r3 [0,1,33]) .ret) .skip)) (s (s (d r4 [33,34,35]) (i 36 (s (d r5 (rl [0,1] 36 9)) (s (d r6 (rl [7,8] 45 4)) .ret)) .skip)) (s (s (d r7 [36,49,50,51]) (i 52 (s (d r8 [0,1,52,53]) .ret) .skip)) (s (d r9 (rl [52] 54 7)) (s (d BW (rl [1] 61 6)) (s (d BZ [67,68,69]) (s (b 0 (w l1)) (s (d x7 [0,75,79,80]) (s (d ah (ra 81 5)) (s (s (d br (ra 86 5)) (b 2 (w l2))) (s (e Fa (rl [9,10,11,12,13,14,92] 277 8)) .ret)))))))))))))
end CZ
def CZ:AFn:=⟨2,CZ.c,[.tmp 4,.tmp 5,.tmp 6],false⟩
namespace K2
def r0:=[mv 4 (.c .nil)]
def r1:=[m 8 0,ca 9 101 [8],m 10 1,ca 11 101 [10],m 0 9,m 1 11]
def r2:=[m 12 1,ln 13 12,bi 14 .gtr 13 k0]
def r3:=[m 16 0,m 17 1,ca 18 109 [16,17],m 15 18,et 19 15 0,et 20 15 1,et 21 15 2,m 5 19,m 6 20,m 7 21]
def r4:=[m 22 1,m 23 6,m 0 22,m 1 23]
def r5:=[m 24 0,m 4 24]
def l1:=(s (s (d r2 [12,13]) (i 14 .skip (x 0))) (b 1 (s (d r3 (rl [0,5,7] 14 8)) (d r4 [6,22,23]))))
def c:=(s (d r0 [4]) (s (d r1 (ra 8 4)) (s (b 0 (w l1)) (s (d r5 [0,1,14,24]) .ret))))
end K2
def K2:AFn:=⟨2,K2.c,[.tmp 4],false⟩
namespace LE
def r0:=[bx 1 0,al 2 [(.bool false),.nil]]
def r1:=[fa 4 1 1,uu 5 1 4,ca 6 101 [5],m 3 6]
def r2:=[fa 7 1 0,uu 8 1 7,m 9 8,g 10 9 true (.m8 3),g 11 9 true (.len 10),g 12 9 true (.bin .gtr 11 k0),
 pk 13 9 12 kf,m 14 3,o 15 (.build [(.bool false),.nil] [(0,1,13),(1,1,14)]),so 2 2 15]
def c:=(s (d r0 [0]) (s (d r1 [4,5,6]) (s (d r2 (rl [1,3] 7 9)) .ret)))
end LE
def LE:AFn:=⟨1,LE.c,[.cell 2 true 2],false⟩
namespace LB
def r0:=[al 2 [(.bool false),.nil]]
def r1:=[m 4 0,ls 5 4 k0]
def r2:=[m 6 0,ad 7 6 k1,o 8 (.un .neg 7),cu 9 8,ad 10 9 (.c (.int .u64 (1))),m 3 10]
def r3:=[m 11 3,o 12 (.conv .u32 11),m 13 3,bi 14 .shr 13 (.c (.int .u64 (32))),o 15 (.conv .u32 14),o 16 (.b9 16 1 [12,15]),
 o 17 (.build [(.bool false),.nil] [(0,1,kt),(1,1,16)]),ca 18 111 [17],so 2 2 18]
def r4:=[m 19 0,o 20 (.conv .u32 19),m 21 0,cu 22 21,bi 23 .shr 22 (.c (.int .u64 (32))),o 24 (.conv .u32 23),o 25 (.b9 25 1 [20,24]),
 o 26 (.build [(.bool false),.nil] [(1,1,25)]),ca 27 111 [26],so 2 2 27]
def c:=(s (p r0) (s (s (d r1 [4]) (i 5 (s (d r2 (rl [0] 5 6)) (s (d r3 (rl [3] 11 8)) .ret)) .skip)) (s (d r4 (rl [0,5] 19 9)) .ret)))
end LB
def LB:AFn:=⟨1,LB.c,[.cell 2 true 2],false⟩
namespace LC
def r0:=[bx 1 0,mv 2 k0]
def r1:=[tt 3 2 1,ca 4 111 [3],so 2 1 4]
def r2:=[fa 6 1 1,uu 7 1 6,ln 8 7,bi 9 .eql 8 k0,m 5 9]
def r3:=[mv 2 k0]
def r4:=[fa 11 1 0,uu 12 1 11,m 10 12]
def r5:=[mv 2 (k (-1))]
def r6:=[mv 2 k1]
def c:=(s (d r0 [0,2]) (s (d r1 [3,4]) (s (b 0 (s (d r2 (ra 6 4)) (i 5 (s (d r3 [1,5]) .ret) (s (d r4 [1,5,11,12]) (i 10 (s (d r5 [10]) .ret) .skip))))) (s (d r6 [10]) .ret))))
end LC
def LC:AFn:=⟨1,LC.c,[.tmp 2],false⟩
namespace LA
def r0:=[bx 1 0,al 2 [(.bool false),.nil]]
def r1:=[tt 3 2 1,ca 4 111 [3],so 2 1 4]
def r2:=[fa 5 1 0,uu 6 1 5,nt 7 6,m 8 7,g 9 8 true (.m4 1 1),g 10 8 true (.ld false 1 9),g 11 8 true (.len 10),
 g 12 8 true (.bin .gtr 11 k0),pk 13 8 12 kf,fa 14 1 0,so 1 14 13]
def r3:=[tt 15 2 1,so 2 2 15]
def c:=(s (d r0 [0]) (s (d r1 [3,4]) (s (d r2 (ra 5 10)) (s (d r3 [1,15]) .ret))))
end LA
def LA:AFn:=⟨1,LA.c,[.cell 2 true 2],false⟩
namespace K5
def r0:=[bx 2 0,bx 3 1,al 4 [(.bool false),.nil]]
def r1:=[tt 5 2 2,ca 6 111 [5],tt 7 2 3,ca 8 111 [7],so 2 2 6,so 2 3 8]
def r2:=[fa 9 2 0,uu 10 1 9,fa 11 3 0,uu 12 1 11,o 13 (.beq false 10 12)]
def r3:=[fa 14 2 0,uu 15 1 14,fa 16 2 1,uu 17 1 16,fa 18 3 1,uu 19 1 18,ca 20 103 [17,19],
 o 21 (.build [(.bool false),.nil] [(0,1,15),(1,1,20)]),ca 22 111 [21],so 2 4 22]
def r4:=[fa 23 2 1,uu 24 1 23,fa 25 3 1,uu 26 1 25,ca 27 102 [24,26],bi 28 .geq 27 k0]
def r5:=[fa 29 2 0,uu 30 1 29,fa 31 2 1,uu 32 1 31,fa 33 3 1,uu 34 1 33,ca 35 104 [32,34],
 o 36 (.build [(.bool false),.nil] [(0,1,30),(1,1,35)]),ca 37 111 [36],so 2 4 37]
def r6:=[fa 38 3 0,uu 39 1 38,fa 40 3 1,uu 41 1 40,fa 42 2 1,uu 43 1 42,ca 44 104 [41,43],
 o 45 (.build [(.bool false),.nil] [(0,1,39),(1,1,44)]),ca 46 111 [45],so 2 4 46]
def c:=(s (d r0 [0,1]) (s (e r1 (ra 5 4)) (s (s (d r2 (ra 9 4)) (i 13 (s (e r3 (rl [2,3] 13 10)) .ret) .skip)) (s (s (d r4 (rl [13] 23 5)) (i 28 (s (e r5 (rl [2,3] 28 10)) .ret) .skip)) (s (e r6 (rl [2,3,28] 38 9)) .ret)))))
end K5
def K5:AFn:=⟨2,K5.c,[.cell 4 true 2],false⟩
namespace LD
def r0:=[bx 2 0,bx 3 1,al 4 [(.bool false),.nil]]
def r1:=[tt 5 2 2,tt 6 2 3,ca 7 114 [6],ca 8 115 [5,7],so 2 4 8]
def c:=(s (d r0 [0,1]) (s (e r1 [2,3,5,6,7,8]) .ret))
end LD
def LD:AFn:=⟨2,LD.c,[.cell 4 true 2],false⟩
namespace K6
def r0:=[bx 2 0,bx 3 1,mv 4 k0]
def r1:=[tt 5 2 2,tt 6 2 3,ca 7 116 [5,6],ca 8 113 [7],m 4 8]
def c:=(s (d r0 [0,1,4]) (s (d r1 [2,3,5,6,7,8]) .ret))
end K6
def K6:AFn:=⟨2,K6.c,[.tmp 4],false⟩
namespace K9
def r0:=[bx 2 0,bx 3 1,al 4 [(.bool false),.nil]]
def r1:=[fa 5 2 0,uu 6 1 5,fa 7 3 0,uu 8 1 7,o 9 (.beq true 6 8),fa 10 2 1,uu 11 1 10,fa 12 3 1,
 uu 13 1 12,ca 14 105 [11,13],o 15 (.build [(.bool false),.nil] [(0,1,9),(1,1,14)]),ca 16 111 [15],so 2 4 16]
def c:=(s (d r0 [0,1]) (s (e r1 (rl [2,3] 5 12)) .ret))
end K9
def K9:AFn:=⟨2,K9.c,[.cell 4 true 2],false⟩
namespace K7
def r0:=[bx 2 0,bx 3 1,al 4 [(.bool false),.nil],al 5 [(.bool false),.nil],mv 6 k0]
def r1:=[tt 10 2 2,ca 11 111 [10],tt 12 2 3,ca 13 111 [12],so 2 2 11,so 2 3 13]
def r2:=[fa 15 2 1,uu 16 1 15,fa 17 3 1,uu 18 1 17,ca 19 109 [16,18],m 14 19,et 20 14 0,et 21 14 1,
 et 22 14 2,m 7 20,m 8 21,m 9 22]
def r3:=[m 23 9,bi 24 .neq 23 k0]
def r4:=[o 25 (.build [(.bool false),.nil] []),o 26 (.build [(.bool false),.nil] []),m 27 9,so 2 4 25,so 2 5 26,m 6 27]
def r5:=[fa 28 2 0,uu 29 1 28,m 30 29,g 31 30 true (.m8 8),g 32 30 true (.len 31),g 33 30 true (.bin .gtr 32 k0),
 pk 34 30 33 kf]
def r6:=[m 35 7,o 36 (.b9 36 1 [(.c (.int .u32 (1)))]),ca 37 103 [35,36],fa 38 3 1,q 39 [36] (.ld false 1 38),m 40 8,
 ca 41 104 [39,40],m 7 37,m 8 41]
def r7:=[fa 42 2 0,uu 43 1 42,fa 44 3 0,uu 45 1 44,o 46 (.beq true 43 45),m 47 7,
 o 48 (.build [(.bool false),.nil] [(0,1,46),(1,1,47)]),ca 49 111 [48],m 50 8,o 51 (.build [(.bool false),.nil] [(1,1,50)]),so 2 4 49,
 so 2 5 51,mv 6 k0]
def c:=(s (d r0 [0,1,6]) (s (e r1 (ra 10 4)) (s (d r2 (ra 14 9)) (s (s (d r3 [23]) (i 24 (s (d r4 (rl [2,3,7,8,9] 24 4)) .ret) .skip)) (s (s (d r5 (rl [9,24] 28 6)) (i 34 (e r6 (ra 34 8)) .skip)) (s (d r7 (rl [2,3,7,8,34] 42 10)) .ret))))))
end K7
def K7:AFn:=⟨2,K7.c,[.cell 4 true 2,.cell 5 true 2,.tmp 6],false⟩
namespace K8
def r0:=[bx 2 0,bx 3 1,al 4 [(.bool false),.nil]]
def r1:=[fa 5 2 1,uu 6 1 5,fa 7 3 1,uu 8 1 7,ca 9 110 [6,8],o 10 (.build [(.bool false),.nil] [(1,1,9)]),
 so 2 4 10]
def c:=(s (d r0 [0,1]) (s (d r1 (rl [2,3] 5 6)) .ret))
end K8
def K8:AFn:=⟨2,K8.c,[.cell 4 true 2],false⟩
namespace HC
def r0:=[bx 2 0,bx 3 1,al 4 z3]
def r1:=[tt 12 2 2,ca 13 113 [12],bi 14 .eql 13 k0,m 15 14,g 16 15 false (.ld true 2 3),g 17 15 false (.call 113 [16]),
 g 18 15 false (.bin .eql 17 k0),pk 19 15 kt 18]
def r2:=[o 20 (.b9 20 1 [(.c (.int .u32 (1)))]),o 21 (.build z3 [(2,1,20)]),so 3 4 21]
def r3:=[tt 22 2 2,tt 23 2 3,ca 24 120 [22,23],al 5 [(.bool false),.nil],so 2 5 24]
def r4:=[tt 26 2 2,tt 27 2 5,ca 28 119 [26,27],m 25 28,et 29 25 0,et 30 25 1,et 31 25 2,
 al 6 [(.bool false),.nil],al 7 [(.bool false),.nil],so 2 6 29,so 2 7 30,m 8 31]
def r5:=[tt 33 2 3,tt 34 2 5,ca 35 119 [33,34],m 32 35,et 36 32 0,et 37 32 1,et 38 32 2,
 al 9 [(.bool false),.nil],al 10 [(.bool false),.nil],so 2 9 36,so 2 10 37,m 11 38]
def r6:=[fa 39 9 0,uu 40 1 39]
def r7:=[tt 41 2 6,ca 42 114 [41],so 2 6 42]
def r8:=[tt 43 2 6,fa 44 9 1,uu 45 1 44,o 46 (.build z3 [(0,2,43),(2,1,45)]),so 3 4 46]
def c:=(s (d r0 [0,1]) (s (s (d r1 (ra 12 7)) (i 19 (s (d r2 [2,3,19,20,21]) .ret) .skip)) (s (d r3 [19,22,23,24]) (s (d r4 (rl [2,7,8] 25 7)) (s (d r5 (rl [3,5,10,11] 32 7)) (s (s (d r6 [39]) (i 40 (d r7 [40,41,42]) .skip)) (s (d r8 (rl [6,9,40] 43 4)) .ret)))))))
end HC
def HC:AFn:=⟨2,HC.c,[.cell 4 true 3],false⟩
namespace H9
def r0:=[bx 1 0,al 2 [(.bool false),.nil],al 3 [(.bool false),.nil]]
def r1:=[fa 5 1 2,uu 6 1 5,ca 7 101 [6],o 8 (.build [(.bool false),.nil] [(1,1,7)]),al 4 [(.bool false),.nil],so 2 4 8]
def r2:=[fa 9 4 1,uu 10 1 9,ln 11 10,bi 12 .eql 11 k0]
def r3:=[o 13 (.build [(.bool false),.nil] []),o 14 (.b9 14 1 [(.c (.int .u32 (1)))]),o 15 (.build [(.bool false),.nil] [(1,1,14)]),so 2 2 13,
 so 2 3 15]
def r4:=[fa 16 1 0,tt 17 2 16,q 18 [2] (.ld true 2 4),n (.il 2 2 2 17),so 2 3 18]
def c:=(s (d r0 [0]) (s (d r1 (ra 5 4)) (s (s (d r2 [9,10,11]) (i 12 (s (d r3 (rl [1,4] 12 4)) .ret) .skip)) (s (e r4 [1,4,12,16,17,18]) .ret))))
end H9
def H9:AFn:=⟨1,H9.c,[.cell 2 true 2,.cell 3 true 2],false⟩
namespace LJ
def r0:=[bx 1 0,al 2 z3]
def r1:=[tt 6 3 1,o 7 (.l7 122 [6]),m 5 7,et 8 5 0,et 9 5 1,al 3 [(.bool false),.nil],al 4 [(.bool false),.nil],
 so 2 3 8,so 2 4 9]
def r2:=[tt 10 2 3,tt 11 2 4,ca 12 121 [10,11],so 3 2 12]
def c:=(s (d r0 [0]) (s (d r1 (rl [1] 5 5)) (s (d r2 [3,4,10,11,12]) .ret)))
end LJ
def LJ:AFn:=⟨1,LJ.c,[.cell 2 true 3],false⟩
namespace LI
def r0:=[al 2 z3]
def r1:=[m 3 0,ca 4 112 [3],o 5 (.b9 5 1 [(.c (.int .u32 (1)))]),o 6 (.build z3 [(0,2,4),(2,1,5)]),so 3 2 6]
def c:=(s (p r0) (s (d r1 [0,3,4,5,6]) .ret))
end LI
def LI:AFn:=⟨1,LI.c,[.cell 2 true 3],false⟩
namespace LF
def r0:=[bx 2 0,bx 3 1,al 4 z3]
def r1:=[tt 10 3 2,o 11 (.l7 122 [10]),m 9 11,et 12 9 0,et 13 9 1,al 5 [(.bool false),.nil],
 al 6 [(.bool false),.nil],so 2 5 12,so 2 6 13]
def r2:=[tt 15 3 3,o 16 (.l7 122 [15]),m 14 16,et 17 14 0,et 18 14 1,al 7 [(.bool false),.nil],
 al 8 [(.bool false),.nil],so 2 7 17,so 2 8 18]
def r3:=[tt 19 2 5,tt 20 2 8,ca 21 118 [19,20],tt 22 2 7,tt 23 2 6,ca 24 118 [22,23],
 ca 25 115 [21,24],tt 26 2 6,tt 27 2 8,ca 28 118 [26,27],ca 29 121 [25,28],so 3 4 29]
def c:=(s (d r0 [0,1]) (s (d r1 (rl [2] 9 5)) (s (d r2 (rl [3] 14 5)) (s (e r3 (rl [5,6,7,8] 19 11)) .ret))))
end LF
def LF:AFn:=⟨2,LF.c,[.cell 4 true 3],false⟩
namespace LG
def r0:=[bx 2 0,bx 3 1,mv 4 k0]
def r1:=[tt 10 3 2,o 11 (.l7 122 [10]),m 9 11,et 12 9 0,et 13 9 1,al 5 [(.bool false),.nil],
 al 6 [(.bool false),.nil],so 2 5 12,so 2 6 13]
def r2:=[tt 15 3 3,o 16 (.l7 122 [15]),m 14 16,et 17 14 0,et 18 14 1,al 7 [(.bool false),.nil],
 al 8 [(.bool false),.nil],so 2 7 17,so 2 8 18]
def r3:=[tt 19 2 5,tt 20 2 8,ca 21 118 [19,20],tt 22 2 7,tt 23 2 6,ca 24 118 [22,23],
 ca 25 117 [21,24],m 4 25]
def c:=(s (d r0 [0,1,4]) (s (d r1 (rl [2] 9 5)) (s (d r2 (rl [3] 14 5)) (s (e r3 (rl [5,6,7,8] 19 7)) .ret))))
end LG
def LG:AFn:=⟨2,LG.c,[.tmp 4],false⟩
namespace LH
def r0:=[bx 2 0,bx 3 1,al 4 z3]
def r1:=[tt 10 3 2,o 11 (.l7 122 [10]),m 9 11,et 12 9 0,et 13 9 1,al 5 [(.bool false),.nil],
 al 6 [(.bool false),.nil],so 2 5 12,so 2 6 13]
def r2:=[tt 15 3 3,o 16 (.l7 122 [15]),m 14 16,et 17 14 0,et 18 14 1,al 7 [(.bool false),.nil],
 al 8 [(.bool false),.nil],so 2 7 17,so 2 8 18]
def r3:=[tt 19 2 5,tt 20 2 7,ca 21 118 [19,20],tt 22 2 6,tt 23 2 8,ca 24 118 [22,23],
 ca 25 121 [21,24],so 3 4 25]
def c:=(s (d r0 [0,1]) (s (d r1 (rl [2] 9 5)) (s (d r2 (rl [3] 14 5)) (s (e r3 (rl [5,6,7,8] 19 7)) .ret))))
end LH
def LH:AFn:=⟨2,LH.c,[.cell 4 true 3],false⟩
namespace LK
def r0:=[mv 4 kf]
def r1:=[m 6 0,ln 7 6,m 8 1,ln 9 8,bi 10 .neq 7 9]
def r2:=[mv 4 kf]
def r3:=[mv 5 k0]
def r4:=[m 11 5,m 12 0,ln 13 12,ls 14 11 13]
def r6:=[m 17 0,m 18 5,ia 19 3 17 18,tt 20 3 19,m 21 1,m 22 5,ia 23 3 21 22,tt 24 3 23,ca 25 127 [20,24],
 bi 26 .neq 25 k0]
def r7:=[mv 4 kf]
def r5:=[m 15 5,ad 16 15 k1,m 5 16]
def r8:=[mv 4 kt]
def l1:=(s (s (d r4 [11,12,13]) (i 14 .skip (x 0))) (s (b 1 (s (e r6 (rl [14] 17 9)) (i 26 (s (d r7 [0,1,5,26]) .ret) .skip))) (d r5 [15,16,26])))
def c:=(s (d r0 [4]) (s (s (d r1 (ra 6 4)) (i 10 (s (d r2 [0,1,10]) .ret) .skip)) (s (s (d r3 [10]) (b 0 (w l1))) (s (d r8 [0,1,5,14]) .ret))))
end LK
def LK:AFn:=⟨2,LK.c,[.tmp 4],false⟩
structure a8 (L:Lib):Prop where
 GA:L 101=some F.GA
 K1:L 102=some F.K1
 KZ:L 103=some F.KZ
 HR:L 104=some F.HR
 K3:L 105=some F.K3
 K0:L 106=some F.K0
 HB:L 107=some F.HB
 K4:L 108=some F.K4
 CZ:L 109=some F.CZ
 K2:L 110=some F.K2
 LE:L 111=some F.LE
 LB:L 112=some F.LB
 LC:L 113=some F.LC
 LA:L 114=some F.LA
 K5:L 115=some F.K5
 LD:L 116=some F.LD
 K6:L 117=some F.K6
 K9:L 118=some F.K9
 K7:L 119=some F.K7
 K8:L 120=some F.K8
 HC:L 121=some F.HC
 H9:L 122=some F.H9
 LJ:L 123=some F.LJ
 LI:L 124=some F.LI
 LF:L 126=some F.LF
 LG:L 127=some F.LG
 LH:L 128=some F.LH
 LK:L 129=some F.LK
end Go.c8.F

namespace Go.c8.F
open C
namespace F8
def r0:=[bx 1 0,mv 2 kf]
def r1:=[fa 6 1 0,uu 7 1 6,ln 8 7,m 3 8]
def r2:=[m 9 3,bi 10 .gtr 9 (k 64),m 11 10,g 12 11 false (.m4 1 1),g 13 11 false (.ld false 1 12),g 14 11 false (.len 13),g 15 11 false (.m8 3),
 g 16 11 false (.bin .neq 14 15),pk 17 11 kt 16,m 18 17,g 19 18 false (.m4 1 2),g 20 18 false (.ld false 1 19),
 g 21 18 false (.len 20),g 22 18 false (.m8 3),g 23 18 false (.bin .neq 21 22),pk 24 18 kt 23]
def r3:=[mv 2 kf]
def r4:=[fa 25 1 0,uu 26 1 25,ln 27 26,mv 28 k0]
def r5:=[ls 29 28 27]
def r6:=[ia 30 1 26 28,uu 31 1 30,m 5 31]
def r7:=[m 32 5,ln 33 32,m 34 3,bi 35 .neq 33 34]
def r8:=[mv 2 kf]
def r9:=[ad 36 28 k1,m 28 36]
def BW:=[mv 2 kt]
def l1:=(s (p r5) (s (i 29 .skip (x 0)) (s (b 1 (s (d r6 [29,30,31]) (s (d r7 [5,32,33,34]) (i 35 (s (d r8 [3,26,27,28,35]) .ret) .skip)))) (d r9 [35,36]))))
def c:=(s (d r0 [0,2]) (s (d r1 [6,7,8]) (s (s (d r2 (ra 9 15)) (i 24 (s (d r3 [1,3,24]) .ret) .skip)) (s (s (d r4 [1,24,25]) (b 0 (w l1))) (s (d BW (rl [3] 26 4)) .ret)))))
end F8
def F8:AFn:=⟨1,F8.c,[.tmp 2],false⟩
namespace G4
def r0:=[mv 2 (.c .nil)]
def r1:=[m 5 0,o 6 (.mk 131006 3 56 z3 5 5),m 3 6]
def r2:=[m 7 3,ln 8 7,mv 9 k0]
def r3:=[ls 10 9 8]
def r4:=[m 11 9,m 4 11]
def r5:=[m 12 3,m 13 4,ca 14 96 [k0],ia 15 3 12 13,so 3 15 14]
def r6:=[ad 16 9 k1,m 9 16]
def r7:=[m 17 3,m 2 17]
def l1:=(s (p r3) (s (i 10 .skip (x 0)) (s (b 1 (s (d r4 [10,11]) (d r5 (rl [4] 12 4)))) (d r6 [16]))))
def c:=(s (d r0 [2]) (s (d r1 [0,5,6]) (s (s (d r2 [7]) (b 0 (w l1))) (s (d r7 [3,8,9,10,17]) .ret))))
end G4
def G4:AFn:=⟨1,G4.c,[.tmp 2],false⟩
namespace KF
def r0:=[al 4 z3]
def r1:=[ca 8 96 [k0],al 5 z3,so 3 5 8]
def r2:=[m 9 0,ln 10 9,mv 11 k0]
def r3:=[ls 12 11 10]
def r4:=[m 13 11,ia 14 3 9 11,tt 15 3 14,al 7 z3,m 6 13,so 3 7 15]
def r5:=[tt 16 3 7,ca 17 97 [16],bi 18 .neq 17 k0,m 19 18,g 20 19 true (.m8 1),g 21 19 true (.m8 6),g 22 19 true (.o6 none 3 20 21),
 g 23 19 true (.ld true 3 22),g 24 19 true (.call 97 [23]),g 25 19 true (.bin .neq 24 k0),pk 26 19 25 kf]
def r6:=[tt 27 3 5,tt 28 3 7,m 29 1,m 30 6,ia 31 3 29 30,tt 32 3 31,ca 33 99 [28,32],ca 34 98 [27,33],
 so 3 5 34]
def r7:=[ad 35 11 k1,m 11 35]
def r8:=[tt 36 3 5,so 3 4 36]
def l1:=(s (p r3) (s (i 12 .skip (x 0)) (s (b 1 (s (d r4 (ra 12 4)) (s (d r5 (ra 16 10)) (i 26 (e r6 (rl [6,7] 26 9)) .skip)))) (d r7 [6,7,26,35]))))
def c:=(s (p r0) (s (d r1 [8]) (s (s (d r2 [0]) (b 0 (w l1))) (s (d r8 [1,5,9,10,11,12,36]) .ret))))
end KF
def KF:AFn:=⟨2,KF.c,[.cell 4 true 3],false⟩
namespace G2
def r0:=[o 3 (.box 133003 0),mv 6 (.c .nil),mv 7 (.c .nil),mv 8 k0]
def r1:=[tt 18 6 3,ca 19 130 [18],nt 20 19]
def r2:=[mv 6 (.c .nil),mv 7 (.c .nil),mv 8 (k 2)]
def r3:=[m 21 1,ln 22 21,fa 23 3 0,uu 24 1 23,ln 25 24,bi 26 .neq 22 25]
def r4:=[mv 6 (.c .nil),mv 7 (.c .nil),mv 8 k1]
def r5:=[m 27 2,ln 28 27,bi 29 .gtr 28 (k 4096)]
def r6:=[mv 6 (.c .nil),mv 7 (.c .nil),mv 8 (k 4)]
def r7:=[m 30 1,ln 31 30,o 32 (.mk 133032 3 56 z3 31 31),m 9 32]
def r8:=[m 33 1,ln 34 33,mv 35 k0]
def r9:=[ls 36 35 34]
def BW:=[m 37 35,ia 38 3 33 35,tt 39 3 38,o 11 (.alloc 133011 z3),m 10 37,so 3 11 39]
def BZ:=[m 40 9,m 41 10,tt 42 3 11,ca 43 95 [42],ia 44 3 40 41,so 3 44 43]
def s9:=[ad 45 35 k1,m 35 45]
def CT:=[m 46 2,ln 47 46,o 48 (.mk 133048 3 56 z3 k0 47),m 12 48]
def x7:=[m 49 2,ln 50 49,mv 51 k0]
def ah:=[ls 52 51 50]
def br:=[ia 53 3 49 51,tt 54 3 53,o 14 (.alloc 133014 z3),so 3 14 54]
def EP:=[m 55 12,fa 56 3 2,uu 57 1 56,m 58 9,ca 59 132 [57,58],fa 60 3 3,tt 61 3 60,tt 62 3 14,
 ca 63 99 [61,62],ca 64 98 [59,63],o 65 (.b9 133065 3 [64]),o 66 (.app 133066 3 56 55 65),m 12 66]
def bu:=[m 67 9,ln 68 67,o 69 (.mk 133069 3 56 z3 68 68),m 15 69]
def fc:=[fa 70 3 0,uu 71 1 70,ln 72 71,mv 73 k0]
def fr:=[ls 74 73 72]
def ij:=[m 75 73,ia 76 1 71 73,uu 77 1 76,m 16 75,m 17 77]
def ik:=[m 78 15,m 79 16,m 80 17,m 81 9,ca 82 132 [80,81],fa 83 3 1,uu 84 1 83,m 85 16,ia 86 3 84 85,tt 87 3 86,
 tt 88 3 14,ca 89 99 [87,88],ca 90 98 [82,89],ia 91 3 78 79,so 3 91 90]
def jv:=[ad 92 73 k1,m 73 92]
def KP:=[m 93 15,m 9 93]
def KQ:=[ad 94 51 k1,m 51 94]
def MY:=[m 95 12,m 96 9,m 6 95,m 7 96,mv 8 k0]
def l1:=(s (p r9) (s (i 36 .skip (x 0)) (s (b 1 (s (d BW (ra 36 4)) (d BZ (rl [10,11] 40 5)))) (d s9 [45]))))
def l3:=(s (p fr) (s (i 74 .skip (x 4)) (s (b 5 (s (d ij (ra 74 4)) (e ik (rl [16,17] 78 14)))) (d jv [92]))))
def l2:=(s (p ah) (s (i 52 .skip (x 2)) (s (b 3 (s (d br [52,53,54]) (s (e EP (ra 55 12)) (s (d bu [67,68,69]) (s (s (d fc [70]) (b 4 (w l3))) (d KP [14,15,71,72,73,74,93])))))) (d KQ [94]))))
def c:=(s (d r0 [0,6,7,8]) (s (s (d r1 [18,19]) (i 20 (s (d r2 [1,2,3,20]) .ret) .skip)) (s (s (d r3 (ra 20 6)) (i 26 (s (d r4 [1,2,3,26]) .ret) .skip)) (s (s (d r5 [26,27,28]) (i 29 (s (d r6 [1,2,3,29]) .ret) .skip)) (s (d r7 (ra 29 4)) (s (s (d r8 [1]) (b 0 (w l1))) (s (d CT [33,34,35,36,46,47,48]) (s (s (d x7 [2]) (b 2 (w l2))) (s (d MY [3,9,12,49,50,51,52,95,96]) .ret)))))))))
end G2
def G2:AFn:=⟨3,G2.c,[.tmp 6,.tmp 7,.tmp 8],false⟩
namespace G1
def r0:=[bx 2 0,mv 4 (.c .nil),mv 5 k0]
def r1:=[tt 10 6 2,ca 11 130 [10],nt 12 11]
def r2:=[mv 4 (.c .nil),mv 5 (k 2)]
def r3:=[m 13 1,ls 14 13 k0]
def r4:=[mv 4 (.c .nil),mv 5 k1]
def r5:=[m 15 1,bi 16 .gtr 15 (k 4096)]
def r6:=[mv 4 (.c .nil),mv 5 (k 4)]
def r7:=[m 17 1,o 18 (.c4 131 [17]),m 6 18]
def r8:=[m 19 1,bi 20 .gtr 19 k0]
def r9:=[m 21 6,ca 22 96 [k1],ia 23 3 21 k0,so 3 23 22]
def BW:=[tt 25 6 2,fa 26 2 0,uu 27 1 26,ln 28 27,ca 29 131 [28],m 30 6,ca 31 133 [25,29,30],m 24 31,
 et 32 24 0,et 33 24 1,et 34 24 2,m 7 32,m 8 33,m 9 34]
def BZ:=[m 35 7,m 36 9,m 4 35,m 5 36]
def c:=(s (d r0 [0,4,5]) (s (s (d r1 [10,11]) (i 12 (s (d r2 [1,2,12]) .ret) .skip)) (s (s (d r3 [12,13]) (i 14 (s (d r4 [1,2,14]) .ret) .skip)) (s (s (d r5 [14,15]) (i 16 (s (d r6 [1,2,16]) .ret) .skip)) (s (d r7 [16,17,18]) (s (s (d r8 [1,19]) (i 20 (d r9 (ra 20 4)) .skip)) (s (e BW (rl [2,6,8,20] 24 11)) (s (d BZ [7,9,35,36]) .ret))))))))
end G1
def G1:AFn:=⟨2,G1.c,[.tmp 4,.tmp 5],false⟩
namespace LN
def r0:=[mv 4 (.c .nil)]
def r1:=[o 5 (.u9 5 3)]
def r2:=[mv 6 k0]
def r3:=[m 7 6,m 8 0,ls 9 7 8]
def r5:=[m 12 6,m 13 1,bi 14 .eql 12 13]
def r6:=[m 15 5,ca 16 124 [k1],o 17 (.b9 17 3 [16]),o 18 (.app 18 3 56 15 17),m 5 18]
def r7:=[m 19 5,ca 20 124 [k0],o 21 (.b9 21 3 [20]),o 22 (.app 22 3 56 19 21),m 5 22]
def r4:=[m 10 6,ad 11 10 k1,m 6 11]
def r8:=[m 23 5,m 4 23]
def l1:=(s (s (d r3 [7,8]) (i 9 .skip (x 0))) (s (b 1 (s (d r5 [9,12,13]) (i 14 (d r6 (ra 14 5)) (d r7 (rl [14] 19 4))))) (d r4 [10,11])))
def c:=(s (d r0 [4]) (s (p r1) (s (s (p r2) (b 0 (w l1))) (s (d r8 [0,1,5,6,9,23]) .ret))))
end LN
def LN:AFn:=⟨2,LN.c,[.tmp 4],false⟩
namespace GC
def r0:=[bx 1 0,mv 2 kf]
def r1:=[fa 5 1 0,uu 6 1 5,ln 7 6,m 3 7]
def r2:=[m 8 3,bi 9 .gtr 8 (k 64),m 10 9,g 11 10 false (.m4 1 1),g 12 10 false (.ld false 1 11),g 13 10 false (.len 12),g 14 10 false (.m8 3),
 g 15 10 false (.bin .neq 13 14),pk 16 10 kt 15,m 17 16,g 18 17 false (.m4 1 2),g 19 17 false (.ld false 1 18),
 g 20 17 false (.len 19),g 21 17 false (.m8 3),g 22 17 false (.bin .neq 20 21),pk 23 17 kt 22]
def r3:=[mv 2 kf]
def r4:=[mv 4 k0]
def r5:=[m 24 4,m 25 3,ls 26 24 25]
def r7:=[fa 29 1 0,uu 30 1 29,m 31 4,ia 32 1 30 31,uu 33 1 32,ln 34 33,m 35 3,bi 36 .neq 34 35]
def r8:=[mv 2 kf]
def r6:=[m 27 4,ad 28 27 k1,m 4 28]
def r9:=[mv 2 kt]
def l1:=(s (s (d r5 [24,25]) (i 26 .skip (x 0))) (s (b 1 (s (d r7 (rl [26] 29 7)) (i 36 (s (d r8 [1,3,4,36]) .ret) .skip))) (d r6 [27,28,36])))
def c:=(s (d r0 [0,2]) (s (d r1 [5,6,7]) (s (s (d r2 (ra 8 15)) (i 23 (s (d r3 [1,3,23]) .ret) .skip)) (s (s (d r4 [23]) (b 0 (w l1))) (s (d r9 [1,3,4,26]) .ret)))))
end GC
def GC:AFn:=⟨1,GC.c,[.tmp 2],false⟩
namespace LL
def r0:=[al 4 z3]
def r1:=[ca 7 124 [k0],al 5 z3,so 3 5 7]
def r2:=[mv 6 k0]
def r3:=[m 8 6,m 9 0,ln 10 9,ls 11 8 10]
def r5:=[tt 14 3 5,m 15 0,m 16 6,ia 17 3 15 16,tt 18 3 17,m 19 1,m 20 6,ia 21 3 19 20,tt 22 3 21,
 ca 23 128 [18,22],ca 24 126 [14,23],so 3 5 24]
def r4:=[m 12 6,ad 13 12 k1,m 6 13]
def r6:=[tt 25 3 5,so 3 4 25]
def l1:=(s (s (d r3 [8,9,10]) (i 11 .skip (x 0))) (s (b 1 (e r5 (rl [11] 14 11))) (d r4 [12,13])))
def c:=(s (p r0) (s (d r1 [7]) (s (s (p r2) (b 0 (w l1))) (s (d r6 [0,1,5,6,11,25]) .ret))))
end LL
def LL:AFn:=⟨2,LL.c,[.cell 4 true 3],false⟩
namespace LM
def r0:=[mv 4 (.c .nil)]
def r1:=[o 5 (.u9 138005 3)]
def r2:=[mv 6 k0]
def r3:=[m 7 6,m 8 0,ln 9 8,ls 10 7 9]
def r5:=[m 13 5,m 14 0,m 15 6,ia 16 1 14 15,uu 17 1 16,m 18 1,ca 19 137 [17,18],o 20 (.b9 138020 3 [19]),
 o 21 (.app 138021 3 56 13 20),m 5 21]
def r4:=[m 11 6,ad 12 11 k1,m 6 12]
def r6:=[m 22 5,m 4 22]
def l1:=(s (s (d r3 [7,8,9]) (i 10 .skip (x 0))) (s (b 1 (d r5 (rl [10] 13 9))) (d r4 [11,12])))
def c:=(s (d r0 [4]) (s (p r1) (s (s (p r2) (b 0 (w l1))) (s (d r6 [0,1,5,6,10,22]) .ret))))
end LM
def LM:AFn:=⟨2,LM.c,[.tmp 4],false⟩
namespace HE
def r0:=[bx 3 0,mv 6 (.c .nil),mv 7 (.c .nil),mv 8 k0]
def r1:=[tt 16 6 3,ca 17 136 [16],nt 18 17,m 15 18]
def r2:=[mv 6 (.c .nil),mv 7 (.c .nil),mv 8 (k 2)]
def r3:=[m 20 1,ln 21 20,fa 22 3 0,uu 23 1 22,ln 24 23,bi 25 .neq 21 24,m 19 25]
def r4:=[mv 6 (.c .nil),mv 7 (.c .nil),mv 8 k1]
def r5:=[m 27 2,ln 28 27,bi 29 .gtr 28 (k 4096),m 26 29]
def r6:=[mv 6 (.c .nil),mv 7 (.c .nil),mv 8 (k 4)]
def r7:=[o 9 (.u9 9 3)]
def r8:=[o 10 (.u9 10 3)]
def r9:=[mv 11 k0]
def BW:=[m 30 11,m 31 1,ln 32 31,ls 33 30 32]
def s9:=[m 36 10,m 37 1,m 38 11,ia 39 3 37 38,tt 40 3 39,ca 41 123 [40],o 42 (.b9 42 3 [41]),o 43 (.app 43 3 56 36 42),m 10 43]
def BZ:=[m 34 11,ad 35 34 k1,m 11 35]
def CT:=[mv 12 k0]
def x7:=[m 44 12,m 45 2,ln 46 45,ls 47 44 46]
def br:=[m 50 9,fa 51 3 2,uu 52 1 51,m 53 10,ca 54 137 [52,53],fa 55 3 3,tt 56 3 55,m 57 2,m 58 12,
 ia 59 3 57 58,tt 60 3 59,ca 61 128 [56,60],ca 62 126 [54,61],o 63 (.b9 63 3 [62]),o 64 (.app 64 3 56 50 63),
 m 9 64]
def EP:=[fa 65 3 0,uu 66 1 65,m 67 10,o 68 (.c4 138 [66,67]),m 13 68]
def bu:=[mv 14 k0]
def fc:=[m 69 14,m 70 13,ln 71 70,ls 72 69 71]
def ij:=[m 75 13,m 76 14,m 77 13,m 78 14,ia 79 3 77 78,tt 80 3 79,fa 81 3 1,uu 82 1 81,m 83 14,
 ia 84 3 82 83,tt 85 3 84,m 86 2,m 87 12,ia 88 3 86 87,tt 89 3 88,ca 90 128 [85,89],
 ca 91 126 [80,90],ia 92 3 75 76,so 3 92 91]
def fr:=[m 73 14,ad 74 73 k1,m 14 74]
def ik:=[m 93 13,m 10 93]
def ah:=[m 48 12,ad 49 48 k1,m 12 49]
def jv:=[m 94 9,m 95 10,m 6 94,m 7 95,mv 8 k0]
def l1:=(s (s (d BW [30,31,32]) (i 33 .skip (x 1))) (s (b 2 (d s9 (rl [33] 36 8))) (d BZ [34,35])))
def l3:=(s (s (d fc [69,70,71]) (i 72 .skip (x 5))) (s (b 6 (e ij (rl [72] 75 18))) (d fr [73,74])))
def l2:=(s (s (d x7 [44,45,46]) (i 47 .skip (x 3))) (s (b 4 (s (e br (rl [47] 50 15)) (s (d EP (rl [10] 65 4)) (s (s (p bu) (b 5 (w l3))) (d ik [13,14,72,93]))))) (d ah [48,49])))
def c:=(s (d r0 [0,6,7,8]) (s (b 0 (s (d r1 [16,17,18]) (i 15 (s (d r2 [1,2,3,15]) .ret) (s (d r3 (rl [15] 20 6)) (i 19 (s (d r4 [1,2,3,19]) .ret) (s (d r5 [19,27,28,29]) (i 26 (s (d r6 [1,2,3,26]) .ret) .skip))))))) (s (d r7 [26]) (s (p r8) (s (s (p r9) (b 1 (w l1))) (s (s (d CT [1,11,33]) (b 3 (w l2))) (s (d jv [2,3,9,10,12,47,94,95]) .ret)))))))
end HE
def HE:AFn:=⟨3,HE.c,[.tmp 6,.tmp 7,.tmp 8],false⟩
namespace HD
def r0:=[bx 2 0,mv 4 (.c .nil),mv 5 k0]
def r1:=[tt 10 6 2,ca 11 136 [10],nt 12 11,m 9 12]
def r2:=[mv 4 (.c .nil),mv 5 (k 2)]
def r3:=[m 14 1,ls 15 14 k0,m 13 15]
def r4:=[mv 4 (.c .nil),mv 5 k1]
def r5:=[m 17 1,bi 18 .gtr 17 (k 4096),m 16 18]
def r6:=[mv 4 (.c .nil),mv 5 (k 4)]
def r7:=[tt 20 6 2,fa 21 2 0,uu 22 1 21,ln 23 22,ca 24 135 [23,(k (-1))],m 25 1,ca 26 135 [25,k0],
 ca 27 139 [20,24,26],m 19 27,et 28 19 0,et 29 19 1,et 30 19 2,m 6 28,m 7 29,m 8 30]
def r8:=[m 31 6,m 4 31,mv 5 k0]
def c:=(s (d r0 [0,4,5]) (s (b 0 (s (d r1 [10,11,12]) (i 9 (s (d r2 [1,2,9]) .ret) (s (d r3 [9,14,15]) (i 13 (s (d r4 [1,2,13]) .ret) (s (d r5 [13,17,18]) (i 16 (s (d r6 [1,2,16]) .ret) .skip))))))) (s (e r7 (rl [1,2,7,8,16] 19 12)) (s (d r8 [6,31]) .ret))))
end HD
def HD:AFn:=⟨2,HD.c,[.tmp 4,.tmp 5],false⟩
structure e5 (L:Lib):Prop extends a5 L,a8 L where
 F8:L 130=some F.F8
 G4:L 131=some F.G4
 KF:L 132=some F.KF
 G2:L 133=some F.G2
 G1:L 134=some F.G1
 LN:L 135=some F.LN
 GC:L 136=some F.GC
 LL:L 137=some F.LL
 LM:L 138=some F.LM
 HE:L 139=some F.HE
 HD:L 140=some F.HD
end Go.c8.F

namespace Go.c8.F
open C
namespace JL
def r0:=[mv 2 kf]
def r1:=[m 3 0,bi 4 .geq 3 k1,m 5 4,g 6 5 true (.m8 0),g 7 5 true (.bin .leq 6 (k 3)),pk 8 5 7 kf,m 2 8]
def c:=(s (d r0 [2]) (s (d r1 (rl [0] 3 6)) .ret))
end JL
def JL:AFn:=⟨1,JL.c,[.tmp 2],false⟩
namespace JJ
def r0:=[bx 1 0,mv 2 kf]
def r1:=[fa 3 1 0,uu 4 1 3,ls 5 4 (k 4),m 6 5,g 7 6 false (.m4 1 0),g 8 6 false (.ld false 1 7),g 9 6 false (.bin .gtr 8 (k 24)),
 pk 10 6 kt 9,m 11 10,g 12 11 false (.m4 1 1),g 13 11 false (.ld false 1 12),g 14 11 false (.bin .lss 13 k0),
 pk 15 11 kt 14,m 16 15,g 17 16 false (.m4 1 1),g 18 16 false (.ld false 1 17),g 19 16 false (.m4 1 0),
 g 20 16 false (.ld false 1 19),g 21 16 false (.bin .geq 18 20),pk 22 16 kt 21]
def r2:=[mv 2 kf]
def r3:=[fa 23 1 2,uu 24 1 23,ca 25 1 [24],m 26 25,g 27 26 true (.m4 1 3),g 28 26 true (.ld false 1 27),
 g 29 26 true (.bin .eql 28 k1),g 30 26 true (.m8 29),g 31 30 false (.m4 1 3),g 32 30 false (.ld false 1 31),g 33 30 false (.bin .eql 32 (k 2)),
 g 34 26 true (.pick 30 kt 33),pk 35 26 34 kf,m 2 35]
def c:=(s (d r0 [0,2]) (s (s (d r1 (ra 3 19)) (i 22 (s (d r2 [1,22]) .ret) .skip)) (s (d r3 (rl [1] 22 14)) .ret)))
end JJ
def JJ:AFn:=⟨1,JJ.c,[.tmp 2],false⟩
namespace JF
def r0:=[bx 1 0,mv 2 k0]
def r1:=[tt 3 4 1,ca 4 2 [3],nt 5 4]
def r2:=[mv 2 k0]
def r3:=[fa 6 1 0,uu 7 1 6,sb 8 7 k1,bi 9 .shl k1 8,o 10 (.un .neg 9),m 2 10]
def c:=(s (d r0 [0,2]) (s (s (d r1 [3,4]) (i 5 (s (d r2 [1,5]) .ret) .skip)) (s (d r3 (rl [1] 5 6)) .ret)))
end JF
def JF:AFn:=⟨1,JF.c,[.tmp 2],false⟩
namespace JE
def r0:=[bx 1 0,mv 2 k0]
def r1:=[tt 3 4 1,ca 4 2 [3],nt 5 4]
def r2:=[mv 2 k0]
def r3:=[fa 6 1 0,uu 7 1 6,sb 8 7 k1,bi 9 .shl k1 8,sb 10 9 k1,m 2 10]
def c:=(s (d r0 [0,2]) (s (s (d r1 [3,4]) (i 5 (s (d r2 [1,5]) .ret) .skip)) (s (d r3 (rl [1] 5 6)) .ret)))
end JE
def JE:AFn:=⟨1,JE.c,[.tmp 2],false⟩
namespace JD
def r0:=[bx 2 0,mv 4 kf]
def r1:=[tt 5 4 2,ca 6 2 [5],m 7 6,g 8 7 true (.m8 1),g 9 7 true (.ld true 4 2),g 10 7 true (.call 3 [9]),g 11 7 true (.bin .geq 8 10),
 pk 12 7 11 kf,m 13 12,g 14 13 true (.m8 1),g 15 13 true (.ld true 4 2),g 16 13 true (.call 4 [15]),g 17 13 true (.bin .leq 14 16),
 pk 18 13 17 kf,m 4 18]
def c:=(s (d r0 [0,4]) (s (d r1 (rl [1,2] 5 14)) .ret))
end JD
def JD:AFn:=⟨2,JD.c,[.tmp 4],false⟩
namespace JI
def r0:=[mv 6 k0]
def r1:=[m 9 1,ls 10 9 k0,m 11 10,g 12 11 false (.m8 1),g 13 11 false (.bin .gtr 12 (k 62)),pk 14 11 kt 13,m 15 14,
 g 16 15 false (.m8 2),g 17 15 false (.call 1 [16]),g 18 15 false (.un .not 17),pk 19 15 kt 18]
def r2:=[mv 6 k0]
def r3:=[m 20 1,bi 21 .eql 20 k0]
def r4:=[m 22 0,m 6 22]
def r5:=[m 23 0,m 24 1,bi 25 .shr 23 24,m 7 25]
def r6:=[m 26 7,m 27 7,m 28 0,m 29 1,sb 30 29 k1,bi 31 .shr 28 30,bi 32 .and 31 k1,ad 33 27 32,m 34 7,
 o 35 (.build [z,z,z] [(0,1,26),(1,1,33),(2,1,34)]),al 8 [z,z,z],so 3 8 35]
def r7:=[m 36 0,ls 37 36 k0,m 38 37,g 39 38 true (.m8 0),g 40 38 true (.m8 1),g 41 38 true (.bin .shl k1 40),g 42 38 true (.bin .sub 41 k1),
 g 43 38 true (.bin .and 39 42),g 44 38 true (.bin .neq 43 k0),pk 45 38 44 kf]
def r8:=[o 46 (.o6 (some 3) 1 8 (k 2)),uu 47 1 46,ad 48 47 k1,o 49 (.o6 (some 3) 1 8 (k 2)),so 1 49 48]
def r9:=[m 50 2,sb 51 50 k1,o 52 (.o6 (some 3) 1 8 51),uu 53 1 52,m 6 53]
def c:=(s (d r0 [6]) (s (s (d r1 (ra 9 10)) (i 19 (s (d r2 [0,1,2,19]) .ret) .skip)) (s (s (d r3 [19,20]) (i 21 (s (d r4 [0,1,2,21,22]) .ret) .skip)) (s (d r5 [21,23,24,25]) (s (d r6 (rl [7] 26 10)) (s (s (d r7 (rl [0,1] 36 9)) (i 45 (d r8 (ra 45 5)) .skip)) (s (d r9 (rl [2,8,45] 50 4)) .ret)))))))
end JI
def JI:AFn:=⟨3,JI.c,[.tmp 6],false⟩
namespace JK
def r0:=[mv 4 k0]
def r1:=[m 6 0,ls 7 6 k1,m 8 7,g 9 8 false (.m8 0),g 10 8 false (.bin .gtr 9 (k 62)),pk 11 8 kt 10]
def r2:=[mv 4 k0]
def r3:=[m 12 1,m 13 0,bi 14 .shl k1 13,sb 15 14 k1,bi 16 .and 12 15,m 5 16]
def r4:=[m 17 5,m 18 0,sb 19 18 k1,bi 20 .shl k1 19,bi 21 .geq 17 20]
def r5:=[m 22 5,m 23 0,bi 24 .shl k1 23,sb 25 22 24,m 5 25]
def r6:=[m 26 5,m 4 26]
def c:=(s (d r0 [4]) (s (s (d r1 (ra 6 5)) (i 11 (s (d r2 [0,1,11]) .ret) .skip)) (s (d r3 (rl [1] 11 6)) (s (s (d r4 (ra 17 4)) (i 21 (d r5 (rl [0] 21 5)) .skip)) (s (d r6 [0,5,21,26]) .ret)))))
end JK
def JK:AFn:=⟨2,JK.c,[.tmp 4],false⟩
namespace JH
def r0:=[bx 2 0,mv 4 k0]
def r1:=[m 5 1,tt 6 4 2,ca 7 3 [6],o 8 (.mm true [5,7]),tt 9 4 2,ca 10 4 [9],o 11 (.mm false [8,10]),m 4 11]
def c:=(s (d r0 [0,4]) (s (e r1 (rl [1,2] 5 7)) .ret))
end JH
def JH:AFn:=⟨2,JH.c,[.tmp 4],false⟩
namespace JG
def r0:=[bx 2 0,mv 4 k0]
def r1:=[tt 5 4 2,ca 6 2 [5],nt 7 6]
def r2:=[mv 4 k0]
def r3:=[fa 8 2 3,uu 9 1 8,bi 10 .eql 9 (k 2)]
def r4:=[fa 11 2 0,uu 12 1 11,m 13 1,ca 14 7 [12,13],m 4 14]
def r5:=[tt 15 4 2,m 16 1,ca 17 8 [15,16],m 4 17]
def c:=(s (d r0 [0,4]) (s (s (d r1 [5,6]) (i 7 (s (d r2 [1,2,7]) .ret) .skip)) (s (s (d r3 [7,8,9]) (i 10 (s (d r4 (rl [1,2] 10 5)) .ret) .skip)) (s (d r5 [1,2,10,15,16,17]) .ret))))
end JG
def JG:AFn:=⟨2,JG.c,[.tmp 4],false⟩
structure j8 (L:Lib):Prop where
 JL:L 1=some F.JL
 JJ:L 2=some F.JJ
 JF:L 3=some F.JF
 JE:L 4=some F.JE
 JD:L 5=some F.JD
 JI:L 6=some F.JI
 JK:L 7=some F.JK
 JH:L 8=some F.JH
 JG:L 9=some F.JG
end Go.c8.F

namespace Go.c8.F
open C
namespace KC
def r0:=[bx 1 0,mv 2 kf]
def r1:=[fa 10 1 0,tt 11 4 10,ca 12 2 [11],nt 13 12,m 14 13,g 15 14 false (.m4 1 4),g 16 14 false (.ld true 4 15),
 g 17 14 false (.call 2 [16]),g 18 14 false (.un .not 17),pk 19 14 kt 18]
def r2:=[mv 2 kf]
def r3:=[fa 20 1 8,uu 21 1 20,ls 22 21 k0,m 23 22,g 24 23 false (.m4 1 8),g 25 23 false (.ld false 1 24),
 g 26 23 false (.bin .gtr 25 (k 64)),pk 27 23 kt 26,m 28 27,g 29 28 false (.m4 1 9),g 30 28 false (.ld false 1 29),
 g 31 28 false (.len 30),g 32 28 false (.bin .gtr 31 (k 64)),pk 33 28 kt 32,m 34 33,g 35 34 false (.m4 1 10),
 g 36 34 false (.ld false 1 35),g 37 34 false (.len 36),g 38 34 false (.m4 1 8),g 39 34 false (.ld false 1 38),g 40 34 false (.bin .neq 37 39),
 pk 41 34 kt 40]
def r4:=[mv 2 kf]
def r5:=[fa 42 1 9,uu 43 1 42,ln 44 43,mv 45 k0]
def r6:=[ls 46 45 44]
def r7:=[m 47 45,ia 48 1 43 45,tt 49 1 48,al 4 [.nil],m 3 47,so 1 4 49]
def r8:=[fa 50 4 0,uu 51 1 50,ln 52 51,bi 53 .gtr 52 (k 64)]
def r9:=[mv 2 kf]
def BW:=[fa 54 4 0,uu 55 1 54,ln 56 55,mv 57 k0]
def BZ:=[ls 58 57 56]
def s9:=[ia 59 2 55 57,tt 60 2 59,al 6 [z,z],so 2 6 60]
def CT:=[fa 61 6 0,uu 62 1 61,ls 63 62 k0,m 64 63,g 65 64 false (.m4 6 0),g 66 64 false (.ld false 1 65),
 g 67 64 false (.m4 1 8),g 68 64 false (.ld false 1 67),g 69 64 false (.m8 3),g 70 64 false (.bin .add 68 69),g 71 64 false (.bin .gtr 66 70),
 pk 72 64 kt 71]
def x7:=[mv 2 kf]
def ah:=[fa 73 6 1,uu 74 1 73,fa 75 1 4,fa 76 75 1,uu 77 1 76,bi 78 .shl k1 77,bi 79 .neq 74 78,m 80 79,
 g 81 80 true (.m4 1 4),g 82 80 true (.ld true 4 81),g 83 80 true (.m4 6 1),g 84 80 true (.ld false 1 83),g 85 80 true (.call 5 [82,84]),
 g 86 80 true (.un .not 85),pk 87 80 86 kf]
def br:=[mv 2 kf]
def EP:=[ad 88 57 k1,m 57 88]
def bu:=[ad 89 45 k1,m 45 89]
def fc:=[fa 90 1 8,uu 91 1 90,fa 92 1 9,uu 93 1 92,ln 94 93,ad 95 91 94,m 7 95]
def fr:=[fa 96 1 10,uu 97 1 96,ln 98 97,mv 99 k0]
def ij:=[ls 100 99 98]
def ik:=[ia 101 1 97 99,uu 102 1 101,m 9 102]
def jv:=[m 103 9,ls 104 103 k0,m 105 104,g 106 105 false (.m8 9),g 107 105 false (.m8 7),g 108 105 false (.bin .gtr 106 107),
 pk 109 105 kt 108]
def KP:=[mv 2 kf]
def KQ:=[ad 110 99 k1,m 99 110]
def MY:=[fa 111 1 11,uu 112 1 111,bi 113 .geq 112 k0,m 114 113,g 115 114 true (.m4 1 11),g 116 114 true (.ld false 1 115),
 g 117 114 true (.m8 7),g 118 114 true (.bin .leq 116 117),pk 119 114 118 kf,m 2 119]
def l2:=(s (p BZ) (s (i 58 .skip (x 2)) (s (b 3 (s (d s9 [58,59,60]) (s (s (d CT (ra 61 11)) (i 72 (s (d x7 [1,3,6,43,44,45,55,56,57,72]) .ret) .skip)) (s (e ah (rl [6] 72 15)) (i 87 (s (d br [1,3,43,44,45,55,56,57,87]) .ret) .skip))))) (d EP [87,88]))))
def l1:=(s (p r6) (s (i 46 .skip (x 0)) (s (b 1 (s (d r7 (ra 46 4)) (s (s (d r8 [50,51,52]) (i 53 (s (d r9 [1,3,4,43,44,45,53]) .ret) .skip)) (s (d BW [4,53,54]) (b 2 (w l2)))))) (d bu [3,55,56,57,58,89]))))
def l3:=(s (p ij) (s (i 100 .skip (x 4)) (s (b 5 (s (d ik [100,101,102]) (s (d jv (rl [9] 103 6)) (i 109 (s (d KP [1,7,97,98,99,109]) .ret) .skip)))) (d KQ [109,110]))))
def c:=(s (d r0 [0,2]) (s (s (d r1 (ra 10 9)) (i 19 (s (d r2 [1,19]) .ret) .skip)) (s (s (d r3 (ra 19 22)) (i 41 (s (d r4 [1,41]) .ret) .skip)) (s (s (d r5 [41,42]) (b 0 (w l1))) (s (d fc (rl [43,44,45,46] 90 6)) (s (s (d fr [96]) (b 4 (w l3))) (s (d MY (rl [1,7,97,98,99,100] 111 9)) .ret)))))))
end KC
def KC:AFn:=⟨1,KC.c,[.tmp 2],false⟩
namespace KH
def r0:=[bx 3 0,mv 6 k0]
def r1:=[m 11 1,ln 12 11,fa 13 3 8,uu 14 1 13,bi 15 .neq 12 14]
def r2:=[mv 6 k1]
def r3:=[m 16 1,ln 17 16,mv 18 k0]
def r4:=[ls 19 18 17]
def r5:=[ia 20 1 16 18,uu 21 1 20,m 8 21]
def r6:=[fa 22 3 0,tt 23 4 22,m 24 8,ca 25 5 [23,24],nt 26 25]
def r7:=[mv 6 (k 17)]
def r8:=[ad 27 18 k1,m 18 27]
def r9:=[m 28 2,ln 29 28,mv 30 k0]
def BW:=[ls 31 30 29]
def BZ:=[ia 32 1 28 30,uu 33 1 32,m 10 33]
def s9:=[fa 34 3 0,tt 35 4 34,m 36 10,ca 37 5 [35,36],nt 38 37]
def CT:=[mv 6 (k 17)]
def x7:=[ad 39 30 k1,m 30 39]
def ah:=[mv 6 k0]
def l1:=(s (p r4) (s (i 19 .skip (x 0)) (s (b 1 (s (d r5 [19,20,21]) (s (d r6 (rl [8] 22 4)) (i 26 (s (d r7 [2,3,16,17,18,26]) .ret) .skip)))) (d r8 [26,27]))))
def l2:=(s (p BW) (s (i 31 .skip (x 2)) (s (b 3 (s (d BZ [31,32,33]) (s (d s9 (rl [10] 34 4)) (i 38 (s (d CT [3,28,29,30,38]) .ret) .skip)))) (d x7 [38,39]))))
def c:=(s (d r0 [0,6]) (s (s (d r1 (ra 11 4)) (i 15 (s (d r2 [1,2,3,15]) .ret) .skip)) (s (s (d r3 [1,15]) (b 0 (w l1))) (s (s (d r9 (rl [2] 16 4)) (b 2 (w l2))) (s (d ah (rl [3] 28 4)) .ret)))))
end KH
def KH:AFn:=⟨3,KH.c,[.tmp 6],false⟩
namespace KE
def r0:=[bx 3 0,mv 6 (.c .nil),mv 7 kf]
def r1:=[fa 16 3 8,uu 17 1 16,ad 18 k1 17,fa 19 3 9,uu 20 1 19,ln 21 20,ad 22 18 21,
 o 23 (.mk 23 1 8 [z] k0 22),m 8 23]
def r2:=[m 24 8,m 25 2,o 26 (.b9 26 1 [25]),o 27 (.app 27 1 8 24 26),m 8 27]
def r3:=[m 28 8,m 29 1,o 30 (.app 30 1 8 28 29),m 8 30]
def r4:=[mv 9 kf]
def r5:=[fa 31 3 9,uu 32 1 31,ln 33 32,mv 34 k0]
def r6:=[ls 35 34 33]
def r7:=[ia 36 1 32 34,tt 37 1 36,al 11 [.nil],so 1 11 37]
def r8:=[mv 12 k0]
def r9:=[fa 38 11 0,uu 39 1 38,ln 40 39,mv 41 k0]
def BW:=[ls 42 41 40]
def BZ:=[ia 43 2 39 41,tt 44 2 43,al 14 [z,z],so 2 14 44]
def s9:=[m 45 12,fa 46 14 1,uu 47 1 46,m 48 8,fa 49 14 0,uu 50 1 49,ia 51 1 48 50,uu 52 1 51,
 bi 53 .mul 47 52,ad 54 45 53,m 12 54]
def CT:=[ad 55 41 k1,m 41 55]
def x7:=[m 56 12,fa 57 3 4,fa 58 57 1,uu 59 1 58,fa 60 3 0,fa 61 60 2,uu 62 1 61,ca 63 6 [56,59,62],
 m 15 63]
def ah:=[m 64 9,m 65 64,g 66 65 false (.m4 3 0),g 67 65 false (.ld true 4 66),g 68 65 false (.m8 15),g 69 65 false (.call 5 [67,68]),
 g 70 65 false (.un .not 69),pk 71 65 kt 70,m 9 71]
def br:=[m 72 8,fa 73 3 0,tt 74 4 73,m 75 15,ca 76 9 [74,75],o 77 (.b9 77 1 [76]),o 78 (.app 78 1 8 72 77),m 8 78]
def EP:=[ad 79 34 k1,m 34 79]
def bu:=[m 80 8,m 81 9,m 6 80,m 7 81]
def l2:=(s (p BW) (s (i 42 .skip (x 2)) (s (b 3 (s (d BZ [42,43,44]) (e s9 (rl [14] 45 10)))) (d CT [55]))))
def l1:=(s (p r6) (s (i 35 .skip (x 0)) (s (b 1 (s (d r7 [35,36,37]) (s (p r8) (s (s (d r9 [11,38]) (b 2 (w l2))) (s (d x7 (rl [12,39,40,41,42] 56 8)) (s (d ah (ra 64 8)) (d br (rl [15] 72 7)))))))) (d EP [79]))))
def c:=(s (d r0 [0,6,7]) (s (d r1 (ra 16 8)) (s (d r2 (rl [2] 24 4)) (s (d r3 [1,28,29,30]) (s (p r4) (s (s (d r5 [31]) (b 0 (w l1))) (s (d bu [3,8,9,32,33,34,35,80,81]) .ret)))))))
end KE
def KE:AFn:=⟨3,KE.c,[.tmp 6,.tmp 7],false⟩
namespace KD
def r0:=[bx 3 0,mv 6 (.c .nil),mv 7 kf,mv 8 k0]
def r1:=[tt 12 12 3,ca 13 21 [12],nt 14 13]
def r2:=[mv 6 (.c .nil),mv 7 kf,mv 8 (k 2)]
def r3:=[tt 15 12 3,m 16 1,m 17 2,o 18 (.b9 18 1 [17]),ca 19 22 [15,16,18],m 9 19]
def r4:=[m 20 9,bi 21 .neq 20 k0]
def r5:=[m 22 9,mv 6 (.c .nil),mv 7 kf,m 8 22]
def r6:=[tt 24 12 3,m 25 1,m 26 2,ca 27 23 [24,25,26],m 23 27,et 28 23 0,et 29 23 1,m 10 28,m 11 29]
def r7:=[m 30 10,m 31 11,m 6 30,m 7 31,mv 8 k0]
def c:=(s (d r0 [0,6,7,8]) (s (s (d r1 [12,13]) (i 14 (s (d r2 [1,2,3,14]) .ret) .skip)) (s (s (d r3 (ra 14 6)) (s (d r4 [20]) (i 21 (s (d r5 [1,2,3,9,21,22]) .ret) .skip))) (s (d r6 (rl [1,2,3,9,21] 23 7)) (s (d r7 [10,11,30,31]) .ret)))))
end KD
def KD:AFn:=⟨3,KD.c,[.tmp 6,.tmp 7,.tmp 8],false⟩
namespace JS
def r0:=[mv 0 kf]
def r1:=[o 7 (.build [z,z,z,z] [(0,1,(k 8)),(1,1,k0),(2,1,k1),(3,1,k1)]),al 1 [z,z,z,z],so 4 1 7]
def r2:=[o 8 (.build [z,z,z,z] [(0,1,(k 8)),(1,1,k1),(2,1,k1),(3,1,k1)]),al 2 [z,z,z,z],so 4 2 8]
def r3:=[tt 9 4 1,tt 10 4 2,o 11 (.build [z,z] [(1,1,(k 3))]),o 12 (.b9 12 2 [11]),o 13 (.build [.nil] [(0,1,12)]),
 o 14 (.b9 14 1 [13]),o 15 (.build [z,z,z,z,z,z,z,z,z,.nil,.nil,z] [(0,4,9),(4,4,10),(9,1,14),(11,1,k1)]),
 al 3 [z,z,z,z,z,z,z,z,z,.nil,.nil,z],so 12 3 15]
def r4:=[tt 17 12 3,ca 18 24 [17,(.c .nil),(k 5)],m 16 18,et 19 16 0,et 20 16 1,et 21 16 2,m 4 19,m 5 20,m 6 21]
def r5:=[m 22 6,bi 23 .eql 22 k0,m 24 23,g 25 24 true (.m8 5),g 26 24 true (.un .not 25),pk 27 24 26 kf,m 28 27,
 g 29 28 true (.m8 4),g 30 28 true (.len 29),g 31 28 true (.bin .eql 30 (k 2)),pk 32 28 31 kf,m 33 32,g 34 33 true (.m8 4),
 g 35 33 true (.o6 none 1 34 k1),g 36 33 true (.ld false 1 35),g 37 33 true (.bin .eql 36 (k 7)),pk 38 33 37 kf,m 0 38]
def c:=(s (d r0 [0]) (s (d r1 [7]) (s (d r2 [8]) (s (d r3 (rl [1,2] 9 7)) (s (d r4 (rl [3] 16 6)) (s (d r5 (rl [4,5,6] 22 17)) .ret))))))
end JS
def JS:AFn:=⟨0,JS.c,[.tmp 0],false⟩
structure v8 (L:Lib):Prop extends j8 L where
 KC:L 21=some F.KC
 KH:L 22=some F.KH
 KE:L 23=some F.KE
 KD:L 24=some F.KD
 JS:L 32=some F.JS
end Go.c8.F

namespace Go.c8.F
open C
namespace KI
def r0:=[o 2 (.alloc 145002 z6)]
def r1:=[m 5 0,o 6 (.mk 145006 1 24 [.nil] 5 5),m 7 0,q 8 [145006,145003] (.n6 145008 131 [7]),m 9 0,
 q 10 [145006,145003] (.n6 145010 131 [9]),q 11 [145006,145003] (.call 96 [k0]),
 o 12 (.build z6 [(0,1,6),(1,1,8),(2,1,10),(3,3,11)]),
 o 3 (.alloc 145003 z6),so 6 3 12]
def r2:=[fa 13 3 0,uu 14 1 13,ln 15 14,mv 16 k0]
def r3:=[ls 17 16 15]
def r4:=[m 18 16,m 4 18]
def r5:=[fa 19 3 0,q 20 [145023] (.ld false 1 19),m 21 4,m 22 0,o 23 (.n6 145023 131 [22]),ia 24 1 20 21,so 1 24 23]
def r6:=[ad 25 16 k1,m 16 25]
def r7:=[tt 26 6 3,so 6 2 26]
def l1:=(s (p r3) (s (i 17 .skip (x 0)) (s (b 1 (s (d r4 [17,18]) (e r5 (rl [4] 19 6)))) (d r6 [25]))))
def c:=(s (p r0) (s (e r1 (ra 5 8)) (s (s (d r2 [13,14]) (b 0 (w l1))) (s (d r7 [0,3,15,16,17,26]) .ret))))
end KI
def KI:AFn:=⟨1,KI.c,[.cell 2 true 6],false⟩
structure jf (L:Lib):Prop extends e5 L,v8 L where
 KI:L 145=some F.KI
end Go.c8.F

namespace Go.c8.F
open C
namespace KR
def r0:=[al 4 z3]
def r1:=[m 5 1,bi 6 .eql 5 k0]
def r2:=[ca 7 96 [k0],so 3 4 7]
def r3:=[m 8 0,ca 9 85 [8],m 10 1,ca 11 85 [10],o 12 (.c4 93 [9,11]),ca 13 94 [12],so 3 4 13]
def c:=(s (p r0) (s (s (d r1 [5]) (i 6 (s (d r2 [0,1,6,7]) .ret) .skip)) (s (d r3 (rl [0,1,6] 8 6)) .ret)))
end KR
def KR:AFn:=⟨2,KR.c,[.cell 4 true 3],false⟩
structure cg (L:Lib):Prop extends a5 L where
 KR:L 151=some F.KR
end Go.c8.F

namespace Go.c8.F
open C
namespace G6
def r0:=[mv 2 (.c .nil)]
def r1:=[m 4 0,ln 5 4,m 3 5]
def r2:=[m 6 3,bi 7 .gtr 6 k0,m 8 7,g 9 8 true (.m8 0),g 10 8 true (.m8 3),g 11 8 true (.bin .sub 10 k1),g 12 8 true (.o6 none 3 9 11),
 g 13 8 true (.ld true 3 12),g 14 8 true (.call 97 [13]),g 15 8 true (.bin .eql 14 k0),pk 16 8 15 kf]
def r3:=[m 17 3,sb 18 17 k1,m 3 18]
def r4:=[m 19 0,m 20 3,o 21 (.de 3 19 none (some 20)),m 2 21]
def l1:=(s (s (d r2 (ra 6 10)) (i 16 .skip (x 0))) (b 1 (d r3 [16,17,18])))
def c:=(s (d r0 [2]) (s (d r1 [4,5]) (s (b 0 (w l1)) (s (d r4 [0,3,16,19,20,21]) .ret))))
end G6
def G6:AFn:=⟨1,G6.c,[.tmp 2],false⟩
namespace KO
def r0:=[mv 2 (.c .nil)]
def r1:=[m 5 0,o 6 (.c4 169 [5]),ln 7 6,o 8 (.mk 170008 3 56 z3 7 7),m 3 8]
def r2:=[m 9 3,ln 10 9,mv 11 k0]
def r3:=[ls 12 11 10]
def r4:=[m 13 11,m 4 13]
def r5:=[m 14 3,m 15 4,m 16 0,m 17 4,ia 18 3 16 17,tt 19 3 18,ca 20 95 [19],ia 21 3 14 15,so 3 21 20]
def r6:=[ad 22 11 k1,m 11 22]
def r7:=[m 23 3,m 2 23]
def l1:=(s (p r3) (s (i 12 .skip (x 0)) (s (b 1 (s (d r4 [12,13]) (d r5 (rl [4] 14 8)))) (d r6 [22]))))
def c:=(s (d r0 [2]) (s (d r1 (ra 5 4)) (s (s (d r2 [9]) (b 0 (w l1))) (s (d r7 [0,3,10,11,12,23]) .ret))))
end KO
def KO:AFn:=⟨1,KO.c,[.tmp 2],false⟩
structure ak (L:Lib):Prop extends a5 L where
 G6:L 169=some F.G6
 KO:L 170=some F.KO
end Go.c8.F

namespace Go.c8.F
open C
structure ji (L:Lib):Prop extends a8 L where
structure jg (L:Lib):Prop extends ji L where
end Go.c8.F
