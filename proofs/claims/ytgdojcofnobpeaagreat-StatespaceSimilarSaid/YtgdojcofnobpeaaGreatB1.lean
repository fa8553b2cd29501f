/-
  The abstract machine: data without memory. AV: a value; slices that are only read are lists ('sl'), rows and boxes of the call's own are named by a site and a stamp.
  Nothing here speaks of a program; EngSound ties it to the model.
-/
import Derived.Calls
import Derived.Below
import Derived.Laws.CopyRow
import Derived.Laws.Cells
import Derived.Laws.MakeOwn
import Derived.Laws.AppendOwn
import Derived.Deep.AppendSrc
import Derived.Deep.Draws
import Derived.ArgAppend
import Derived.Laws.StructEq
import Derived.ChangeKeysEq
set_option linter.unusedSimpArgs false
set_option linter.unusedVariables false
set_option linter.unnecessarySimpa false
namespace Go.Eng
theorem zE {α : Type} {l : List α} {i : Nat} (h : i < l.length) : l[i]? = some l[i] :=
 List.getElem?_eq_getElem h
theorem zS {α : Type} {l : List α} {i : Nat} {a : α} (h : l[i]? = some a) : ∃ h : i < l.length, l[i] = a :=
 List.getElem?_eq_some_iff.1 h
theorem zM {α : Type} {l : List α} {i : Nat} {a : α} (h : l[i]? = some a) : a ∈ l :=
 List.mem_of_getElem? h
end Go.Eng
namespace Go.Eng
inductive AV where
 | int (k:IntKind) (n:Int)
 | bool (b:Bool)
 | sl (l:Bool) (es:List (List AV))
 | row (s t z off len:Nat)
 | nil
 | ptr (s t i j:Nat)
 | o6 (cs:List AV)
 | agg (cs:List AV)
 | tup (vs:List AV)
 | z9 (v:Value)
 | fn (p:Bool) (f g:Nat) (cs:List AV)
 | any
 deriving Inhabited
inductive B8 where
 | t (n:Nat)
 | c (v:AV)
 deriving Inhabited
structure GH where
 a6:Nat
 es:List (List AV)
structure D9 where
 e5:Nat
 blk:Nat->Option GH
def BT:=Nat->D9
def BT.emp:BT:=λ_=>⟨0,λ_=>none⟩
def BT.put (o:BT) (s:Nat) (x:D9):BT:=λ s'=>if s'=s then x else o s'
def BT.get (o:BT) (s t:Nat):Option GH:=(o s).blk t
def BT.e5 (o:BT) (s:Nat):Nat:=(o s).e5
def D9.n7 (x:D9) (t:Nat) (b:Option GH):D9:=⟨x.e5,λ t'=>if t'=t then b else x.blk t'⟩
def D9.new (x:D9) (b:GH):D9:=⟨x.e5+1,λ t'=>if t'=x.e5 then some b else x.blk t'⟩
theorem BT.e7 (o:BT) (s:Nat) (x:D9):o.put s x s=x:=by simp [BT.put]
theorem BT.cq (o:BT) (s s':Nat) (x:D9) (h:s'≠s):o.put s x s'=o s':=by simp [BT.put,h]
theorem BT.fj (o:BT) (s:Nat) (x y:D9):(o.put s x).put s y=o.put s y:=by
 funext s';by_cases h:s'=s<;>simp [BT.put,h]
inductive GN where
 | a8 (x:B8)
 | q7 (s a6:Nat)
 | pick (c a b:B8)
 | bin (op:BinOp) (x y:B8)
 | beq (ne:Bool) (x y:B8)
 | un (op:UnOp) (x:B8)
 | conv (k:IntKind) (x:B8)
 | box (s:Nat) (x:B8)
 | alloc (s:Nat) (zero:List AV)
 | build (zero:List AV) (parts:List (Nat × Nat × B8))
 | c4 (s a6:Nat) (parts:List B8)
 | a7 (x:B8) (off:Nat)
 | gx (x:B8) (off n:Nat) (agg:Bool)
 | a4 (arr:Option Nat) (a6:Nat) (x i:B8)
 | idx (len a6:Nat) (agg:Bool) (x i:B8)
 | ld (agg:Bool) (n:Nat) (x:B8)
 | st (n:Nat) (x v:B8)
 | mk (s a6 bytes:Nat) (zero:List AV) (l c:B8)
 | ay (a6:Nat) (x:B8) (lo hi:Option B8)
 | ext (x:B8) (i:Nat)
 | len (x:B8)
 | mm (max:Bool) (xs:List B8)
 | app (s a6 bytes:Nat) (x y:B8)
 | iq (a6:Nat) (x y:B8)
 | call (f:Nat) (xs:List B8)
 | c8 (f:Nat) (xs:List B8)
 | jz (ne:Bool) (x:B8)
 | cr (tb:List Nat) (x:B8)
 | jc (p:Bool) (f:Nat) (xs:List B8)
 | n8 (x:B8) (xs:List B8)
 | l9 (f:Nat) (xs:List B8)
 | gu (s n:Nat) (x v:B8)
 | o0 (s f:Nat) (xs:List B8)
 | ke (ne:Bool) (n:Nat) (x y:B8)
 | al (s a6 bytes:Nat) (x y:B8)
 | bh (x:B8)
 | gv (s a6 bytes:Nat) (x y:B8)
 | il (s a6 bytes:Nat) (x y:B8)
 | x9 (s f:Nat) (xs:List B8)
 | bad
 | kj (x:B8)
 deriving Inhabited
structure AI where
 dst:Option Nat
 op:GN
 guard:Option (Nat × Bool):=none
 b9:List Nat:=[]
 deriving Inhabited
inductive C1 where
 | skip
 | ops (l:List AI) (draw:Bool)
 | dr (c:C1) (ts ss:List Nat)
 | scope (c:C1)
 | seq (a b:C1)
 | cond (c:B8) (a b:C1)
 | block (id:Nat) (c:C1)
 | loop (c:C1)
 | exit (id:Nat)
 | ret
 deriving Inhabited
inductive ML where
 | tmp (t:Nat)
 | cell (t:Nat) (agg:Bool) (n:Nat)
 deriving Inhabited
structure AFn where
 v8:Nat
 body:C1
 res:List ML
 jf:Bool
abbrev Tm:=List (Nat × AV)
def c9:Tm->Nat->AV
 | [],_ => .any
 | (i,v)::r,j=>if j=i then v else c9 r j
def dz:Tm->Nat->AV->Tm
 | [],j,u=>[(j,u)]
 | (i,v)::r,j,u=>if j=i then (i,u)::r else if j<i then (j,u)::(i,v)::r else (i,v)::dz r j u
def u7:Tm->List Nat->Tm
 | [],_=>[]
 | (i,v)::r,l=>if l.contains i then u7 r l else (i,v)::u7 r l
theorem dW (m:Tm) (i:Nat) (v:AV) (j:Nat):c9 (dz m i v) j=if j=i then v else c9 m j:=by
 induction m with
 | nil=>by_cases h:j=i<;>simp [dz,c9,h]
 | cons x r ih =>
  obtain ⟨a,u⟩:=x;by_cases h:i=a
  ·subst h
   by_cases h2:j=i<;>simp [dz,c9,h2]
  ·by_cases l6:i<a
   ·by_cases h2:j=i<;>simp [dz,c9,h,l6,h2]
   ·by_cases h2:j=a
    ·subst h2
     have : ¬ j=i:=λ e=>h e.symm
     simp [dz,c9,h,l6,this]
    ·simp [dz,c9,h,l6,h2,ih]
structure St where
 tm:Tm
 own:BT
def St.ev (st:St):B8->AV
 | .t n=>c9 st.tm n
 | .c v=>v
inductive ED where
 | val (v:AV)
 | new (s:Nat) (b:GH) (v:Nat->AV)
 | oi (s:Nat) (b:GH) (v:Nat->AV)
 | af (v:AV) (own:BT)
 | n7 (s:Nat) (x:D9)
 | km (s:Nat) (x:D9) (v:AV)
def cellsOf:AV->Option (List AV)
 | .agg cs=>some cs
 | .fn _ _ _ _=>none
 | .tup _=>none
 | .any=>none
 | v=>some [v]
def ME (agg:Bool) (cs:List AV):Option AV :=
 if agg then some (.agg cs) else match cs with|[c]=>some c|_=>none
def part (cs:List AV) (off n:Nat):Option (List AV) :=
 if off+n<=cs.length then some ((cs.drop off).take n) else none
def splice (cs:List AV) (off:Nat) (vs:List AV):List AV:=cs.take off++vs++cs.drop (off+vs.length)
def fill (cells:List AV):List (Nat × Nat × AV)->Option (List AV)
 | []=>some cells
 | (off,n,v)::r=>match cellsOf v with
  | some vs=>if vs.length=n/\off+n<=cells.length then fill (splice cells off vs) r else none
  | none=>none
def F4 (op:BinOp) (k:IntKind) (a:Int) (k':IntKind) (b:Int):Option AV :=
 match op with
 | .shl=>if b<0 then none else some (.int k (k.wrap (a*2^(min b.toNat k.bits))))
 | .shr=>if b<0 then none else some (.int k (a.fdiv (2^(min b.toNat k.bits))))
 | .add=>if k=k' then some (.int k (k.wrap (a+b))) else none
 | .sub=>if k=k' then some (.int k (k.wrap (a-b))) else none
 | .mul=>if k=k' then some (.int k (k.wrap (a*b))) else none
 | .quo=>if k=k'/\b≠0 then some (.int k (k.wrap (a.tdiv b))) else none
 | .rem=>if k=k'/\b≠0 then some (.int k (a.tmod b)) else none
 | .and=>if k=k' then some (.int k (k.wrap (BitVec.ofInt k.bits a &&& BitVec.ofInt k.bits b).toNat)) else none
 | .or=>if k=k' then some (.int k (k.wrap (BitVec.ofInt k.bits a ||| BitVec.ofInt k.bits b).toNat)) else none
 | .xor=>if k=k' then some (.int k (k.wrap (BitVec.ofInt k.bits a ^^^ BitVec.ofInt k.bits b).toNat)) else none
 | .andNot=>if k=k' then some (.int k (k.wrap (BitVec.ofInt k.bits a &&& ~~~ BitVec.ofInt k.bits b).toNat)) else none
 | .eql=>if k=k' then some (.bool (a == b)) else none
 | .neq=>if k=k' then some (.bool (a != b)) else none
 | .lss=>if k=k' then some (.bool (decide (a<b))) else none
 | .leq=>if k=k' then some (.bool (decide (a<=b))) else none
 | .gtr=>if k=k' then some (.bool (decide (a>b))) else none
 | .geq=>if k=k' then some (.bool (decide (a≥b))) else none
def WR (op:UnOp):AV->Option AV
 | .int k n=>match op with
  | .neg=>some (.int k (k.wrap (0-n)))
  | .xor=>some (.int k (k.wrap (BitVec.ofInt k.bits (if k.signed then -1 else k.max) ^^^ BitVec.ofInt k.bits n).toNat))
  | _=>none
 | .bool b=>match op with
  | .not=>some (.bool (!b))
  | _=>none
 | _=>none
def U9 (max:Bool):AV->AV->Option AV
 | .int k a,.int _ b=>some (.int k (if max then (if b>a then b else a) else (if b<a then b else a)))
 | _,_=>none
def N8 (max:Bool):AV->List AV->Option AV
 | v,[]=>some v
 | v,u::r=>match U9 max v u with|some x=>N8 max x r|none=>none
def BT.m4 (o:BT):List Nat->BT
 | []=>o
 | s::r=>λ s'=>if s'=s then ⟨0,λ_=>none⟩ else o.m4 r s'
def BT.jb (own:BT) (s t i j n:Nat):Option (List AV) :=
 match own.get s t with
 | some b=>match b.es[i]? with
  | some cs=>part cs j n
  | none=>none
 | none=>none
def BT.fm (own:BT) (s t i j:Nat) (vs:List AV):Option BT :=
 match own.get s t with
 | some b=>match b.es[i]? with
  | some cs=>if j+vs.length<=cs.length then some (own.put s ((own s).n7 t (some ⟨b.a6,b.es.set i (splice cs j vs)⟩))) else none
  | none=>none
 | none=>none
def G5 (own:BT):AV->Option (List (List AV))
 | .sl _ es=>some es
 | .nil=>some []
 | .z9 (.bool _)=>some []
 | .row s t z off len=>match own.get s t with
  | some b=>if off+len<=b.es.length/\b.a6=z then some ((b.es.drop off).take len) else none
  | none=>none
 | _=>none
def lenOf:AV->Option Nat
 | .sl _ es=>some es.length
 | .nil=>some 0
 | .row _ _ _ _ len=>some len
 | _=>none
def snap (own:BT) (l:Bool):Nat->AV->Option AV
 | _,.int k n=>some (.int k n)
 | _,.bool b=>some (.bool b)
 | _,.sl l' es=>some (.sl l' es)
 | _,.nil=>some (.sl false [])
 | _,.z9 v=>some (.z9 v)
 | d+1,.row s t z off len=>match G5 own (.row s t z off len) with
  | some es=>(es.mapM (λ cs:List AV=>cs.mapM (snap own l d))).map (AV.sl l)
  | none=>none
 | _,_=>none
def F6 (own:BT) (l:Bool):AV->Option AV
 | .agg cs=>(cs.mapM (snap own l 6)).map AV.agg
 | v=>snap own l 6 v
def UA (own:BT) (l:Bool):AV->Option AV
 | .nil=>some .nil
 | v=>F6 own l v
def WK (own:BT) (l:Bool):AV->Option AV
 | .tup cs=>(cs.mapM (F6 own l)).map AV.tup
 | v=>F6 own l v
mutual
def CS:AV->Prop
 | .int _ _=>True
 | .bool _=>True
 | .z9 _=>True
 | .sl l es=>l=false/\IO es
 | .agg cs=>FG cs
 | .tup cs=>FG cs
 | _=>False
def FG:List AV->Prop
 | []=>True
 | c::r=>CS c/\FG r
def IO:List (List AV)->Prop
 | []=>True
 | c::r=>FG c/\IO r
end
def F3:Nat:=140737488355328
structure Cl where
 pure:Nat->List AV->Option AV
 db:Nat->List AV->BT->Option (AV × BT)
 num:Nat->Nat
noncomputable def fK (C:Cl) (f:Nat) (vs:List AV) (s:Nat) (q:D9):Option (AV × D9) :=
 open Classical in if h : ∃ p : AV × D9, ∀ o : BT, o s = q -> C.db f vs o = some (p.1, o.put s p.2) then some h.choose else none
theorem fO {C:Cl} {f:Nat} {vs:List AV} {s:Nat} {q:D9} {p:AV × D9}:fK C f vs s q=some p ↔ ∀ o:BT,o s=q->C.db f vs o=some (p.1,o.put s p.2):=by
 unfold fK;constructor
 ·intro h
  split at h
  ·rename_i hx
   obtain rfl:=Option.some.inj h;exact hx.choose_spec
  ·cases h
 ·intro h
  rw[dif_pos ⟨p,h⟩];have h1:=(⟨p,h⟩ : ∃ p:AV × D9,∀ o:BT,o s=q->C.db f vs o=some (p.1,o.put s p.2)).choose_spec (λ_=>q) rfl;have h2:=h (λ_=>q) rfl;have h3:=Option.some.inj (h2.symm.trans h1);refine congrArg some ?_;generalize (Exists.choose _:AV × D9)=p' at h3;obtain ⟨a,b⟩:=p;obtain ⟨a',b'⟩:=p';simp only[Prod.mk.injEq]at h3;obtain ⟨h4,h5⟩:=h3;have h6:b=b':=by
   have:=congrFun h5 s
   simpa [BT.put] using this
  rw[h4,h6]
def aD:AV->AV
 | .sl _ es => .sl false es
 | .nil => .sl false []
 | v=>v
def nb:AV->AV
 | .agg cs => .agg (cs.map aD)
 | v=>aD v
def cO:AV->AV
 | .sl _ es => .sl true es
 | v=>v
def ka:AV->AV
 | .agg cs => .agg (cs.map cO)
 | v=>cO v
def J5:AV->Bool
 | .int _ _=>true | .bool _=>true | .sl _ _=>true | .nil=>true
 | _=>false
def dq:AV->Bool
 | .agg cs=>cs.all J5
 | v=>J5 v
def Db:AV->Bool
 | .int _ _=>true | .bool _=>true
 | _=>false
def aJ:AV->Prop
 | .int _ _=>True
 | .bool _=>True
 | .sl _ es => ∀ e∈es,∀ c∈e,Db c=true
 | _=>False
def aM:AV->Prop
 | .agg cs => ∀ c∈cs,aJ c
 | v=>aJ v
def K5:List AV->Option (List Int)
 | []=>some []
 | .int .i64 n::r=>(K5 r).map (n :: ·)
 | _=>none
def KB:AV->Option AV
 | .agg _=>none
 | .fn _ _ _ _=>none
 | .tup _=>none
 | .any=>none
 | v=>some v
open Classical in
noncomputable def TQ (x:Option (AV × BT)):Option (Nat × List (List AV)):=match x with
 | some (.row s t z 0 n,o)=>match o.get s t with
  | some b=>if b.es.length=n/\IO b.es then some (z,b.es) else none
  | none=>none
 | _=>none
theorem Oi {x:Option (AV × BT)} {z:Nat} {es:List (List AV)} (h:TQ x=some (z,es)) : ∃ s t o b,x=some (.row s t z 0 es.length,o)/\o.get s t=some b/\b.es=es/\IO es:=by
 unfold TQ at h;split at h
 ·split at h
  ·rename_i s t z' n o b hb
   split at h
   ·rename_i hc
    obtain ⟨rfl,hc⟩:=hc;simp only[Option.some.injEq,Prod.mk.injEq]at h;obtain ⟨rfl,rfl⟩:=h;exact ⟨_,_,_,_,rfl,hb,rfl,hc⟩
   ·cases h
  ·cases h
 ·cases h
open Classical in
noncomputable def c7 (C:Cl) (b9:List Nat) (ρ:B8->AV) (own:BT):GN->Option ED
 | .a8 x=>some (.val (ρ x))
 | .q7 s a6=>some (.oi s ⟨a6,[]⟩ (λ t => .row s t a6 0 0))
 | .pick c a b=>match ρ c with
  | .bool true=>some (.val (ρ a))
  | .bool false=>some (.val (ρ b))
  | _=>none
 | .bin op x y=>match ρ x,ρ y with
  | .int k a,.int k' b=>(F4 op k a k' b).map .val
  | _,_=>none
 | .beq ne x y=>match ρ x,ρ y with
  | .bool a,.bool b=>some (.val (.bool (if ne then !(a == b) else a == b)))
  | _,_=>none
 | .un op x=>(WR op (ρ x)).map .val
 | .conv k x=>match ρ x with
  | .int _ n=>some (.val (.int k (k.wrap n)))
  | _=>none
 | .box s x=>match cellsOf (ρ x) with
  | some cs=>some (.new s ⟨cs.length,[cs]⟩ (λ t => .ptr s t 0 0))
  | none=>none
 | .alloc s zero=>some (.new s ⟨zero.length,[zero]⟩ (λ t => .ptr s t 0 0))
 | .build zero parts=>(fill zero (parts.map λ p=>(p.1,p.2.1,ρ p.2.2))).map (λ cs => .val (.agg cs))
 | .c4 s a6 parts=>match parts.mapM (λ x=>cellsOf (ρ x)) with
  | some es=>if ∀ e∈es,e.length=a6 then some (.new s ⟨a6,es⟩ (λ t => .row s t a6 0 es.length)) else none
  | none=>none
 | .a7 x off=>match ρ x with
  | .ptr s t i j=>some (.val (.ptr s t i (j+off)))
  | .o6 cs=>some (.val (.o6 (cs.drop off)))
  | _=>none
 | .gx x off n agg=>match ρ x with
  | .agg cs=>match part cs off n with
   | some ds=>(ME agg ds).map .val
   | none=>none
  | _=>none
 | .a4 arr a6 x i=>match ρ i with
  | .int _ n=>match arr,ρ x with
   | some len,.ptr s t i' j=>if 0<=n/\n<len then some (.val (.ptr s t i' (j+n.toNat*a6))) else none
   | some len,.o6 cs=>if 0<=n/\n<len then some (.val (.o6 (cs.drop (n.toNat*a6)))) else none
   | none,.row s t z off len=>if 0<=n/\n<len/\z=a6 then some (.val (.ptr s t (off+n.toNat) 0)) else none
   | none,.sl _ es=>if 0<=n then match es[n.toNat]? with
     | some cs=>if cs.length=a6 then some (.val (.o6 cs)) else none
     | none=>none
    else none
   | _,_=>none
  | _=>none
 | .idx len a6 agg x i=>match ρ i,ρ x with
  | .int _ n,.agg cs=>if 0<=n/\n<len then match part cs (n.toNat*a6) a6 with
    | some ds=>(ME agg ds).map .val
    | none=>none
   else none
  | _,_=>none
 | .ld agg n x=>match ρ x with
  | .ptr s t i j=>match (own.m4 b9).jb s t i j n with
   | some cs=>(ME agg cs).map .val
   | none=>none
  | .o6 cs=>match part cs 0 n with
   | some ds=>(ME agg ds).map .val
   | none=>none
  | _=>none
 | .st n x v=>match ρ x,cellsOf (ρ v) with
  | .ptr s t i j,some vs=>if vs.length=n then (own.fm s t i j vs).map (ED.af (.tup [])) else none
  | _,_=>none
 | .mk s a6 bytes zero l c=>match ρ l,ρ c with
  | .int _ a,.int _ b=>if 0<=a/\a<=b/\b*bytes<=F3/\b<=9223372036854775807/\zero.length=a6 then some (.new s ⟨a6,List.replicate a.toNat zero⟩ (λ t => .row s t a6 0 a.toNat)) else none
  | _,_=>none
 | .ay a6 x lo hi=>match ρ x with
  | .sl l es =>
   let h:Option Nat:=match hi with|none=>some es.length|some o=>match ρ o with | .int _ n=>if 0<=n/\n<=es.length then some n.toNat else none|_=>none
   let a:Option Nat:=match lo with|none=>some 0|some o=>match ρ o with | .int _ n=>if 0<=n then some n.toNat else none|_=>none
   match a,h with
   | some a,some h=>if a<=h /\ ∀ e∈es,e.length=a6 then some (.val (.sl l ((es.take h).drop a))) else none
   | _,_=>none
  | .nil =>
   let h:Option Nat:=match hi with|none=>some 0|some o=>match ρ o with | .int _ n=>if n=0 then some 0 else none|_=>none
   let a:Option Nat:=match lo with|none=>some 0|some o=>match ρ o with | .int _ n=>if n=0 then some 0 else none|_=>none
   match a,h with
   | some _,some _=>some (.val .nil)
   | _,_=>none
  | .row s t z off len =>
   let h:Option Nat:=match hi with|none=>some len|some o=>match ρ o with | .int _ n=>if 0<=n/\n<=len then some n.toNat else none|_=>none
   let a:Option Nat:=match lo with|none=>some 0|some o=>match ρ o with | .int _ n=>if 0<=n then some n.toNat else none|_=>none
   match a,h with
   | some a,some h=>if a<=h/\z=a6 then some (.val (.row s t z (off+a) (h-a))) else none
   | _,_=>none
  | _=>none
 | .ext x i=>match ρ x with
  | .tup vs=>(vs[i]?).map .val
  | _=>none
 | .len x=>match lenOf (ρ x) with
  | some n=>some (.val (.int .i64 (n:Int)))
  | none=>none
 | .mm max xs=>match xs.map ρ with
  | []=>none
  | v::r=>(N8 max v r).map .val
 | .app s a6 bytes x y=>match G5 own (ρ y) with
  | some ys=>if ∀ e∈ys,e.length=a6 then match ρ x with
    | .row s' t z 0 len=>match own.get s' t with
     | some b=>if b.a6=a6/\z=a6/\len<=b.es.length/\(len+ys.length)*bytes<=F3/\len+ys.length<=9223372036854775807 then
       some (.af (.row s' (own.e5 s') a6 0 (len+ys.length)) (own.put s' (((own s').n7 t none).new ⟨a6,b.es.take len++ys⟩)))
      else none
     | none=>none
    | .nil=>if ys.length*bytes<=F3/\ys.length<=9223372036854775807 then
       some (.af (.row s (own.e5 s) a6 0 ys.length) (own.put s ((own s).new ⟨a6,ys⟩))) else none
    | _=>none
   else none
  | none=>none
 | .al s a6 bytes x y=>match ρ y,ρ x with
  | .sl _ ys,.row s' t z 0 len=>match own.get s t with
   | some b=>if s'=s/\(∀ e∈ys,e.length=a6)/\b.a6=a6/\z=a6/\len<=b.es.length/\(len+ys.length)*bytes<=F3/\len+ys.length<=9223372036854775807 then
     some (.km s (((own s).n7 t none).new ⟨a6,b.es.take len++ys⟩) (.row s (own.e5 s) a6 0 (len+ys.length)))
    else none
   | none=>none
  | _,_=>none
 | .iq a6 x y=>match ρ x,G5 own (ρ y) with
  | .row s t z off len,some ys=>match own.get s t with
   | some b=>if b.a6=a6/\z=a6/\off+len<=b.es.length/\(∀ e∈ys,e.length=a6) then
     some (.af (.int .i64 (min ys.length len:Nat)) (own.put s ((own s).n7 t (some ⟨a6,b.es.take off++ys.take len++b.es.drop (off+min ys.length len)⟩))))
    else none
   | none=>none
  | _,_=>none
 | .call f xs=>match (xs.map ρ).mapM (F6 (own.m4 b9) true) with
  | some vs=>(C.pure f vs).map .val
  | none=>none
 | .c8 f xs=>(C.db f (xs.map ρ) own).map (λ r => .af r.1 r.2)
 | .jz ne x=>match ρ x with
  | .nil=>some (.val (.bool (xor true ne)))
  | .z9 (.bool b)=>some (.val (.bool (xor b ne)))
  | .sl _ (_::_)=>some (.val (.bool (xor false ne)))
  | .row _ _ _ _ (_+1)=>some (.val (.bool (xor false ne)))
  | _=>none
 | .bad=>none
 | .kj x=>match ρ x with
  | .ptr s t i j=>some (.val (.ptr s t i j))
  | _=>none
 | .bh x=>match ρ x with
  | .nil=>some (.val (.int .i64 0))
  | _=>none
 | .gv s a6 bytes x y=>match ρ x,ρ y with
  | .nil,.int _ n=>if 0<n/\n*bytes<=F3/\n<=9223372036854775807 then some (.new s ⟨a6,[]⟩ (λ t => .row s t a6 0 n.toNat)) else none
  | _,_=>none
 | .x9 s f xs=>(fK C f (xs.map ρ) s (own s)).map λ p => .km s p.2 p.1
 | .il s a6 bytes x y=>match ρ x,ρ y with
  | .nil,.sl _ ys=>if (∀ e∈ys,e.length=a6)/\0<ys.length/\ys.length*bytes<=F3/\ys.length<=9223372036854775807 then some (.new s ⟨a6,ys⟩ (λ t => .row s t a6 0 ys.length)) else none
  | _,_=>none
 | .cr tb x=>match ρ x with
  | .int _ n=>if 0<=n then (match tb[n.toNat]? with
   | some v=>some (.val (.int .u8 v))
   | none=>none) else none
  | _=>none
 | .jc p f xs=>(xs.mapM (λ x=>KB (ρ x))).map (λ cs => .val (.fn p f (C.num f) cs))
 | .l9 f xs=>if (xs.map ρ).all dq=true then (match C.pure f ((xs.map ρ).map nb) with
   | some r=>if aM r then some (.val (ka r)) else none
   | none=>none) else none
 | .gu s n x v=>match ρ x,cellsOf (ρ v) with
  | .ptr s' t i j,some vs=>if s'=s/\vs.length=n then (own.fm s t i j vs).map (λ o'=>ED.n7 s (o' s)) else none
  | _,_=>none
 | .ke ne n x y=>match ρ x,ρ y with
  | .agg cs,.agg ds=>match K5 cs,K5 ds with
   | some a,some b=>if a.length=n/\b.length=n then some (.val (.bool (if ne then !(decide (a=b)) else decide (a=b)))) else none
   | _,_=>none
  | _,_=>none
 | .o0 s f xs=>match (xs.map ρ).mapM (UA (own.m4 b9) true) with
  | some vs=>(TQ (C.db f vs BT.emp)).map (λ r => .new s ⟨r.1,r.2⟩ (λ t => .row s t r.1 0 r.2.length))
  | none=>none
 | .n8 x xs=>match ρ x with
  | .fn p f g cs=>if g=C.num f then (match p,cs with
   | true,[]=>(match (xs.map ρ).mapM (F6 own true) with
    | some vs=>(C.pure f vs).map .val
    | none=>none)
   | false,cs=>(C.db f (xs.map ρ++cs) own).map (λ r => .af r.1 r.2)
   | _,_=>none) else none
  | _=>none
def St.dst (st:St) (d:Option Nat) (v:AV):St :=
 match d with
 | some d=>{ st with tm:=dz st.tm d v }
 | none=>st
def St.app (st:St) (d:Option Nat):ED->St
 | .val v=>st.dst d v
 | .new s b v=>{ (st.dst d (v (st.own.e5 s))) with own:=st.own.put s ((st.own s).new b) }
 | .oi s b v=>{ (st.dst d (v (st.own.e5 s))) with own:=st.own.put s ((st.own s).new b) }
 | .af v o=>{ (st.dst d v) with own:=o }
 | .n7 s x=>{ (st.dst d (.tup [])) with own:=st.own.put s x }
 | .km s x v=>{ (st.dst d v) with own:=st.own.put s x }
def IL (st:St):Option (Nat × Bool)->Option Bool
 | none=>some true
 | some (g,want)=>match c9 st.tm g with
  | .bool b=>some (b == want)
  | .tup []=>some false
  | _=>none
noncomputable def FO (C:Cl) (o:AI) (st:St):Option St :=
 match IL st o.guard with
 | some true=>(c7 C o.b9 st.ev st.own o.op).map (st.app o.dst)
 | some false=>some (st.dst o.dst (.tup []))
 | none=>none
noncomputable def FP (C:Cl):List AI->St->Option St
 | [],st=>some st
 | o::r,st=>match FO C o st with
  | some e9=>FP C r e9
  | none=>none
def G6:GN->Option Nat
 | .q7 s _=>some s
 | .box s _=>some s
 | .alloc s _=>some s
 | .c4 s _ _=>some s
 | .mk s _ _ _ _ _=>some s
 | .gu s _ _ _=>some s
 | .o0 s _ _=>some s
 | .al s _ _ _ _=>some s
 | .gv s _ _ _ _=>some s
 | .il s _ _ _ _=>some s
 | .x9 s _ _=>some s
 | _=>none
inductive It where
 | code (c:C1)
 | er (ts ss:List Nat)
 | blk (id:Nat)
 | lp (c:C1)
def GJ (id:Nat):List It->Option (List It)
 | .blk yo::k=>if yo=id then some k else GJ id k
 | _::k=>GJ id k
 | []=>none
def BT.drop (o:BT):List Nat->BT
 | []=>o
 | s::r=>(o.drop r).put s ⟨(o s).e5,λ_=>none⟩
noncomputable def run (C:Cl):Nat->List It->St->Option St
 | 0,_,_=>none
 | _+1,[],st=>some st
 | n+1,.blk _::k,st=>run C n k st
 | n+1,.er ts ss::k,st=>run C n k ⟨u7 st.tm ts,st.own.drop ss⟩
 | n+1,.lp c::k,st=>run C n (.code c :: .lp c::k) st
 | n+1,.code c::k,st=>match c with
  | .skip=>run C n k st
  | .ops l _=>match FP C l st with
   | some e9=>run C n k e9
   | none=>none
  | .dr c ts ss=>run C n (.code c :: .er ts ss::k) st
  | .scope c=>run C n (.code c::k) st
  | .seq a b=>run C n (.code a :: .code b::k) st
  | .cond c a b=>match st.ev c with
   | .bool true=>run C n (.code a::k) st
   | .bool false=>run C n (.code b::k) st
   | _=>none
  | .block id c=>run C n (.code c :: .blk id::k) st
  | .loop c=>run C n (.code c :: .lp c::k) st
  | .exit id=>match GJ id k with
   | some k'=>run C n k' st
   | none=>none
  | .ret=>some st
def ET (i:Nat):List AV->Tm
 | []=>[]
 | v::r=>(i,v)::ET (i+1) r
def MH:AV->Option AV
 | .any=>none
 | .tup _=>none
 | v=>some v
def H2 (st:St):ML->Option AV
 | .tmp t=>MH (c9 st.tm t)
 | .cell t agg n=>match c9 st.tm t with
  | .ptr s u i j=>match st.own.jb s u i j n with
   | some cs=>ME agg cs
   | none=>none
  | _=>none
def K8:List AV->AV
 | [v]=>v
 | vs => .tup vs
structure Lib where
 fn:Nat->Option AFn
 num:Nat->Nat
instance : CoeFun Lib (λ_ => Nat -> Option AFn) := ⟨Lib.fn⟩
open Classical in
noncomputable def LO (I:List AV->Option (AV × BT)) (vs:List AV):Option AV :=
 match I vs with
 | some (r,o)=>match WK o false r with
  | some r'=>if CS r' then some r' else none
  | none=>none
 | none=>none
def Lib.jf (L:Lib) (f:Nat):Bool:=match L f with
 | some fn=>fn.jf
 | none=>false
open Classical in
noncomputable def OC (b:Bool) (I:List AV->Option (AV × BT)) (vs:List AV):Option AV:=match b,vs with
 | true,.sl _ []::vs=>match LO I (.z9 (.bool true)::vs),LO I (.z9 (.bool false)::vs) with
  | some r,some r'=>if r=r' then some r else none
  | _,_=>none
 | _,vs=>LO I vs
noncomputable def GA (L:Lib):Nat->Nat->List AV->BT->Option (AV × BT)
 | 0,_,_,_=>none
 | n+1,f,args,own=>match L f with
  | none=>none
  | some fn=>if args.length=fn.v8 then
    match run ⟨λ f vs=>OC (L.jf f) (λ vs=>GA L n f vs BT.emp) vs,GA L n,L.num⟩ n [.code fn.body] ⟨ET 0 args,own⟩ with
    | some st=>match fn.res.mapM (H2 st) with
     | some vs=>some (K8 vs,st.own)
     | none=>none
    | none=>none
   else none
noncomputable def K2 (L:Lib) (n f:Nat) (vs:List AV):Option AV:=OC (L.jf f) (λ vs=>GA L n f vs BT.emp) vs
noncomputable def FH (L:Lib) (n:Nat):Cl:=⟨K2 L n,GA L n,L.num⟩
theorem bZ (L:Lib) (n f:Nat) (args:List AV) (own:BT):GA L (n+1) f args own =
  match L f with
  | none=>none
  | some fn=>if args.length=fn.v8 then
    match run (FH L n) n [.code fn.body] ⟨ET 0 args,own⟩ with
    | some st=>match fn.res.mapM (H2 st) with
     | some vs=>some (K8 vs,st.own)
     | none=>none
    | none=>none
   else none:=rfl
namespace C
abbrev o (d:Nat) (op:GN):AI:=⟨some d,op,none,[]⟩
abbrev n (op:GN):AI:=⟨none,op,none,[]⟩
abbrev g (d i:Nat) (b:Bool) (op:GN):AI:=⟨some d,op,some (i,b),[]⟩
abbrev m (d s:Nat):AI:=⟨some d,.a8 (.t s),none,[]⟩
abbrev k (v:Int):B8 := .c (.int .i64 v)
abbrev z:AV := .int .i64 0
abbrev q (d:Nat) (b9:List Nat) (op:GN):AI:=⟨some d,op,none,b9⟩
abbrev u (b9:List Nat) (op:GN):AI:=⟨none,op,none,b9⟩
abbrev v (d i:Nat) (b:Bool) (b9:List Nat) (op:GN):AI:=⟨some d,op,some (i,b),b9⟩
abbrev p (l:List AI):C1 := .ops l false
abbrev P (l:List AI):C1 := .ops l true
abbrev d (l:List AI) (ts:List Nat):C1 := .dr (.ops l false) ts []
abbrev e (l:List AI) (ts:List Nat):C1 := .dr (.ops l true) ts []
abbrev s (a b:C1):C1 := .seq a b
abbrev i (c:B8) (a b:C1):C1 := .cond c a b
abbrev b (id:Nat) (c:C1):C1 := .block id c
abbrev w (c:C1):C1 := .loop c
abbrev x (id:Nat):C1 := .exit id
instance (i : Nat) : OfNat B8 i := ⟨.t i⟩
end C
end Go.Eng
namespace Go.Eng
def gN:Value->AV->Bool
 | .int k n,.int k' n'=>k == k'&&n == n'
 | .bool b,.bool b'=>b == b'
 | .slice none 0 0,.nil=>true
 | .string s,.z9 (.string s')=>s.data.toList == s'.data.toList
 | _,_=>false
def UY:List Value->List AV->Bool
 | [],[]=>true
 | v::r,a::l=>gN v a&&UY r l
 | _,_=>false
def mE:Value->AV->Bool
 | .agg cs,.agg l=>UY cs.toList l
 | v,a=>gN v a
def DD:Operand->B8->Bool
 | .tmp t,.t n=>t == n
 | .const v,.c a=>mE v a
 | .func g,.c (.fn _ _ g' [])=>g == g'
 | _,_=>false
def G2:List Operand->List B8->Bool
 | [],[]=>true
 | v::r,a::l=>DD v a&&G2 r l
 | _,_=>false
def T4:Option Operand->Option B8->Bool
 | none,none=>true
 | some x,some y=>DD x y
 | _,_=>false
section
variable (P:Program)
def W5 (t:TypeId):Option Bool :=
 match P.underlying t with
 | some (.struct _)=>some true
 | some (.array _ _)=>some true
 | some _=>some false
 | none=>none
def KC (t:TypeId) (n:Nat):Bool:=match P.info? t with|some i=>i.size == n|none=>false
def W8 (t:TypeId) (n:Nat):Bool:=match P.info? t with|some i=>i.bytes == n|none=>false
def YY (t:TypeId) (l:List AV):Bool:=match P.info? t with|some i=>(match i.zero with|some z=>UY z.cells.toList l|none=>false)|none=>false
def KD (t:TypeId) (f:TypeId->Bool):Bool:=match P.underlying t with|some (.slice e)=>f e|_=>false
def yJ (t:TypeId) (i off n:Nat):Bool:=match P.underlying t with
 | some (.struct fs)=>(match fs[i]? with|some f=>f.offset == off&&KC P f.type n&&n != 0|none=>false)
 | _=>false
def yK (t:TypeId) (i:Nat) (agg:Bool):Bool:=match P.underlying t with
 | some (.struct fs)=>(match fs[i]? with|some f=>W5 P f.type == some agg|none=>false)
 | _=>false
def X6 (place:Nat->Option (Nat × Nat)):List (Nat × Operand)->List (Nat × Nat × B8)->Bool
 | [],[]=>true
 | (i,x)::r,(off,n,y)::l=>place i == some (off,n)&&DD x y&&X6 place r l
 | _,_=>false
def kX (t:TypeId) (ps:List (Nat × Operand)) (ax:List (Nat × Nat × B8)):Bool:=match P.underlying t with
 | some (.struct fs)=>(match fs.toList.mapM (λ f=>(P.info? f.type).map λ i=>(f.offset,i.size)) with|some places=>X6 (places.toArray[·]?) ps ax|none=>false)
 | some (.array _ e)=>(match P.info? e with|some ie=>X6 (λ i=>some (i*ie.size,ie.size)) ps ax|none=>false)
 | _=>false
def XJ (k:Nat):List (Nat × Operand)->List B8->Bool
 | [],[]=>true
 | (i,x)::r,y::l=>i == k&&DD x y&&XJ (k+1) r l
 | _,_=>false
def fieldsI:Nat->List Field->Nat->Bool
 | k,[],n=>k == n
 | k, f :: fs, n => f.name != "_" && f.offset == k && (match P.underlying f.type with | some (.int _) => true | _ => false) && fieldsI (k + 1) fs n
def nH (t:TypeId) (n:Nat):Bool:=(match P.underlying t with|some (.struct fs)=>fieldsI P 0 fs.toList n|_=>false) && !P.stoodInHeld t && !P.eqGuardType P.depth t
def CT (num:Nat->Nat) (op:Op):GN->Bool
 | .a8 y=>match op with | .move x=>DD x y | .assign x=>DD x y|_=>false
 | .q7 _ z=>z != 0&&(match op with | .move (.const (.slice none 0 0))=>true | .assign (.const (.slice none 0 0))=>true|_=>false)
 | .pick c' a' b'=>match op with | .pick c a b=>DD c c'&&DD a a'&&DD b b'|_=>false
 | .bin sd x' y'=>match op with | .binOp op _ x y _=>op == sd&&DD x x'&&DD y y'|_=>false
 | .beq ne x' y'=>match op with | .binOp op t x y _=>(if ne then op == .neq else op == .eql)&&(match P.underlying t with|some .bool=>true|_=>false)&&DD x x'&&DD y y'|_=>false
 | .un sd x'=>match op with | .unOp op _ x=>op == sd&&DD x x'|_=>false
 | .conv k x'=>match op with | .convert s d x=>(P.underlying s).isSome&&(match P.underlying d with|some (.int k')=>k == k'|_=>false)&&DD x x'|_=>false
 | .box _ x'=>match op with | .box _ x=>DD x x'|_=>false
 | .alloc _ z=>match op with | .alloc t=>YY P t z|_=>false
 | .build z ax=>match op with | .build t ps=>YY P t z&&kX P t ps.toList ax|_=>false
 | .c4 _ a6 ax=>match op with
  | .buildSlice t n ps=>KD P t (λ e=>KC P e a6)&&a6 != 0&&n == ax.length&&decide (n*a6<=16777216)&&XJ 0 ps.toList ax&&(n == 0||KD P t (λ e=>match P.info? e with|some i=>(match i.zero with|some z=>z.cells.size == a6|none=>false)|none=>false))
  | _=>false
 | .a7 x' off=>match op with
  | .fieldAddr s x f=>DD x x'&&(match P.underlying s with|some (.struct fs)=>(match fs[f]? with|some fd=>fd.offset == off&&(match P.info? fd.type with|some i=>i.size != 0|none=>false)|none=>false)|_=>false)
  | _=>false
 | .gx x' off n agg=>match op with | .field t x f=>DD x x'&&yJ P t f off n&&yK P t f agg|_=>false
 | .a4 arr a6 x' i'=>match op with
  | .indexAddr t x i=>DD x x'&&DD i i'&&(match P.underlying t,arr with|some (.array len e),some fi=>len == fi&&KC P e a6&&decide (1<len)|some (.slice e),none=>KC P e a6&&a6 != 0|_,_=>false)
  | _=>false
 | .idx len a6 agg x' i'=>match op with
  | .index t x i=>DD x x'&&DD i i'&&(match P.underlying t with|some (.array fi e)=>len == fi&&KC P e a6&&W5 P e == some agg|_=>false)
  | _=>false
 | .ld agg n x'=>match op with | .load t x=>DD x x'&&W5 P t == some agg&&(if agg then KC P t n else n == 1)|_=>false
 | .st n x' v'=>match op with | .store t x v=>DD x x'&&DD v v'&&KC P t n|_=>false
 | .mk _ a6 bytes z l' c'=>match op with
  | .makeSlice t l c=>DD l l'&&DD c c'&&KD P t (λ e=>KC P e a6&&W8 P e bytes&&YY P e z)&&a6 != 0
  | _=>false
 | .ay a6 x' ij m5=>match op with
  | .slice t x lo hi none=>DD x x'&&T4 lo ij&&T4 hi m5&&KD P t (λ e=>KC P e a6)&&a6 != 0
  | _=>false
 | .ext x' i'=>match op with | .extract x i=>DD x x'&&i == i'|_=>false
 | .len x'=>match op with
  | .call ⟨.builtin .len,xs,ts⟩=>(match xs.toList,ts.toList with|[x],[t]=>DD x x'&&KD P t (λ_=>true)|_,_=>false)
  | _=>false
 | .mm max m8=>match op with
  | .call ⟨.builtin .min,xs,_⟩ => !max&&G2 xs.toList m8
  | .call ⟨.builtin .max,xs,_⟩=>max&&G2 xs.toList m8
  | _=>false
 | .app _ a6 bytes x' y'=>match op with
  | .call ⟨.builtin .append,xs,ts⟩=>(match xs.toList,ts.toList with
   | [x,y],[t,u]=>DD x x'&&DD y y'&&KD P t (λ e=>KC P e a6&&W8 P e bytes&&(match P.info? e with|some i=>(match i.zero with|some z=>z.cells.size == a6|none=>false)|none=>false))&&a6 != 0&&KD P u (λ_=>true)
   | _,_=>false)
  | _=>false
 | .al _ a6 bytes x' y'=>match op with
  | .call ⟨.builtin .append,xs,ts⟩=>(match xs.toList,ts.toList with
   | [x,y],[t,u]=>DD x x'&&DD y y'&&KD P t (λ e=>KC P e a6&&W8 P e bytes&&(match P.info? e with|some i=>(match i.zero with|some z=>z.cells.size == a6|none=>false)|none=>false))&&a6 != 0&&KD P u (λ_=>true)
   | _,_=>false)
  | _=>false
 | .iq a6 x' y'=>match op with
  | .call ⟨.builtin .copy,xs,ts⟩=>(match xs.toList,ts.toList with
   | [x,y],[t,u]=>DD x x'&&DD y y'&&KD P t (λ e=>KC P e a6)&&a6 != 0&&u == t
   | _,_=>false)
  | _=>false
 | .call f' m8=>match op with
  | .call ⟨.value (.func f),xs,_⟩=>f == num f'&&G2 xs.toList m8
  | _=>false
 | .c8 f' m8=>match op with
  | .call ⟨.value (.func f),xs,_⟩=>f == num f'&&G2 xs.toList m8
  | _=>false
 | .x9 _ f' m8=>match op with
  | .call ⟨.value (.func f),xs,_⟩=>f == num f'&&G2 xs.toList m8
  | _=>false
 | .jz ne x'=>match op with
  | .binOp op t x (.const (.slice none 0 0)) _=>(if ne then op == .neq else op == .eql)&&KD P t (λ_=>true)&&DD x x'
  | _=>false
 | .bad=>true
 | .kj x'=>match op with
  | .nilCheck x=>DD x x'
  | _=>false
 | .bh x'=>match op with
  | .call ⟨.builtin .cap,xs,ts⟩=>(match xs.toList,ts.toList with|[x],[t]=>DD x x'&&KD P t (λ_=>true)|_,_=>false)
  | _=>false
 | .il _ a6 bytes x' y'=>match op with
  | .call ⟨.builtin .append,xs,ts⟩=>(match xs.toList,ts.toList with
   | [x,y],[t,u]=>DD x x'&&DD y y'&&KD P t (λ e=>KC P e a6&&W8 P e bytes&&(match P.info? e with|some i=>(match i.zero with|some z=>z.cells.size == a6|none=>false)|none=>false))&&a6 != 0&&KD P u (λ_=>true)
   | _,_=>false)
  | _=>false
 | .gv _ a6 bytes x' y'=>match op with
  | .call ⟨.builtin .append,xs,ts⟩=>(match xs.toList,ts.toList with
   | [x,y],[t,u]=>DD x x'&&DD y y'&&KD P t (λ e=>KC P e a6&&W8 P e bytes&&(match P.info? e with|some i=>(match i.zero with|some z=>z.cells.size == a6|none=>false)|none=>false))&&a6 != 0&&(match P.underlying u with|some (.int _)=>true|_=>false)
   | _,_=>false)
  | _=>false
 | .cr tb i'=>match op with
  | .index t (.const (.string s)) i=>(match P.underlying t with|some .string=>true|_=>false)&&s.data.toList.map (λ b=>b.toNat) == tb&&DD i i'
  | _=>false
 | .jc _ f' m8=>match op with
  | .makeFunc (.func f) first xs=>f == num f'&&first.toList.isEmpty&&G2 xs.toList m8
  | _=>false
 | .l9 f' m8=>match op with
  | .call ⟨.value (.func f),xs,_⟩=>f == num f'&&G2 xs.toList m8
  | _=>false
 | .ke ne n x' y'=>match op with | .binOp op t x y _=>(if ne then op == .neq else op == .eql)&&nH P t n&&DD x x'&&DD y y'|_=>false
 | .o0 _ f' m8=>match op with
  | .call ⟨.value (.func f),xs,_⟩=>f == num f'&&G2 xs.toList m8
  | _=>false
 | .gu _ n x' v'=>match op with | .store t x v=>DD x x'&&DD v v'&&KC P t n|_=>false
 | .n8 x' m8=>match op with
  | .call ⟨.value x,xs,_⟩=>DD x x'&&G2 xs.toList m8
  | _=>false
def cT (ops:Array Oper):Option (Nat × Bool)->Option (Nat × Bool)->Bool
 | none,none=>true
 | some (j,b),some (t,b')=>b == b'&&(match ops[j]? with|some o=>o.dst == some t|none=>false)
 | _,_=>false
def iP (num:Nat->Nat) (N:Nat) (ops:Array Oper) (o:Oper) (a:AI):Bool :=
 o.dst == a.dst&&(match a.dst with|some d=>decide (d<N)|none=>true)&&cT ops o.guard a.guard&&CT P num o.op a.op
def VF (num:Nat->Nat) (N:Nat) (ops:Array Oper):List Oper->List AI->Bool
 | [],[]=>true
 | o::r,a::l=>iP P num N ops o a&&VF num N ops r l
 | _,_=>false
def JI:GN->Bool
 | .st .. | .app .. | .iq .. | .c8 .. | .n8 .. => true
 | _=>false
def dF:GN->Bool
 | .ld .. | .call .. | .o0 .. => true
 | _=>false
def N6 (a:GN):Bool:=JI a||dF a||(G6 a).isSome
def EE:B8->List Nat
 | .t n=>[n]
 | .c _=>[]
def oW:Option B8->List Nat
 | some x=>EE x
 | none=>[]
def IZ:GN->List Nat
 | .a8 x=>EE x
 | .q7 _ _=>[]
 | .pick c a b=>EE c++EE a++EE b
 | .bin _ x y=>EE x++EE y
 | .beq _ x y=>EE x++EE y
 | .un _ x=>EE x
 | .conv _ x=>EE x
 | .box _ x=>EE x
 | .alloc _ _=>[]
 | .build _ ps=>ps.flatMap (λ p=>EE p.2.2)
 | .c4 _ _ ps=>ps.flatMap EE
 | .a7 x _=>EE x
 | .gx x _ _ _=>EE x
 | .a4 _ _ x i=>EE x++EE i
 | .idx _ _ _ x i=>EE x++EE i
 | .ld _ _ x=>EE x
 | .st _ x v=>EE x++EE v
 | .mk _ _ _ _ l c=>EE l++EE c
 | .ay _ x lo hi=>EE x++oW lo++oW hi
 | .ext x _=>EE x
 | .len x=>EE x
 | .mm _ xs=>xs.flatMap EE
 | .app _ _ _ x y=>EE x++EE y
 | .al _ _ _ x y=>EE x++EE y
 | .iq _ x y=>EE x++EE y
 | .call _ xs=>xs.flatMap EE
 | .c8 _ xs=>xs.flatMap EE
 | .jz _ x=>EE x
 | .cr _ x=>EE x
 | .jc _ _ xs=>xs.flatMap EE
 | .n8 x xs=>EE x++xs.flatMap EE
 | .l9 _ xs=>xs.flatMap EE
 | .gu _ _ x v=>EE x++EE v
 | .o0 _ _ xs=>xs.flatMap EE
 | .x9 _ _ xs=>xs.flatMap EE
 | .ke _ _ x y=>EE x++EE y
 | .bad=>[]
 | .kj x=>EE x
 | .bh x=>EE x
 | .gv _ _ _ x y=>EE x++EE y
 | .il _ _ _ x y=>EE x++EE y
def ZW (x:AI):List Nat:=IZ x.op++(match x.guard with|some (g,_)=>[g]|none=>[])++x.dst.toList
def LM (b:Array Nat) (i j:Nat):Bool:=(b.getD (max i j) 0).testBit (min i j)
def Cn (b:Array Nat) (x:AI) (i:Nat) (y:AI) (j:Nat):Bool :=
 i == j||LM b i j ||
  ((match y.dst with|some t => !(ZW x).contains t|none=>true) &&
   (!JI x.op || !N6 y.op) &&
   (!dF x.op||(match G6 y.op with|some s=>x.b9.contains s|none=>true)) )
def XG (ops:Array Oper) (l:List AI):Bool :=
 let b:=Region.before ops
 (l.zipIdx.all λ(x,i)=>l.zipIdx.all λ(y,j)=>Cn b x i y j&&(i == j||LM b i j||(match G6 x.op,G6 y.op with|some s,some s'=>s != s'|_,_=>true))) &&
 (ops.toList.zipIdx.all λ(o,i)=>o.after.all λ e=>decide (e.on<i)||(match e.ground with | .gcOnly _=>true|_=>false)) &&
 (!Region.departs ops||(List.range ops.size).all (λ i=>(Region.linearise .gc ops 0).contains i))
def HN (num:Nat->Nat) (N:Nat):Code->C1->Bool
 | c,.dr a _ _=>HN num N c a
 | c',.skip=>match c' with | .skip=>true | .label _=>true|_=>false
 | c',.scope a=>match c' with | .scope c=>HN num N c a|_=>false
 | c',.ops l jk=>match c' with | .region _ ops draw=>draw == jk&&VF P num N ops ops.toList l&&(!draw||XG ops l)|_=>false
 | c',.seq a' b'=>match c' with | .seq a b=>HN num N a a'&&HN num N b b'|_=>false
 | c',.cond x' a' b'=>match c' with | .cond x a b=>DD x x'&&HN num N a a'&&HN num N b b'|_=>false
 | c',.block i' a=>match c' with | .block i c=>i == i'&&HN num N c a|_=>false
 | c',.loop a=>match c' with | .loop c=>HN num N c a|_=>false
 | c',.exit i'=>match c' with | .exit i=>i == i'|_=>false
 | c',.ret=>match c' with | .ret=>true|_=>false
def QC:List ResultVar->List ML->Bool
 | [],[]=>true
 | .tmp t::r,.tmp t'::l=>t == t'&&QC r l
 | .cell a t::r,.cell a' agg n::l=>a == a'&&W5 P t == some agg&&(if agg then KC P t n else n == 1)&&QC r l
 | _,_=>false
def okFn (num:Nat->Nat) (fn:Func) (a:AFn):Bool :=
 fn.params.size+fn.nfree == a.v8&&decide (a.v8<=fn.ntmps)&&QC P fn.results.toList a.res&&(match fn.body with|some c=>HN P num fn.ntmps c a.body|none=>false)
end
end Go.Eng

namespace Go.Eng
open Go.RowKit
theorem KJ (b o n:Nat):(⟨b,o,none⟩:Addr).add n=⟨b,o+n,none⟩:=by
 unfold Addr.add;split<;>simp_all
inductive Rd (w:World) (R:Bool->Nat->Prop):AV->Value->Prop
 | int (k:IntKind) (n:Int):Rd w R (.int k n) (.int k n)
 | bool (b:Bool):Rd w R (.bool b) (.bool b)
 | str (s:ByteArray):Rd w R (.z9 (.string s)) (.string s)
 | eo (l:Bool) (a:Option Addr) (cap:Nat):Rd w R (.sl l []) (.slice a 0 cap)
 | emp (b:Bool) (a:Option Addr) (cap:Nat) (h:a.isNone=b):Rd w R (.z9 (.bool b)) (.slice a 0 cap)
 | sl (l:Bool) (es:List (List AV)) (b o a6 cap:Nat) (u:Nat->Nat->Value) (hne:es≠[]) (hp:0<a6) (hR:R l b) (u4:es.length<=cap) (hz : ∀ e∈es,e.length=a6)
   (hc : ∀ i e,es[i]? = some e -> ∀ j c,e[j]? = some c->w.cell? ⟨b,o+(i*a6+j),none⟩=some (u i j))
   (hr : ∀ i e,es[i]? = some e -> ∀ j c,e[j]? = some c->Rd w R c (u i j)) :
   Rd w R (.sl l es) (.slice (some ⟨b,o,none⟩) es.length cap)
theorem Rd.one {w:World} {R:Bool->Nat->Prop} {a:AV} {v:Value} (h:Rd w R a v):v.oneCell'=true:=by
 cases h<;>rfl
theorem ZC {w:World} {a:Addr} {u:Value} (h:w.cell? a=some u):a.block<w.heap.size:=by
 unfold World.cell? at h;split at h
 ·rename_i hh
  exact (Array.getElem?_eq_some_iff.1 hh).1
 ·cases h
theorem gU {es:List (List AV)} {a6:Nat} (hne:es≠[]) (hp:0<a6) (hz : ∀ e∈es,e.length=a6) : ∃ e c,es[0]? = some e/\e[0]? = some c:=by
 cases es with
 | nil=>exact absurd rfl hne
 | cons e r =>
  have:=hz e (by simp)
  cases e with
  | nil=>simp at this;omega
  | cons c q=>exact ⟨c::q,c,rfl,rfl⟩
theorem Rd.mono {w w':World} {R R':Bool->Nat->Prop} (hR : ∀ l b,b<w.heap.size->R l b->R' l b)
  (hw : ∀ l b,b<w.heap.size->R l b->w'.heap[b]? = w.heap[b]?) {a:AV} {v:Value} (h:Rd w R a v):Rd w' R' a v:=by
 induction h with
 | int k n=>exact .int k n
 | bool b=>exact .bool b
 | str s=>exact .str s
 | eo l a cap=>exact .eo l a cap
 | emp b a cap h=>exact .emp b a cap h
 | sl l es b o a6 cap u hne hp h1 u4 hz hc hr ih =>
  obtain ⟨e,c,he,hc0⟩:=gU hne hp hz;have hb:b<w.heap.size:=ZC (hc 0 e he 0 c hc0);refine .sl l es b o a6 cap u hne hp (hR l b hb h1) u4 hz (λ i e he j c hcj => ?_) ih;rw[World.cell?_of_block (w:=w) (hw l b hb h1)];exact hc i e he j c hcj
structure M where
 ν:Nat->Nat->Option Nat
 own:BT
 w:World
section
variable (B:Nat) (S:Nat->Prop)
def safe (m:M) (l:Bool) (b:Nat):Prop :=
 (S b/\b<B)\/(B<=b /\ ∀ s t,(m.own.get s t).isSome=true->m.ν s t≠some b)\/(l=true/\b<B)
inductive CC (m:M):AV->Value->Prop
 | rd {a:AV} {v:Value} (h:Rd m.w (safe B S m) a v):CC m a v
 | nil:CC m .nil (.slice none 0 0)
 | row (s t z off len:Nat) (a:Option Addr) (cap:Nat) (ht:t<m.own.e5 s) (y8:0<z) (gf:len<=cap) (ha:0<len->a.isSome=true)
   (h : ∀ b,m.own.get s t=some b->b.a6=z/\((len=0/\cap=0) \/ ∃ g arr e,m.ν s t=some g/\a=some ⟨g,off*z,none⟩/\m.w.heap[g]? = some (.cells arr e (0,0))/\(off+cap)*z<=arr.size)) :
   CC m (.row s t z off len) (.slice a len cap)
 | ptr (s t i j:Nat) (a:Addr) (ht:t<m.own.e5 s) (h : ∀ b,m.own.get s t=some b -> ∃ g,m.ν s t=some g/\a=⟨g,i*b.a6+j,none⟩):CC m (.ptr s t i j) (.pointer (some a))
 | o6 (cs:List AV) (b o:Nat) (u:Nat->Value) (l:Bool) (hR:cs≠[]->safe B S m l b) (hc : ∀ j c,cs[j]? = some c->m.w.cell? ⟨b,o+j,none⟩=some (u j)) (hr : ∀ j c,cs[j]? = some c->Rd m.w (safe B S m) c (u j)) :
   CC m (.o6 cs) (.pointer (some ⟨b,o,none⟩))
def CL (m:M) (cs:List AV) (vs:List Value):Prop:=cs.length=vs.length /\ ∀ (j:Nat) (c:AV) (v:Value),cs[j]? = some c->vs[j]? = some v->CC B S m c v
inductive CA (m:M):AV->Value->Prop
 | one {a:AV} {v:Value} (h:CC B S m a v):CA m a v
 | agg (cs:List AV) (vs:List Value) (h:CL B S m cs vs):CA m (.agg cs) (.agg vs.toArray)
 | fn (p:Bool) (f g:Nat) (cs:List AV) (vs:List Value) (h:CL B S m cs vs):CA m (.fn p f g cs) (.func (.func g) #[] vs.toArray)
inductive CV (m:M):AV->Value->Prop
 | any (v:Value):CV m .any v
 | ca {a:AV} {v:Value} (h:CA B S m a v):CV m a v
 | tup (as:List AV) (vs:List Value) (hl:as.length=vs.length) (h : ∀ (j:Nat) (c:AV) (v:Value),as[j]? = some c->vs[j]? = some v->CA B S m c v):CV m (.tup as) (.tuple vs.toArray)
def Lj (m:M) (s t:Nat) (b:GH):Prop :=
 (∀ e∈b.es,e.length=b.a6)/\match m.ν s t with
  | none=>b.es=[]
  | some g=>B<=g /\ ∃ arr e,m.w.heap[g]? = some (.cells arr e (0,0)) /\
    ∀ i cs,b.es[i]? = some cs -> ∀ j c,cs[j]? = some c -> ∃ u,arr[i*b.a6+j]? = some u/\CC B S m c u
structure DJ (w0:World) (m:M):Prop where
 below:Below B w0 m.w
 size:B<=m.w.heap.size
 fresh : ∀ s t,m.own.e5 s<=t->m.own.get s t=none
 blk : ∀ s t b,m.own.get s t=some b->Lj B S m s t b
 inj : ∀ s t s' t' b b' g,m.own.get s t=some b->m.own.get s' t'=some b'->m.ν s t=some g->m.ν s' t'=some g->s=s'/\t=t'
structure FX (m m':M):Prop where
 size:m.w.heap.size<=m'.w.heap.size
 mj : ∀ b,b<m.w.heap.size->safe B S m true b->m'.w.heap[b]? = m.w.heap[b]?
 pz : ∀ l b,b<m.w.heap.size->safe B S m l b->safe B S m' l b
 e5 : ∀ s,m.own.e5 s<=m'.own.e5 s
 name : ∀ s t b',t<m.own.e5 s->m'.own.get s t=some b' -> ∃ b,m.own.get s t=some b/\b'.a6=b.a6/\m'.ν s t=m.ν s t /\
   ∀ g arr e,m.ν s t=some g->m.w.heap[g]? = some (.cells arr e (0,0)) -> ∃ n9,m'.w.heap[g]? = some (.cells n9 e (0,0))/\n9.size=arr.size
end
section
variable {B:Nat} {S:Nat->Prop}
theorem pS {m:M} {l:Bool} {b:Nat} (h:safe B S m l b):safe B S m true b:=by
 rcases h with h|h|⟨_,h⟩
 ·exact .inl h
 ·exact .inr (.inl h)
 ·exact .inr (.inr ⟨rfl,h⟩)
theorem FX.rd {m m':M} (h:FX B S m m') {a:AV} {v:Value} (hr:Rd m.w (safe B S m) a v):Rd m'.w (safe B S m') a v :=
 hr.mono h.pz (λ_ b hb hs=>h.mj b hb (pS hs))
theorem FX.cc {m m':M} (h:FX B S m m') {a:AV} {v:Value} (hc:CC B S m a v):CC B S m' a v:=by
 cases hc with
 | rd hr=>exact .rd (h.rd hr)
 | nil=>exact .nil
 | row s t z off len a cap ht y8 gf ha hb =>
  refine .row s t z off len a cap (Nat.lt_of_lt_of_le ht (h.e5 s)) y8 gf ha λ b' g7 => ?_
  obtain ⟨b,h1,h2,h3,h4⟩:=h.name s t b' ht g7;obtain ⟨hz,hor⟩:=hb b h1;refine ⟨h2.trans hz,?_⟩;rcases hor with h0|⟨g,arr,e,hg,ea,hh,hle⟩
  ·exact .inl h0
  ·obtain ⟨n9,zo,hs'⟩:=h4 g arr e hg hh
   exact .inr ⟨g,n9,e,h3.trans hg,ea,zo,hs' ▸ hle⟩
 | ptr s t i j a ht hb =>
  refine .ptr s t i j a (Nat.lt_of_lt_of_le ht (h.e5 s)) λ b' g7 => ?_
  obtain ⟨b,h1,h2,h3,_⟩:=h.name s t b' ht g7;obtain ⟨g,hg,ea⟩:=hb b h1;exact ⟨g,h3.trans hg,h2 ▸ ea⟩
 | o6 cs b o u l hR hc hr =>
  have l6:cs≠[]->b<m.w.heap.size:=λ hne=>by
   cases cs with
   | nil=>exact absurd rfl hne
   | cons c r=>exact ZC (hc 0 c rfl)
  refine .o6 cs b o u l (λ hne=>h.pz l b (l6 hne) (hR hne)) (λ j c hj => ?_) (λ j c hj=>h.rd (hr j c hj));have hne:cs≠[]:=λ e=>by subst e;simp at hj
  rw[World.cell?_of_block (w:=m.w) (h.mj b (l6 hne) (pS (hR hne)))];exact hc j c hj
theorem FX.cl {m m':M} (h:FX B S m m') {cs:List AV} {vs:List Value} (hc:CL B S m cs vs):CL B S m' cs vs :=
 ⟨hc.1,λ j c v h1 h2=>h.cc (hc.2 j c v h1 h2)⟩
theorem FX.ca {m m':M} (h:FX B S m m') {a:AV} {v:Value} (hc:CA B S m a v):CA B S m' a v:=by
 cases hc with
 | one hc=>exact .one (h.cc hc)
 | agg cs vs hc=>exact .agg cs vs (h.cl hc)
 | fn p f g cs vs hc=>exact .fn p f g cs vs (h.cl hc)
theorem FX.cv {m m':M} (h:FX B S m m') {a:AV} {v:Value} (hc:CV B S m a v):CV B S m' a v:=by
 cases hc with
 | any v=>exact .any v
 | ca hc=>exact .ca (h.ca hc)
 | tup as vs hl hc=>exact .tup as vs hl λ j c v h1 h2=>h.ca (hc j c v h1 h2)
theorem FX.refl (m:M):FX B S m m :=
 ⟨Nat.le_refl _,λ_ _ _=>rfl,λ_ _ _ h=>h,λ_=>Nat.le_refl _,λ_ _ b' _ h=>⟨b',h,rfl,rfl,λ_ arr _ _ h=>⟨arr,h,rfl⟩⟩⟩
theorem FX.trans {m m' Jw:M} (h:FX B S m m') (k:FX B S m' Jw):FX B S m Jw where
 size:=Nat.le_trans h.size k.size
 mj b hb hs:=(k.mj b (Nat.lt_of_lt_of_le hb h.size) (h.pz true b hb hs)).trans (h.mj b hb hs)
 pz l b hb hs:=k.pz l b (Nat.lt_of_lt_of_le hb h.size) (h.pz l b hb hs)
 e5 s:=Nat.le_trans (h.e5 s) (k.e5 s)
 name s t b'' ht zu:=by
  obtain ⟨b',h1,h2,h3,h4⟩:=k.name s t b'' (Nat.lt_of_lt_of_le ht (h.e5 s)) zu;obtain ⟨b,g1,g2,g3,g4⟩:=h.name s t b' ht h1;refine ⟨b,g1,h2.trans g2,h3.trans g3,λ g arr e hg ha => ?_⟩;obtain ⟨n9,zo,hs'⟩:=g4 g arr e hg ha;obtain ⟨ub,zp,Bd⟩:=h4 g n9 e (g3.trans hg) zo;exact ⟨ub,zp,Bd.trans hs'⟩
theorem CC.one {m:M} {a:AV} {v:Value} (h:CC B S m a v):v.oneCell'=true:=by
 cases h with
 | rd h=>exact h.one
 | _=>rfl
end
end Go.Eng

namespace Go.Eng
open Go.RowKit
section
variable {B:Nat} {S:Nat->Prop} {w0:World}
def live (m:M) (s t:Nat):Prop := ∃ b,m.own.get s t=some b
theorem DJ.ge {m:M} (h:DJ B S w0 m) {s t g:Nat} (hl:live m s t) (hg:m.ν s t=some g):B<=g /\ ∃ arr e,m.w.heap[g]? = some (.cells arr e (0,0)):=by
 obtain ⟨b,hb⟩:=hl;obtain ⟨_,h2⟩:=h.blk s t b hb;rw[hg]at h2;obtain ⟨h3,arr,e,h4,_⟩:=h2;exact ⟨h3,arr,e,h4⟩
theorem XN {m m':M} (hm:DJ B S w0 m) (hs:m.w.heap.size<=m'.w.heap.size)
  (hk : ∀ b,b<m.w.heap.size->(∀ s t,live m s t->m.ν s t≠some b)->m'.w.heap[b]? = m.w.heap[b]?) (qw : ∀ s,m.own.e5 s<=m'.own.e5 s)
  (vh : ∀ s t b',t<m.own.e5 s->m'.own.get s t=some b' -> ∃ b,m.own.get s t=some b/\b'.a6=b.a6/\m'.ν s t=m.ν s t /\
   ∀ g arr e,m.ν s t=some g->m.w.heap[g]? = some (.cells arr e (0,0)) -> ∃ n9,m'.w.heap[g]? = some (.cells n9 e (0,0))/\n9.size=arr.size)
  (fg : ∀ s t g,live m' s t->m'.ν s t=some g->g<m.w.heap.size -> ∃ s0 t0,live m s0 t0/\m.ν s0 t0=some g):FX B S m m':=by
 have mv : ∀ b,safe B S m true b -> ∀ s t,live m s t->m.ν s t≠some b:=by
  intro b hb s t hl hg;have gb:=(hm.ge hl hg).1;rcases hb with ⟨_,h⟩|⟨_,h⟩|⟨_,h⟩
  ·omega
  ·obtain ⟨b',g7⟩:=hl
   exact h s t (by simp [g7]) hg
  ·omega
 refine ⟨hs,λ b hb mb=>hk b hb (mv b mb),λ l b hb mb => ?_,qw,vh⟩;rcases mb with h|⟨h,hn⟩|h
 ·exact .inl h
 ·refine .inr (.inl ⟨h,λ s t hl hg => ?_⟩)
  obtain ⟨b',g7⟩:=Option.isSome_iff_exists.1 hl;obtain ⟨s0,t0,⟨b0,ou⟩,rf⟩:=fg s t b ⟨b',g7⟩ hg hb;exact hn s0 t0 (by simp [ou]) rf
 ·exact .inr (.inr h)
theorem grow {m:M} (hm:DJ B S w0 m) {w':World} (hb:Below m.w.heap.size m.w w') :
  DJ B S w0 ⟨m.ν,m.own,w'⟩/\FX B S m ⟨m.ν,m.own,w'⟩:=by
 have he:FX B S m ⟨m.ν,m.own,w'⟩:=by
  refine XN hm hb.size (λ b g7 _=>hb.block b g7) (λ_=>Nat.le_refl _) (λ s t b' _ g7=>⟨b',g7,rfl,rfl,λ g arr e hg ha=>⟨arr,?_,rfl⟩⟩) (λ s t g hl hg _=>⟨s,t,hl,hg⟩);have:g<m.w.heap.size:=(Array.getElem?_eq_some_iff.1 ha).1
  exact (hb.block g this).trans ha
 refine ⟨⟨hm.below.trans (hb.mono hm.size),Nat.le_trans hm.size hb.size,hm.fresh,λ s t b hg => ?_,hm.inj⟩,he⟩;obtain ⟨h1,h2⟩:=hm.blk s t b hg;refine ⟨h1,?_⟩;show match m.ν s t with|none=>_|some g=>_
 cases hν:m.ν s t with
 | none=>rw[hν]at h2;exact h2
 | some g =>
  rw[hν]at h2;obtain ⟨h3,arr,e,h4,h5⟩:=h2;refine ⟨h3,arr,e,?_,λ i cs hi j c hj => ?_⟩
  ·exact (hb.block g (Array.getElem?_eq_some_iff.1 h4).1).trans h4
  ·obtain ⟨u,hu,hcc⟩:=h5 i cs hi j c hj
   exact ⟨u,hu,he.cc hcc⟩
theorem JA (o:BT) (s s' t':Nat) (b:GH):(o.put s ((o s).new b)).get s' t'=if s'=s/\t'=o.e5 s then some b else o.get s' t':=by
 unfold BT.get BT.put D9.new BT.e5;by_cases h:s'=s
 ·subst h
  by_cases h2:t'=(o s').e5<;>simp [h2]
 ·simp [h]
theorem OV (o:BT) (s s':Nat) (b:GH):(o.put s ((o s).new b)).e5 s'=if s'=s then o.e5 s+1 else o.e5 s':=by
 unfold BT.e5 BT.put D9.new;by_cases h:s'=s<;>simp [h]
theorem cN (o:BT) (s t s' t':Nat) (b:Option GH):(o.put s ((o s).n7 t b)).get s' t'=if s'=s/\t'=t then b else o.get s' t':=by
 unfold BT.get BT.put D9.n7;by_cases h:s'=s
 ·subst h
  by_cases h2:t'=t<;>simp [h2]
 ·simp [h]
theorem uP (o:BT) (s t s':Nat) (b:Option GH):(o.put s ((o s).n7 t b)).e5 s'=o.e5 s':=by
 unfold BT.e5 BT.put D9.n7;by_cases h:s'=s<;>simp [h]
def e6 (m:M) (s:Nat) (g:Option Nat):Nat->Nat->Option Nat:=λ s' t'=>if s'=s/\t'=m.own.e5 s then g else m.ν s' t'
theorem iN {m:M} (hm:DJ B S w0 m) (s:Nat) : ¬ live m s (m.own.e5 s):=λ⟨b,hb⟩=>by
 rw[hm.fresh s _ (Nat.le_refl _)]at hb;cases hb
theorem aV {m:M} (hm:DJ B S w0 m) (s:Nat) (b:GH) (arr:Array Value) (e:TypeId) (hz : ∀ x∈b.es,x.length=b.a6)
  (hc : ∀ i cs,b.es[i]? = some cs -> ∀ j c,cs[j]? = some c -> ∃ u,arr[i*b.a6+j]? = some u/\CC B S m c u) :
  DJ B S w0 ⟨e6 m s (some m.w.heap.size),m.own.put s ((m.own s).new b),m.w.alloc (.cells arr e)⟩ /\
  FX B S m ⟨e6 m s (some m.w.heap.size),m.own.put s ((m.own s).new b),m.w.alloc (.cells arr e)⟩:=by
 have o7:(m.w.alloc (.cells arr e)).heap.size=m.w.heap.size+1:=by simp
 have hν : ∀ s' t',live m s' t'->e6 m s (some m.w.heap.size) s' t'=m.ν s' t':=λ s' t' hl=>by
  unfold e6;rw[if_neg];rintro ⟨rfl,rfl⟩
  exact iN hm _ hl
 have he:FX B S m ⟨e6 m s (some m.w.heap.size),m.own.put s ((m.own s).new b),m.w.alloc (.cells arr e)⟩:=by
  refine XN hm (by rw[o7];omega) (λ k hk _=>Below.heap_alloc _ _ _ hk) (λ s' => ?_) (λ s' t' b' ht g7 => ?_) (λ s' t' g hl hg l6 => ?_)
  ·rw[OV];split
   ·rename_i h;subst h;omega
   ·exact Nat.le_refl _
  ·rw[JA]at g7
   rw[if_neg (by rintro ⟨rfl,rfl⟩;omega)]at g7;refine ⟨b',g7,rfl,hν s' t' ⟨b',g7⟩,λ g ar e' hg ha=>⟨ar,?_,rfl⟩⟩;exact (Below.heap_alloc _ _ _ (Array.getElem?_eq_some_iff.1 ha).1).trans ha
  ·obtain ⟨b',g7⟩:=hl
   have o4:=g7;rw[JA]at g7;by_cases h:s'=s/\t'=m.own.e5 s
   ·simp only[e6,if_pos h,Option.some.injEq]at hg
    omega
   ·rw[if_neg h]at g7
    exact ⟨s',t',⟨b',g7⟩,by rw[<-hν s' t' ⟨b',g7⟩];exact hg⟩
 refine ⟨⟨hm.below.alloc hm.size _,by rw[o7];have:=hm.size;omega,λ s' t' ht => ?_,λ s' t' b' g7 => ?_,λ s1 t1 s2 t2 b1 b2 g h1 h2 g1 g2 => ?_⟩,he⟩
 ·rw[OV]at ht
  rw[JA,if_neg]
  ·refine hm.fresh s' t' ?_
   split at ht
   ·rename_i h;subst h;omega
   ·exact ht
  ·rintro ⟨rfl,rfl⟩
   simp at ht;omega
 ·rw[JA]at g7
  by_cases h:s'=s/\t'=m.own.e5 s
  ·rw[if_pos h]at g7
   obtain rfl:b=b':=by simpa using g7
   refine ⟨hz,?_⟩;show match e6 m s (some m.w.heap.size) s' t' with|none=>_|some g=>_
   rw[show e6 m s (some m.w.heap.size) s' t'=some m.w.heap.size by simp [e6,h]];refine ⟨hm.size,arr,e,heap_alloc_new _ _,λ i cs hi j c hj => ?_⟩;obtain ⟨u,hu,hcc⟩:=hc i cs hi j c hj;exact ⟨u,hu,he.cc hcc⟩
  ·rw[if_neg h]at g7
   obtain ⟨h1,h2⟩:=hm.blk s' t' b' g7;refine ⟨h1,?_⟩;show match e6 m s (some m.w.heap.size) s' t' with|none=>_|some g=>_
   rw[hν s' t' ⟨b',g7⟩];cases hv:m.ν s' t' with
   | none=>rw[hv]at h2;exact h2
   | some g =>
    rw[hv]at h2;obtain ⟨h3,ar,e',h4,h5⟩:=h2;refine ⟨h3,ar,e',(Below.heap_alloc _ _ _ (Array.getElem?_eq_some_iff.1 h4).1).trans h4,λ i cs hi j c hj => ?_⟩;obtain ⟨u,hu,hcc⟩:=h5 i cs hi j c hj;exact ⟨u,hu,he.cc hcc⟩
 ·rw[JA]at h1 h2
  have lt : ∀ s' t' b',m.own.get s' t'=some b'->e6 m s (some m.w.heap.size) s' t'=some g->g<m.w.heap.size:=λ s' t' b' hb hg=>by
   rw[hν s' t' ⟨b',hb⟩]at hg;obtain ⟨_,ar,e',h4⟩:=hm.ge ⟨b',hb⟩ hg;exact (Array.getElem?_eq_some_iff.1 h4).1
  have at_ : ∀ s' t',s'=s/\t'=m.own.e5 s->e6 m s (some m.w.heap.size) s' t'=some g->g=m.w.heap.size:=λ s' t' h hg=>by
   simp only[e6,if_pos h,Option.some.injEq]at hg;exact hg.symm
  by_cases p1:s1=s/\t1=m.own.e5 s<;>by_cases p2:s2=s/\t2=m.own.e5 s
  ·exact ⟨p1.1.trans p2.1.symm,p1.2.trans p2.2.symm⟩
  ·rw[if_neg p2]at h2
   have:=lt s2 t2 b2 h2 g2
   have:=at_ s1 t1 p1 g1
   omega
  ·rw[if_neg p1]at h1
   have:=lt s1 t1 b1 h1 g1
   have:=at_ s2 t2 p2 g2
   omega
  ·rw[if_neg p1]at h1
   rw[if_neg p2]at h2;exact hm.inj s1 t1 s2 t2 b1 b2 g h1 h2 (by rw[<-hν s1 t1 ⟨b1,h1⟩];exact g1) (by rw[<-hν s2 t2 ⟨b2,h2⟩];exact g2)
theorem Ha {m:M} (hm:DJ B S w0 m) (s a6:Nat) :
  DJ B S w0 ⟨e6 m s none,m.own.put s ((m.own s).new ⟨a6,[]⟩),m.w⟩/\FX B S m ⟨e6 m s none,m.own.put s ((m.own s).new ⟨a6,[]⟩),m.w⟩:=by
 have hν : ∀ s' t',live m s' t'->e6 m s none s' t'=m.ν s' t':=λ s' t' hl=>by
  unfold e6;rw[if_neg];rintro ⟨rfl,rfl⟩
  exact iN hm _ hl
 have he:FX B S m ⟨e6 m s none,m.own.put s ((m.own s).new ⟨a6,[]⟩),m.w⟩:=by
  refine XN hm (Nat.le_refl _) (λ k hk _=>rfl) (λ s' => ?_) (λ s' t' b' ht g7 => ?_) (λ s' t' g hl hg l6 => ?_)
  ·rw[OV];split
   ·rename_i h;subst h;omega
   ·exact Nat.le_refl _
  ·rw[JA]at g7
   rw[if_neg (by rintro ⟨rfl,rfl⟩;omega)]at g7;exact ⟨b',g7,rfl,hν s' t' ⟨b',g7⟩,λ g ar e' hg ha=>⟨ar,ha,rfl⟩⟩
  ·obtain ⟨b',g7⟩:=hl
   rw[JA]at g7;by_cases h:s'=s/\t'=m.own.e5 s
   ·simp [e6,if_pos h]at hg
   ·rw[if_neg h]at g7
    exact ⟨s',t',⟨b',g7⟩,by rw[<-hν s' t' ⟨b',g7⟩];exact hg⟩
 refine ⟨⟨hm.below,hm.size,λ s' t' ht => ?_,λ s' t' b' g7 => ?_,λ s1 t1 s2 t2 b1 b2 g h1 h2 g1 g2 => ?_⟩,he⟩
 ·rw[OV]at ht
  rw[JA,if_neg]
  ·refine hm.fresh s' t' ?_
   split at ht
   ·rename_i h;subst h;omega
   ·exact ht
  ·rintro ⟨rfl,rfl⟩
   simp at ht;omega
 ·rw[JA]at g7
  by_cases h:s'=s/\t'=m.own.e5 s
  ·rw[if_pos h]at g7
   obtain rfl:(⟨a6,[]⟩:GH)=b':=by simpa using g7
   refine ⟨by simp,?_⟩;show match e6 m s none s' t' with|none=>_|some g=>_
   rw[show e6 m s none s' t'=none by simp [e6,h]]
  ·rw[if_neg h]at g7
   obtain ⟨h1,h2⟩:=hm.blk s' t' b' g7;refine ⟨h1,?_⟩;show match e6 m s none s' t' with|none=>_|some g=>_
   rw[hν s' t' ⟨b',g7⟩];cases hv:m.ν s' t' with
   | none=>rw[hv]at h2;exact h2
   | some g =>
    rw[hv]at h2;obtain ⟨h3,ar,e',h4,h5⟩:=h2;refine ⟨h3,ar,e',h4,λ i cs hi j c hj => ?_⟩;obtain ⟨u,hu,hcc⟩:=h5 i cs hi j c hj;exact ⟨u,hu,he.cc hcc⟩
 ·rw[JA]at h1 h2
  by_cases p1:s1=s/\t1=m.own.e5 s
  ·simp [e6,if_pos p1]at g1
  ·by_cases p2:s2=s/\t2=m.own.e5 s
   ·simp [e6,if_pos p2]at g2
   ·rw[if_neg p1]at h1
    rw[if_neg p2]at h2;exact hm.inj s1 t1 s2 t2 b1 b2 g h1 h2 (by rw[<-hν s1 t1 ⟨b1,h1⟩];exact g1) (by rw[<-hν s2 t2 ⟨b2,h2⟩];exact g2)
theorem Gw {m:M} (hm:DJ B S w0 m) (s t:Nat) (b b':GH) (hb:m.own.get s t=some b) (g:Nat) (hg:m.ν s t=some g) (arr n9:Array Value) (e:TypeId)
  (ha:m.w.heap[g]? = some (.cells arr e (0,0))) (hz':b'.a6=b.a6) (hz : ∀ x∈b'.es,x.length=b'.a6) (o7:n9.size=arr.size)
  (hc : ∀ i cs,b'.es[i]? = some cs -> ∀ j c,cs[j]? = some c -> ∃ u,n9[i*b'.a6+j]? = some u/\CC B S m c u) (w':World) (di:Below B w0 w') (pf:w'.heap.size=m.w.heap.size)
  (hk : ∀ k,k≠g->w'.heap[k]? = m.w.heap[k]?) (Iy:w'.heap[g]? = some (.cells n9 e (0,0))) :
  DJ B S w0 ⟨m.ν,m.own.put s ((m.own s).n7 t (some b')),w'⟩/\FX B S m ⟨m.ν,m.own.put s ((m.own s).n7 t (some b')),w'⟩:=by
 have l6:t<m.own.e5 s:=by
  rcases Nat.lt_or_ge t (m.own.e5 s) with h|h
  ·exact h
  ·rw[hm.fresh s t h]at hb;cases hb
 have he:FX B S m ⟨m.ν,m.own.put s ((m.own s).n7 t (some b')),w'⟩:=by
  refine XN hm (by rw[pf];exact Nat.le_refl _) (λ k dc hn=>hk k (λ e=>hn s t ⟨b,hb⟩ (e ▸ hg))) (λ s'=>by rw[uP];exact Nat.le_refl _) (λ s' t' b2 ht o4 => ?_) (λ s' t' g' hl ae _ => ?_)
  ·rw[cN]at o4
   by_cases h:s'=s/\t'=t
   ·obtain ⟨rfl,rfl⟩:=h
    rw[if_pos ⟨rfl,rfl⟩]at o4;obtain rfl:b'=b2:=by simpa using o4
    refine ⟨b,hb,hz',rfl,λ g2 ar e' fb nj => ?_⟩;obtain rfl:g=g2:=by rw[hg]at fb;simpa using fb
    rw[ha]at nj;obtain ⟨rfl,rfl⟩:arr=ar/\e=e':=by simpa using nj
    exact ⟨n9,Iy,o7⟩
   ·rw[if_neg h]at o4
    refine ⟨b2,o4,rfl,rfl,λ g2 ar e' fb nj=>⟨ar,?_,rfl⟩⟩;rw[<-nj];exact hk g2 (λ e2=>h (by
     subst e2;exact hm.inj s' t' s t b2 b g2 o4 hb fb hg))
  ·obtain ⟨b2,o4⟩:=hl
   rw[cN]at o4;by_cases h:s'=s/\t'=t
   ·obtain ⟨rfl,rfl⟩:=h
    exact ⟨s',t',⟨b,hb⟩,ae⟩
   ·rw[if_neg h]at o4
    exact ⟨s',t',⟨b2,o4⟩,ae⟩
 refine ⟨⟨di,by rw[pf];exact hm.size,λ s' t' ht => ?_,λ s' t' b2 o4 => ?_,λ s1 t1 s2 t2 b1 b2 g1 h1 h2 e1 e2 => ?_⟩,he⟩
 ·rw[uP]at ht
  rw[cN,if_neg (by rintro ⟨rfl,rfl⟩;omega)];exact hm.fresh s' t' ht
 ·rw[cN]at o4
  by_cases h:s'=s/\t'=t
  ·obtain ⟨rfl,rfl⟩:=h
   rw[if_pos ⟨rfl,rfl⟩]at o4;obtain rfl:b'=b2:=by simpa using o4
   refine ⟨hz,?_⟩;show match m.ν s' t' with|none=>_|some g=>_
   rw[hg];refine ⟨(hm.ge ⟨b,hb⟩ hg).1,n9,e,Iy,λ i cs hi j c hj => ?_⟩;obtain ⟨u,hu,hcc⟩:=hc i cs hi j c hj;exact ⟨u,hu,he.cc hcc⟩
  ·rw[if_neg h]at o4
   obtain ⟨h1,h2⟩:=hm.blk s' t' b2 o4;refine ⟨h1,?_⟩;show match m.ν s' t' with|none=>_|some g=>_
   cases hv:m.ν s' t' with
   | none=>rw[hv]at h2;exact h2
   | some g2 =>
    rw[hv]at h2;obtain ⟨h3,ar,e',h4,h5⟩:=h2;refine ⟨h3,ar,e',?_,λ i cs hi j c hj => ?_⟩
    ·rw[<-h4]
     exact hk g2 (λ e2=>h (by
      subst e2;exact hm.inj s' t' s t b2 b g2 o4 hb hv hg))
    ·obtain ⟨u,hu,hcc⟩:=h5 i cs hi j c hj
     exact ⟨u,hu,he.cc hcc⟩
 ·have old : ∀ s' t' b2,(m.own.put s ((m.own s).n7 t (some b'))).get s' t'=some b2 -> ∃ b3,m.own.get s' t'=some b3:=λ s' t' b2 h=>by
   rw[cN]at h;by_cases h':s'=s/\t'=t
   ·obtain ⟨rfl,rfl⟩:=h';exact ⟨b,hb⟩
   ·rw[if_neg h']at h;exact ⟨b2,h⟩
  obtain ⟨c1,k1⟩:=old s1 t1 b1 h1;obtain ⟨c2,k2⟩:=old s2 t2 b2 h2;exact hm.inj s1 t1 s2 t2 c1 c2 g1 k1 k2 e1 e2
theorem XQ (o:BT) (s t s' t':Nat) (b:GH):(o.put s (((o s).n7 t none).new b)).get s' t'=if s'=s/\t'=o.e5 s then some b else if s'=s/\t'=t then none else o.get s' t':=by
 unfold BT.get BT.put D9.new D9.n7 BT.e5;by_cases h:s'=s
 ·subst h
  by_cases h2:t'=(o s').e5<;>by_cases h3:t'=t<;>simp [h2,h3]
 ·simp [h]
theorem fX (o:BT) (s t s':Nat) (b:GH):(o.put s (((o s).n7 t none).new b)).e5 s'=if s'=s then o.e5 s+1 else o.e5 s':=by
 unfold BT.e5 BT.put D9.new D9.n7;by_cases h:s'=s<;>simp [h]
theorem oN {m:M} (hm:DJ B S w0 m) (s t:Nat) (b b':GH) (hb:m.own.get s t=some b) (aq:Option Nat) (w':World) (di:Below B w0 w') (o7:m.w.heap.size<=w'.heap.size)
  (hk : ∀ k,k<m.w.heap.size->m.ν s t≠some k->w'.heap[k]? = m.w.heap[k]?) (hz : ∀ x∈b'.es,x.length=b'.a6)
  (hnone:aq=none->b'.es=[])
  (mc : ∀ g,aq=some g->B<=g/\(m.w.heap.size<=g\/m.ν s t=some g) /\ ∃ arr e,w'.heap[g]? = some (.cells arr e (0,0)) /\
   ∀ i cs,b'.es[i]? = some cs -> ∀ j c,cs[j]? = some c -> ∃ u,arr[i*b'.a6+j]? = some u/\CC B S m c u) :
  DJ B S w0 ⟨e6 m s aq,m.own.put s (((m.own s).n7 t none).new b'),w'⟩/\FX B S m ⟨e6 m s aq,m.own.put s (((m.own s).n7 t none).new b'),w'⟩:=by
 have l6:t<m.own.e5 s:=by
  rcases Nat.lt_or_ge t (m.own.e5 s) with h|h
  ·exact h
  ·rw[hm.fresh s t h]at hb;cases hb
 have hν : ∀ s' t',live m s' t'->e6 m s aq s' t'=m.ν s' t':=λ s' t' hl=>by
  unfold e6;rw[if_neg];rintro ⟨rfl,rfl⟩
  exact iN hm _ hl
 have he:FX B S m ⟨e6 m s aq,m.own.put s (((m.own s).n7 t none).new b'),w'⟩:=by
  refine XN hm o7 (λ k dc hn=>hk k dc (hn s t ⟨b,hb⟩)) (λ s' => ?_) (λ s' t' b2 ht o4 => ?_) (λ s' t' g' hl ae lu => ?_)
  ·rw[fX];split
   ·rename_i h;subst h;omega
   ·exact Nat.le_refl _
  ·rw[XQ]at o4
   rw[if_neg (by rintro ⟨rfl,rfl⟩;omega)]at o4;by_cases h:s'=s/\t'=t
   ·rw[if_pos h]at o4;cases o4
   ·rw[if_neg h]at o4
    refine ⟨b2,o4,rfl,hν s' t' ⟨b2,o4⟩,λ g2 ar e' fb nj=>⟨ar,?_,rfl⟩⟩;rw[<-nj];exact hk g2 (Array.getElem?_eq_some_iff.1 nj).1 (λ e2=>h (hm.inj s' t' s t b2 b g2 o4 hb fb e2))
  ·obtain ⟨b2,o4⟩:=hl
   rw[XQ]at o4;by_cases h0:s'=s/\t'=m.own.e5 s
   ·simp only[e6,if_pos h0]at ae
    obtain ⟨_,h2,_⟩:=mc g' ae;rcases h2 with h2|h2
    ·omega
    ·exact ⟨s,t,⟨b,hb⟩,h2⟩
   ·rw[if_neg h0]at o4
    by_cases h:s'=s/\t'=t
    ·rw[if_pos h]at o4;cases o4
    ·rw[if_neg h]at o4
     exact ⟨s',t',⟨b2,o4⟩,by rw[<-hν s' t' ⟨b2,o4⟩];exact ae⟩
 refine ⟨⟨di,Nat.le_trans hm.size o7,λ s' t' ht => ?_,λ s' t' b2 o4 => ?_,λ s1 t1 s2 t2 b1 b2 g1 h1 h2 e1 e2 => ?_⟩,he⟩
 ·rw[fX]at ht
  have ic:m.own.e5 s'<=t' /\ ¬ (s'=s/\t'=m.own.e5 s):=by
   by_cases h:s'=s
   ·subst h
    simp at ht;exact ⟨by omega,by omega⟩
   ·simp [h]at ht
    exact ⟨ht,λ h'=>h h'.1⟩
  rw[XQ,if_neg ic.2];split
  ·rfl
  ·exact hm.fresh s' t' ic.1
 ·rw[XQ]at o4
  by_cases h0:s'=s/\t'=m.own.e5 s
  ·rw[if_pos h0]at o4
   obtain rfl:b'=b2:=by simpa using o4
   refine ⟨hz,?_⟩;show match e6 m s aq s' t' with|none=>_|some g=>_
   rw[show e6 m s aq s' t'=aq by simp [e6,h0]];cases aq with
   | none=>exact hnone rfl
   | some g =>
    obtain ⟨h1,_,arr,e,h4,h5⟩:=mc g rfl;refine ⟨h1,arr,e,h4,λ i cs hi j c hj => ?_⟩;obtain ⟨u,hu,hcc⟩:=h5 i cs hi j c hj;exact ⟨u,hu,he.cc hcc⟩
  ·rw[if_neg h0]at o4
   by_cases h:s'=s/\t'=t
   ·rw[if_pos h]at o4;cases o4
   ·rw[if_neg h]at o4
    obtain ⟨h1,h2⟩:=hm.blk s' t' b2 o4;refine ⟨h1,?_⟩;show match e6 m s aq s' t' with|none=>_|some g=>_
    rw[hν s' t' ⟨b2,o4⟩];cases hv:m.ν s' t' with
    | none=>rw[hv]at h2;exact h2
    | some g2 =>
     rw[hv]at h2;obtain ⟨h3,ar,e',h4,h5⟩:=h2;refine ⟨h3,ar,e',?_,λ i cs hi j c hj => ?_⟩
     ·rw[<-h4]
      exact hk g2 (Array.getElem?_eq_some_iff.1 h4).1 (λ e2=>h (hm.inj s' t' s t b2 b g2 o4 hb hv e2))
     ·obtain ⟨u,hu,hcc⟩:=h5 i cs hi j c hj
      exact ⟨u,hu,he.cc hcc⟩
 ·rw[XQ]at h1 h2
  have old : ∀ s' t' b2,(if s'=s/\t'=t then none else m.own.get s' t')=some b2->m.own.get s' t'=some b2 /\ ¬ (s'=s/\t'=t):=λ s' t' b2 h=>by
   by_cases h':s'=s/\t'=t
   ·rw[if_pos h']at h;cases h
   ·rw[if_neg h']at h;exact ⟨h,h'⟩
  have fw : ∀ s' t' b2,m.own.get s' t'=some b2 -> ¬ (s'=s/\t'=t)->e6 m s aq s' t'=some g1->aq=some g1->False:=λ s' t' b2 o4 hne e1 e2=>by
   rw[hν s' t' ⟨b2,o4⟩]at e1;obtain ⟨_,h2,_⟩:=mc g1 e2;obtain ⟨_,ar,e',h4⟩:=hm.ge ⟨b2,o4⟩ e1;have:=(Array.getElem?_eq_some_iff.1 h4).1
   rcases h2 with h2|h2
   ·omega
   ·exact hne (hm.inj s' t' s t b2 b g1 o4 hb e1 h2)
  have at_ : ∀ s' t',s'=s/\t'=m.own.e5 s->e6 m s aq s' t'=some g1->aq=some g1:=λ s' t' h hg=>by simpa [e6,if_pos h] using hg
  by_cases p1:s1=s/\t1=m.own.e5 s<;>by_cases p2:s2=s/\t2=m.own.e5 s
  ·exact ⟨p1.1.trans p2.1.symm,p1.2.trans p2.2.symm⟩
  ·rw[if_neg p2]at h2
   obtain ⟨k2,n2⟩:=old s2 t2 b2 h2;exact (fw s2 t2 b2 k2 n2 e2 (at_ s1 t1 p1 e1)).elim
  ·rw[if_neg p1]at h1
   obtain ⟨k1,n1⟩:=old s1 t1 b1 h1;exact (fw s1 t1 b1 k1 n1 e1 (at_ s2 t2 p2 e2)).elim
  ·rw[if_neg p1]at h1
   rw[if_neg p2]at h2;obtain ⟨k1,n1⟩:=old s1 t1 b1 h1;obtain ⟨k2,n2⟩:=old s2 t2 b2 h2;exact hm.inj s1 t1 s2 t2 b1 b2 g1 k1 k2 (by rw[<-hν s1 t1 ⟨b1,k1⟩];exact e1) (by rw[<-hν s2 t2 ⟨b2,k2⟩];exact e2)
theorem yZ (o:BT) (l:List Nat) (s t:Nat):(o.drop l).get s t=if s∈l then none else o.get s t:=by
 induction l with
 | nil=>simp [BT.drop]
 | cons x r ih =>
  unfold BT.get at *;by_cases h:s=x
  ·subst h;simp [BT.drop,BT.put]
  ·simp only[BT.drop,BT.put,if_neg h,List.mem_cons]
   rw[ih];by_cases h2:s∈r<;>simp [h,h2]
theorem uM (o:BT) (l:List Nat) (s:Nat):(o.drop l).e5 s=o.e5 s:=by
 induction l with
 | nil=>simp [BT.drop]
 | cons x r ih =>
  unfold BT.e5 at *;by_cases h:s=x
  ·subst h;simp [BT.drop,BT.put]
  ·simp [BT.drop,BT.put,h,ih]
theorem Sv {m:M} (hm:DJ B S w0 m) (l:List Nat):DJ B S w0 ⟨m.ν,m.own.drop l,m.w⟩/\FX B S m ⟨m.ν,m.own.drop l,m.w⟩:=by
 have old : ∀ s t b,(m.own.drop l).get s t=some b->m.own.get s t=some b:=λ s t b h=>by
  rw[yZ]at h;split at h
  ·cases h
  ·exact h
 have he:FX B S m ⟨m.ν,m.own.drop l,m.w⟩:=by
  refine XN hm (Nat.le_refl _) (λ_ _ _=>rfl) (λ s=>by rw[uM];exact Nat.le_refl _) (λ s t b' _ g7=>⟨b',old s t b' g7,rfl,rfl,λ_ ar _ _ ha=>⟨ar,ha,rfl⟩⟩) (λ s t g hl hg _ => ?_);obtain ⟨b,hb⟩:=hl;exact ⟨s,t,⟨b,old s t b hb⟩,hg⟩
 refine ⟨⟨hm.below,hm.size,λ s t ht => ?_,λ s t b hb => ?_,λ s1 t1 s2 t2 b1 b2 g h1 h2=>hm.inj s1 t1 s2 t2 b1 b2 g (old _ _ _ h1) (old _ _ _ h2)⟩,he⟩
 ·rw[uM]at ht
  rw[yZ];split
  ·rfl
  ·exact hm.fresh s t ht
 ·obtain ⟨h1,h2⟩:=hm.blk s t b (old s t b hb)
  refine ⟨h1,?_⟩;show match m.ν s t with|none=>_|some g=>_
  cases hv:m.ν s t with
  | none=>rw[hv]at h2;exact h2
  | some g =>
   rw[hv]at h2;obtain ⟨h3,ar,e',h4,h5⟩:=h2;refine ⟨h3,ar,e',h4,λ i cs hi j c hj => ?_⟩;obtain ⟨u,hu,hcc⟩:=h5 i cs hi j c hj;exact ⟨u,hu,he.cc hcc⟩
end
end Go.Eng

namespace Go.Eng
section
variable {P:Program} {num:Nat->Nat} {op:Op}
theorem Ajh {y:B8} (h:CT P num op (.a8 y)=true) : ∃ x,(op = .move x\/op = .assign x)/\DD x y=true:=by
 cases op with
 | move x=>exact ⟨x,.inl rfl,h⟩
 | assign x=>exact ⟨x,.inr rfl,h⟩
 | _=>exact Bool.noConfusion h
theorem Ajs {s z:Nat} (h:CT P num op (.q7 s z)=true):(op = .move (.const (.slice none 0 0))\/op = .assign (.const (.slice none 0 0)))/\z≠0:=by
 simp only[CT,Bool.and_eq_true,bne_iff_ne]at h;refine ⟨?_,h.1⟩;have h2:=h.2;split at h2<;>simp_all
theorem Ajj {c' a' b':B8} (h:CT P num op (.pick c' a' b')=true) : ∃ c a b,op = .pick c a b/\DD c c'=true/\DD a a'=true/\DD b b'=true:=by
 cases op with
 | pick c a b=>simp only[CT,Bool.and_eq_true]at h;exact ⟨c,a,b,rfl,h.1.1,h.1.2,h.2⟩
 | _=>exact Bool.noConfusion h
theorem Ye {f:BinOp} {x' y':B8} (h:CT P num op (.bin f x' y')=true) : ∃ t x y u,op = .binOp f t x y u/\DD x x'=true/\DD y y'=true:=by
 cases op with
 | binOp f' t x y u =>
  simp only[CT,Bool.and_eq_true,beq_iff_eq]at h;exact ⟨t,x,y,u,by rw[h.1.1],h.1.2,h.2⟩
 | _=>exact Bool.noConfusion h
theorem Yd {ne:Bool} {x' y':B8} (h:CT P num op (.beq ne x' y')=true) : ∃ t x y u,op = .binOp (if ne then .neq else .eql) t x y u/\P.underlying t=some .bool/\DD x x'=true/\DD y y'=true:=by
 cases op with
 | binOp f' t x y u =>
  simp only[CT,Bool.and_eq_true]at h;obtain ⟨⟨⟨h1,h2⟩,h3⟩,h4⟩:=h;refine ⟨t,x,y,u,?_,?_,h3,h4⟩
  ·cases ne<;>simp_all
  ·split at h2<;>simp_all
 | _=>exact Bool.noConfusion h
theorem Ajq {f:UnOp} {x':B8} (h:CT P num op (.un f x')=true) : ∃ t x,op = .unOp f t x/\DD x x'=true:=by
 cases op with
 | unOp f' t x =>
  simp only[CT,Bool.and_eq_true,beq_iff_eq]at h;exact ⟨t,x,by rw[h.1],h.2⟩
 | _=>exact Bool.noConfusion h
theorem Xc {k:IntKind} {x':B8} (h:CT P num op (.conv k x')=true) : ∃ s d x ds,op = .convert s d x/\P.underlying s=some ds/\P.underlying d=some (.int k)/\DD x x'=true:=by
 cases op with
 | convert s d x =>
  simp only[CT,Bool.and_eq_true]at h;obtain ⟨⟨h1,h2⟩,h3⟩:=h;obtain ⟨ds,qz⟩:=Option.isSome_iff_exists.1 h1;refine ⟨s,d,x,ds,rfl,qz,?_,h3⟩;split at h2<;>simp_all
 | _=>exact Bool.noConfusion h
theorem Yf {s:Nat} {x':B8} (h:CT P num op (.box s x')=true) : ∃ t x,op = .box t x/\DD x x'=true:=by
 cases op with
 | box t x=>exact ⟨t,x,rfl,h⟩
 | _=>exact Bool.noConfusion h
theorem Xz {s:Nat} {z:List AV} (h:CT P num op (.alloc s z)=true) : ∃ t,op = .alloc t/\YY P t z=true:=by
 cases op with
 | alloc t=>exact ⟨t,rfl,h⟩
 | _=>exact Bool.noConfusion h
theorem Ww {z:List AV} {ax:List (Nat × Nat × B8)} (h:CT P num op (.build z ax)=true) : ∃ t ps,op = .build t ps/\YY P t z=true/\kX P t ps.toList ax=true:=by
 cases op with
 | build t ps=>simp only[CT,Bool.and_eq_true]at h;exact ⟨t,ps,rfl,h.1,h.2⟩
 | _=>exact Bool.noConfusion h
theorem OK {t:TypeId} {f:TypeId->Bool} (h:KD P t f=true) : ∃ e,P.underlying t=some (.slice e)/\f e=true:=by
 unfold KD at h;split at h
 ·rename_i e he;exact ⟨e,he,h⟩
 ·cases h
theorem MK {t:TypeId} {n:Nat} (h:KC P t n=true) : ∃ i,P.info? t=some i/\i.size=n:=by
 unfold KC at h;split at h
 ·rename_i i hi;exact ⟨i,hi,by simpa using h⟩
 ·cases h
theorem fJ {t:TypeId} {n:Nat} (h:W8 P t n=true) : ∃ i,P.info? t=some i/\i.bytes=n:=by
 unfold W8 at h;split at h
 ·rename_i i hi;exact ⟨i,hi,by simpa using h⟩
 ·cases h
theorem rN {t:TypeId} {l:List AV} (h:YY P t l=true) : ∃ i z,P.info? t=some i/\i.zero=some z/\UY z.cells.toList l=true:=by
 unfold YY at h;split at h
 ·rename_i i hi
  split at h
  ·rename_i z hz;exact ⟨i,z,hi,hz,h⟩
  ·cases h
 ·cases h
theorem fD {t:TypeId} {b:Bool} (h:(W5 P t == some b)=true) : ∀ w,(isAgg t).run P w = .ok b w:=by
 intro w;have h':W5 P t=some b:=by simpa using h
 unfold W5 at h';unfold isAgg;cases hu:P.underlying t with
 | none=>rw[hu]at h';cases h'
 | some d =>
  rw[hu]at h';rw[Sem.run_bind,run_underlying hu];cases d<;>simp_all<;>rfl
theorem kC {e:TypeId} {n:Nat} (h:(match P.info? e with|some i=>(match i.zero with|some z=>z.cells.size == n|none=>false)|none=>false)=true) : ∃ i z,P.info? e=some i/\i.zero=some z/\z.cells.size=n:=by
 split at h
 ·rename_i i hi
  split at h
  ·rename_i z hz;exact ⟨i,z,hi,hz,by simpa using h⟩
  ·cases h
 ·cases h
theorem Wv {s a6:Nat} {ax:List B8} (h:CT P num op (.c4 s a6 ax)=true) : ∃ t n ps e i,op = .buildSlice t n ps/\P.underlying t=some (.slice e)/\P.info? e=some i/\i.size=a6/\a6≠0/\n=ax.length/\n*a6<=16777216/\XJ 0 ps.toList ax=true/\(n=0 \/ ∃ z,i.zero=some z/\z.cells.size=a6):=by
 cases op with
 | buildSlice t n ps =>
  simp only[CT,Bool.and_eq_true,decide_eq_true_eq,bne_iff_ne,beq_iff_eq,Bool.or_eq_true]at h;obtain ⟨⟨⟨⟨⟨h1,h2⟩,h3⟩,h4⟩,h5⟩,h6⟩:=h;obtain ⟨e,he,h1⟩:=OK h1;obtain ⟨i,hi,hs⟩:=MK h1;refine ⟨t,n,ps,e,i,rfl,he,hi,hs,h2,h3,h4,h5,h6.imp id λ h6 => ?_⟩;obtain ⟨e',eb,h6⟩:=OK h6;rw[he]at eb;obtain rfl:e=e':=by simpa using eb
  obtain ⟨i',z,m5,hz,hs'⟩:=kC h6;rw[hi]at m5;obtain rfl:i=i':=by simpa using m5
  exact ⟨z,hz,hs'⟩
 | _=>exact Bool.noConfusion h
theorem Dq {x':B8} {off:Nat} (h:CT P num op (.a7 x' off)=true) : ∃ t x f fs fd i,op = .fieldAddr t x f/\DD x x'=true/\P.underlying t=some (.struct fs)/\fs[f]? = some fd/\fd.offset=off/\P.info? fd.type=some i/\i.size≠0:=by
 cases op with
 | fieldAddr t x f =>
  simp only[CT,Bool.and_eq_true]at h;obtain ⟨h1,h2⟩:=h;split at h2
  ·rename_i fs hfs
   split at h2
   ·rename_i fd xq
    simp only[Bool.and_eq_true,beq_iff_eq]at h2;obtain ⟨h3,h4⟩:=h2;split at h4
    ·rename_i i hi
     exact ⟨t,x,f,fs,fd,i,rfl,h1,hfs,xq,h3,hi,by simpa using h4⟩
    ·cases h4
   ·cases h2
  ·cases h2
 | _=>exact Bool.noConfusion h
theorem Aja {x':B8} {off n:Nat} {agg:Bool} (h:CT P num op (.gx x' off n agg)=true) : ∃ t x f fs fd i,op = .field t x f/\DD x x'=true/\P.underlying t=some (.struct fs)/\fs[f]? = some fd/\fd.offset=off/\P.info? fd.type=some i/\i.size=n/\(∀ w,(isAgg fd.type).run P w = .ok agg w)/\n≠0:=by
 cases op with
 | field t x f =>
  simp only[CT,Bool.and_eq_true]at h;obtain ⟨⟨h1,h2⟩,h3⟩:=h;unfold yJ at h2;unfold yK at h3;split at h2
  ·rename_i fs hfs
   split at h2
   ·rename_i fd xq
    simp only[Bool.and_eq_true,beq_iff_eq,bne_iff_ne]at h2;obtain ⟨⟨h4,h5⟩,h6⟩:=h2;obtain ⟨i,hi,hs⟩:=MK h5;rw[hfs]at h3;simp only[xq]at h3;exact ⟨t,x,f,fs,fd,i,rfl,h1,hfs,xq,h4,hi,hs,fD h3,h6⟩
   ·cases h2
  ·cases h2
 | _=>exact Bool.noConfusion h
theorem iB {arr:Option Nat} {a6:Nat} {x' i':B8} (h:CT P num op (.a4 arr a6 x' i')=true) : ∃ t x i e inf,op = .indexAddr t x i/\DD x x'=true/\DD i i'=true/\P.info? e=some inf/\inf.size=a6 /\
  ((∃ len,arr=some len/\P.underlying t=some (.array len e)/\1<len)\/(arr=none/\P.underlying t=some (.slice e)/\a6≠0)):=by
 cases op with
 | indexAddr t x i =>
  simp only[CT,Bool.and_eq_true]at h;obtain ⟨⟨h1,h2⟩,h3⟩:=h;split at h3
  ·rename_i len e fi hu
   simp only[Bool.and_eq_true,beq_iff_eq,decide_eq_true_eq]at h3;obtain ⟨⟨h4,h5⟩,h6⟩:=h3;obtain ⟨inf,hi,hs⟩:=MK h5;exact ⟨t,x,i,e,inf,rfl,h1,h2,hi,hs,.inl ⟨len,by rw[h4],hu,h6⟩⟩
  ·rename_i e hu
   simp only[Bool.and_eq_true,bne_iff_ne]at h3;obtain ⟨inf,hi,hs⟩:=MK h3.1;exact ⟨t,x,i,e,inf,rfl,h1,h2,hi,hs,.inr ⟨rfl,hu,h3.2⟩⟩
  ·cases h3
 | _=>exact Bool.noConfusion h
theorem Ajb {len a6:Nat} {agg:Bool} {x' i':B8} (h:CT P num op (.idx len a6 agg x' i')=true) : ∃ t x i e inf,op = .index t x i/\DD x x'=true/\DD i i'=true/\P.underlying t=some (.array len e)/\P.info? e=some inf/\inf.size=a6/\(∀ w,(isAgg e).run P w = .ok agg w):=by
 cases op with
 | index t x i =>
  simp only[CT,Bool.and_eq_true]at h;obtain ⟨⟨h1,h2⟩,h3⟩:=h;split at h3
  ·rename_i fi e hu
   simp only[Bool.and_eq_true,beq_iff_eq]at h3;obtain ⟨⟨h4,h5⟩,h6⟩:=h3;obtain ⟨inf,hi,hs⟩:=MK h5;exact ⟨t,x,i,e,inf,rfl,h1,h2,by rw[h4];exact hu,hi,hs,fD (by simpa using h6)⟩
  ·cases h3
 | _=>exact Bool.noConfusion h
theorem Dr {agg:Bool} {n:Nat} {x':B8} (h:CT P num op (.ld agg n x')=true) : ∃ t x,op = .load t x/\DD x x'=true/\(∀ w,(isAgg t).run P w = .ok agg w)/\(if agg then ∃ i,P.info? t=some i/\i.size=n else n=1):=by
 cases op with
 | load t x =>
  simp only[CT,Bool.and_eq_true]at h;obtain ⟨⟨h1,h2⟩,h3⟩:=h;refine ⟨t,x,rfl,h1,fD h2,?_⟩;cases agg
  ·simpa using h3
  ·exact MK (by simpa using h3)
 | _=>exact Bool.noConfusion h
theorem Ajo {n:Nat} {x' v':B8} (h:CT P num op (.st n x' v')=true) : ∃ t x v i,op = .store t x v/\DD x x'=true/\DD v v'=true/\P.info? t=some i/\i.size=n:=by
 cases op with
 | store t x v =>
  simp only[CT,Bool.and_eq_true]at h;obtain ⟨⟨h1,h2⟩,h3⟩:=h;obtain ⟨i,hi,hs⟩:=MK h3;exact ⟨t,x,v,i,rfl,h1,h2,hi,hs⟩
 | _=>exact Bool.noConfusion h
theorem Ajf {s a6 bytes:Nat} {zero:List AV} {l' c':B8} (h:CT P num op (.mk s a6 bytes zero l' c')=true) : ∃ t l c e i z,op = .makeSlice t l c/\DD l l'=true/\DD c c'=true/\P.underlying t=some (.slice e)/\P.info? e=some i/\i.size=a6/\i.bytes=bytes/\i.zero=some z/\UY z.cells.toList zero=true/\a6≠0:=by
 cases op with
 | makeSlice t l c =>
  simp only[CT,Bool.and_eq_true,bne_iff_ne]at h;obtain ⟨⟨⟨h1,h2⟩,h3⟩,h4⟩:=h;obtain ⟨e,he,h3⟩:=OK h3;simp only[Bool.and_eq_true]at h3;obtain ⟨⟨h5,h6⟩,h7⟩:=h3;obtain ⟨i,hi,hs⟩:=MK h5;obtain ⟨i2,hi2,ma⟩:=fJ h6;obtain ⟨i3,z,lk,hz,aw⟩:=rN h7;rw[hi]at hi2 lk;obtain rfl:i=i2:=by simpa using hi2
  obtain rfl:i=i3:=by simpa using lk
  exact ⟨t,l,c,e,i,z,rfl,h1,h2,he,hi,hs,ma,hz,aw,h4⟩
 | _=>exact Bool.noConfusion h
theorem nY {a6:Nat} {x':B8} {ij m5:Option B8} (h:CT P num op (.ay a6 x' ij m5)=true) : ∃ t x lo hi e i,op = .slice t x lo hi none/\DD x x'=true/\T4 lo ij=true/\T4 hi m5=true/\P.underlying t=some (.slice e)/\P.info? e=some i/\i.size=a6/\a6≠0:=by
 cases op with
 | slice t x lo hi mx =>
  cases mx with
  | some _=>exact Bool.noConfusion h
  | none =>
   simp only[CT,Bool.and_eq_true,bne_iff_ne]at h;obtain ⟨⟨⟨⟨h1,h2⟩,h3⟩,h4⟩,h5⟩:=h;obtain ⟨e,he,h4⟩:=OK h4;obtain ⟨i,m5,hs⟩:=MK h4;exact ⟨t,x,lo,hi,e,i,rfl,h1,h2,h3,he,m5,hs,h5⟩
 | _=>exact Bool.noConfusion h
theorem Xe {x':B8} {i:Nat} (h:CT P num op (.ext x' i)=true) : ∃ x,op = .extract x i/\DD x x'=true:=by
 cases op with
 | extract x j =>
  simp only[CT,Bool.and_eq_true,beq_iff_eq]at h;exact ⟨x,by rw[h.2],h.1⟩
 | _=>exact Bool.noConfusion h
theorem WO {α:Type} {xs:Array α} {x y:α} (h:xs.toList=[x,y]):xs = #[x,y]:=by cases xs;simp_all
theorem jU {α:Type} {xs:Array α} {x:α} (h:xs.toList=[x]):xs = #[x]:=by cases xs;simp_all
theorem Aje {x':B8} (h:CT P num op (.len x')=true) : ∃ x t e,op = .call ⟨.builtin .len,#[x],#[t]⟩/\DD x x'=true/\P.underlying t=some (.slice e):=by
 cases op with
 | call c =>
  obtain ⟨cl,xs,ts⟩:=c;cases cl with
  | builtin b =>
   cases b<;>first|exact Bool.noConfusion h|skip
   simp only[CT]at h;split at h
   ·rename_i x t hx ht
    simp only[Bool.and_eq_true]at h;obtain ⟨e,he,_⟩:=OK h.2;exact ⟨x,t,e,by rw[jU hx,jU ht],h.1,he⟩
   ·cases h
  | value f=>cases f<;>exact Bool.noConfusion h
  | invoke=>exact Bool.noConfusion h
 | _=>exact Bool.noConfusion h
theorem Ds {mx:Bool} {m8:List B8} (h:CT P num op (.mm mx m8)=true) : ∃ xs ts,op = .call ⟨.builtin (if mx then .max else .min),xs,ts⟩/\G2 xs.toList m8=true:=by
 cases op with
 | call c =>
  obtain ⟨cl,xs,ts⟩:=c;cases cl with
  | builtin b =>
   cases b<;>first|exact Bool.noConfusion h|skip
   all_goals
    simp only[CT,Bool.and_eq_true]at h;refine ⟨xs,ts,?_,h.2⟩;cases mx<;>simp_all
  | value f=>cases f<;>exact Bool.noConfusion h
  | invoke=>exact Bool.noConfusion h
 | _=>exact Bool.noConfusion h
theorem zZ {s a6 bytes:Nat} {x' y':B8} (h:CT P num op (.app s a6 bytes x' y')=true) : ∃ x y t e i z tx ex,op = .call ⟨.builtin .append,#[x,y],#[t,tx]⟩/\DD x x'=true/\DD y y'=true/\P.underlying t=some (.slice e)/\P.info? e=some i/\i.size=a6/\i.bytes=bytes/\i.zero=some z/\z.cells.size=a6/\a6≠0/\P.underlying tx=some (.slice ex):=by
 cases op with
 | call c =>
  obtain ⟨cl,xs,ts⟩:=c;cases cl with
  | builtin b =>
   cases b<;>first|exact Bool.noConfusion h|skip
   simp only[CT]at h;split at h
   ·rename_i x y t u hx ht
    simp only[Bool.and_eq_true,beq_iff_eq,bne_iff_ne]at h;obtain ⟨⟨⟨⟨h1,h2⟩,h3⟩,h4⟩,h5⟩:=h;obtain ⟨e,he,h3⟩:=OK h3;simp only[Bool.and_eq_true]at h3;obtain ⟨⟨h6,h7⟩,h8⟩:=h3;obtain ⟨i,hi,hs⟩:=MK h6;obtain ⟨i2,hi2,ma⟩:=fJ h7;obtain ⟨i3,z,lk,hz,aw⟩:=kC h8;rw[hi]at hi2 lk;obtain rfl:i=i2:=by simpa using hi2
    obtain rfl:i=i3:=by simpa using lk
    obtain ⟨ex,hex,_⟩:=OK h5;exact ⟨x,y,t,e,i,z,u,ex,by rw[WO hx,WO ht],h1,h2,he,hi,hs,ma,hz,aw,h4,hex⟩
   ·cases h
  | value f=>cases f<;>exact Bool.noConfusion h
  | invoke=>exact Bool.noConfusion h
 | _=>exact Bool.noConfusion h
theorem Ya {s a6 bytes:Nat} {x' y':B8} (h:CT P num op (.il s a6 bytes x' y')=true) : ∃ x y t e i z tx ex,op = .call ⟨.builtin .append,#[x,y],#[t,tx]⟩/\DD x x'=true/\DD y y'=true/\P.underlying t=some (.slice e)/\P.info? e=some i/\i.size=a6/\i.bytes=bytes/\i.zero=some z/\z.cells.size=a6/\a6≠0/\P.underlying tx=some (.slice ex):=by
 cases op with
 | call c =>
  obtain ⟨cl,xs,ts⟩:=c;cases cl with
  | builtin b =>
   cases b<;>first|exact Bool.noConfusion h|skip
   simp only[CT]at h;split at h
   ·rename_i x y t u hx ht
    simp only[Bool.and_eq_true,beq_iff_eq,bne_iff_ne]at h;obtain ⟨⟨⟨⟨h1,h2⟩,h3⟩,h4⟩,h5⟩:=h;obtain ⟨e,he,h3⟩:=OK h3;simp only[Bool.and_eq_true]at h3;obtain ⟨⟨h6,h7⟩,h8⟩:=h3;obtain ⟨i,hi,hs⟩:=MK h6;obtain ⟨i2,hi2,ma⟩:=fJ h7;obtain ⟨i3,z,lk,hz,aw⟩:=kC h8;rw[hi]at hi2 lk;obtain rfl:i=i2:=by simpa using hi2
    obtain rfl:i=i3:=by simpa using lk
    obtain ⟨ex,hex,_⟩:=OK h5;exact ⟨x,y,t,e,i,z,u,ex,by rw[WO hx,WO ht],h1,h2,he,hi,hs,ma,hz,aw,h4,hex⟩
   ·cases h
  | value f=>cases f<;>exact Bool.noConfusion h
  | invoke=>exact Bool.noConfusion h
 | _=>exact Bool.noConfusion h
theorem Xd {a6:Nat} {x' y':B8} (h:CT P num op (.iq a6 x' y')=true) : ∃ x y t e i,op = .call ⟨.builtin .copy,#[x,y],#[t,t]⟩/\DD x x'=true/\DD y y'=true/\P.underlying t=some (.slice e)/\P.info? e=some i/\i.size=a6/\a6≠0:=by
 cases op with
 | call c =>
  obtain ⟨cl,xs,ts⟩:=c;cases cl with
  | builtin b =>
   cases b<;>first|exact Bool.noConfusion h|skip
   simp only[CT]at h;split at h
   ·rename_i x y t u hx ht
    simp only[Bool.and_eq_true,beq_iff_eq,bne_iff_ne]at h;obtain ⟨⟨⟨⟨h1,h2⟩,h3⟩,h4⟩,h5⟩:=h;obtain ⟨e,he,h3⟩:=OK h3;obtain ⟨i,hi,hs⟩:=MK h3;exact ⟨x,y,t,e,i,by rw[WO hx,WO ht,h5],h1,h2,he,hi,hs,h4⟩
   ·cases h
  | value f=>cases f<;>exact Bool.noConfusion h
  | invoke=>exact Bool.noConfusion h
 | _=>exact Bool.noConfusion h
theorem nW {f:Nat} {m8:List B8} (h:CT P num op (.call f m8)=true) : ∃ xs ts,op = .call ⟨.value (.func (num f)),xs,ts⟩/\G2 xs.toList m8=true:=by
 cases op with
 | call c =>
  obtain ⟨cl,xs,ts⟩:=c;cases cl with
  | builtin b=>cases b<;>exact Bool.noConfusion h
  | value g =>
   cases g with
   | func g =>
    simp only[CT,Bool.and_eq_true,beq_iff_eq]at h;exact ⟨xs,ts,by rw[h.1],h.2⟩
   | _=>exact Bool.noConfusion h
  | invoke=>exact Bool.noConfusion h
 | _=>exact Bool.noConfusion h
theorem Wx {f:Nat} {m8:List B8} (h:CT P num op (.c8 f m8)=true) : ∃ xs ts,op = .call ⟨.value (.func (num f)),xs,ts⟩/\G2 xs.toList m8=true:=by
 cases op with
 | call c =>
  obtain ⟨cl,xs,ts⟩:=c;cases cl with
  | builtin b=>cases b<;>exact Bool.noConfusion h
  | value g =>
   cases g with
   | func g =>
    simp only[CT,Bool.and_eq_true,beq_iff_eq]at h;exact ⟨xs,ts,by rw[h.1],h.2⟩
   | _=>exact Bool.noConfusion h
  | invoke=>exact Bool.noConfusion h
 | _=>exact Bool.noConfusion h
theorem Wy {f:Nat} {m8:List B8} (h:CT P num op (.l9 f m8)=true):CT P num op (.call f m8)=true:=by
 cases op<;>exact h
theorem Xy {ne:Bool} {n:Nat} {x' y':B8} (h:CT P num op (.ke ne n x' y')=true) : ∃ t x y u,op = .binOp (if ne then .neq else .eql) t x y u/\nH P t n=true/\DD x x'=true/\DD y y'=true:=by
 cases op with
 | binOp f' t x y u =>
  simp only[CT,Bool.and_eq_true]at h;obtain ⟨⟨⟨h1,h2⟩,h3⟩,h4⟩:=h;refine ⟨t,x,y,u,?_,h2,h3,h4⟩;cases ne<;>simp_all
 | _=>exact Bool.noConfusion h
theorem Aji {x':B8} (h:CT P num op (.kj x')=true) : ∃ x,op = .nilCheck x/\DD x x'=true:=by
 cases op with
 | nilCheck x=>exact ⟨x,rfl,h⟩
 | _=>exact Bool.noConfusion h
theorem Xb {x':B8} (h:CT P num op (.bh x')=true) : ∃ x t e,op = .call ⟨.builtin .cap,#[x],#[t]⟩/\DD x x'=true/\P.underlying t=some (.slice e):=by
 cases op with
 | call c =>
  obtain ⟨cl,xs,ts⟩:=c;cases cl with
  | builtin b =>
   cases b<;>first|exact Bool.noConfusion h|skip
   simp only[CT]at h;split at h
   ·rename_i x t hx ht
    simp only[Bool.and_eq_true]at h;obtain ⟨e,he,_⟩:=OK h.2;exact ⟨x,t,e,by rw[jU hx,jU ht],h.1,he⟩
   ·cases h
  | value f=>cases f<;>exact Bool.noConfusion h
  | invoke=>exact Bool.noConfusion h
 | _=>exact Bool.noConfusion h
theorem Yc {s a6 bytes:Nat} {x' y':B8} (h:CT P num op (.gv s a6 bytes x' y')=true) : ∃ x y t e i z tx k,op = .call ⟨.builtin .append,#[x,y],#[t,tx]⟩/\DD x x'=true/\DD y y'=true/\P.underlying t=some (.slice e)/\P.info? e=some i/\i.size=a6/\i.bytes=bytes/\i.zero=some z/\z.cells.size=a6/\a6≠0/\P.underlying tx=some (.int k):=by
 cases op with
 | call c =>
  obtain ⟨cl,xs,ts⟩:=c;cases cl with
  | builtin b =>
   cases b<;>first|exact Bool.noConfusion h|skip
   simp only[CT]at h;split at h
   ·rename_i x y t u hx ht
    simp only[Bool.and_eq_true,bne_iff_ne]at h;obtain ⟨⟨⟨⟨h1,h2⟩,h3⟩,h4⟩,h5⟩:=h;obtain ⟨e,he,h3⟩:=OK h3;simp only[Bool.and_eq_true]at h3;obtain ⟨⟨h6,h7⟩,h8⟩:=h3;obtain ⟨i,hi,hs⟩:=MK h6;obtain ⟨i2,hi2,ma⟩:=fJ h7;obtain ⟨i3,z,lk,hz,aw⟩:=kC h8;rw[hi]at hi2 lk;obtain rfl:i=i2:=by simpa using hi2
    obtain rfl:i=i3:=by simpa using lk
    split at h5
    ·rename_i k hk
     exact ⟨x,y,t,e,i,z,u,k,by rw[WO hx,WO ht],h1,h2,he,hi,hs,ma,hz,aw,h4,hk⟩
    ·cases h5
   ·cases h
  | value f=>cases f<;>exact Bool.noConfusion h
  | invoke=>exact Bool.noConfusion h
 | _=>exact Bool.noConfusion h
theorem Xa {s f:Nat} {m8:List B8} (h:CT P num op (.x9 s f m8)=true):CT P num op (.c8 f m8)=true:=by
 cases op<;>exact h
theorem Wz {s f:Nat} {m8:List B8} (h:CT P num op (.o0 s f m8)=true):CT P num op (.call f m8)=true:=by
 cases op<;>exact h
theorem Ajp {s n:Nat} {x' v':B8} (h:CT P num op (.gu s n x' v')=true):CT P num op (.st n x' v')=true:=by
 cases op<;>exact h
theorem Yb {s a6 bytes:Nat} {x' y':B8} (h:CT P num op (.al s a6 bytes x' y')=true):CT P num op (.app s a6 bytes x' y')=true:=by
 cases op<;>exact h
theorem Ajc {ne:Bool} {x':B8} (h:CT P num op (.jz ne x')=true) : ∃ t x u e,op = .binOp (if ne then .neq else .eql) t x (.const (.slice none 0 0)) u/\P.underlying t=some (.slice e)/\DD x x'=true:=by
 cases op with
 | binOp f' t x y u =>
  simp only[CT]at h;split at h
  ·rename_i heq
   simp only[Op.binOp.injEq]at heq;obtain ⟨rfl,rfl,rfl,rfl,rfl⟩:=heq;simp only[Bool.and_eq_true]at h;obtain ⟨⟨h1,h2⟩,h3⟩:=h;unfold KD at h2;split at h2
   ·rename_i e he
    refine ⟨t,x,u,e,?_,he,h3⟩;cases ne
    ·simp only[Bool.false_eq_true,if_false,beq_iff_eq]at h1;rw[h1];rfl
    ·simp only[if_true,beq_iff_eq]at h1;rw[h1];rfl
   ·cases h2
  ·cases h
 | _=>exact Bool.noConfusion h
theorem Ajl {tb:List Nat} {i':B8} (h:CT P num op (.cr tb i')=true) : ∃ t s i,op = .index t (.const (.string s)) i/\P.underlying t=some .string/\s.data.toList.map (λ b=>b.toNat)=tb/\DD i i'=true:=by
 cases op with
 | index t x i =>
  simp only[CT]at h;split at h
  ·rename_i heq
   simp only[Op.index.injEq]at heq;obtain ⟨rfl,rfl,rfl⟩:=heq;simp only[Bool.and_eq_true,beq_iff_eq]at h;obtain ⟨⟨h1,h2⟩,h3⟩:=h;exact ⟨_,_,_,rfl,by split at h1<;>simp_all,h2,h3⟩
  ·cases h
 | _=>exact Bool.noConfusion h
theorem Ajg {p:Bool} {f:Nat} {m8:List B8} (h:CT P num op (.jc p f m8)=true) : ∃ first xs,op = .makeFunc (.func (num f)) first xs/\first = #[]/\G2 xs.toList m8=true:=by
 cases op with
 | makeFunc g first xs =>
  cases g with
  | func g =>
   simp only[CT,Bool.and_eq_true,beq_iff_eq]at h;obtain ⟨⟨rfl,h2⟩,h3⟩:=h;refine ⟨first,xs,rfl,?_,h3⟩;obtain ⟨l⟩:=first
   simp at h2;rw[h2]
  | _=>exact Bool.noConfusion h
 | _=>exact Bool.noConfusion h
theorem Dp {x':B8} {m8:List B8} (h:CT P num op (.n8 x' m8)=true) : ∃ x xs ts,op = .call ⟨.value x,xs,ts⟩/\DD x x'=true/\G2 xs.toList m8=true:=by
 cases op with
 | call c =>
  obtain ⟨cl,xs,ts⟩:=c;cases cl with
  | builtin b=>cases b<;>exact Bool.noConfusion h
  | value g =>
   simp only[CT,Bool.and_eq_true]at h;exact ⟨g,xs,ts,rfl,h.1,h.2⟩
  | invoke=>exact Bool.noConfusion h
 | _=>exact Bool.noConfusion h
end
end Go.Eng

namespace Go.Eng
open Go.RowKit
def ED.s8:ED->BT->BT
 | .val _,o=>o
 | .new s b _,o=>o.put s ((o s).new b)
 | .oi s b _,o=>o.put s ((o s).new b)
 | .af _ o',_=>o'
 | .n7 s x,o=>o.put s x
 | .km s x _,o=>o.put s x
def ED.valOf:ED->BT->AV
 | .val v,_=>v
 | .new s _ v,o=>v (o.e5 s)
 | .oi s _ v,o=>v (o.e5 s)
 | .af v _,_=>v
 | .n7 _ _,_ => .tup []
 | .km _ _ v,_=>v
section
variable {B:Nat} {S:Nat->Prop} {w0:World} {m:M}
theorem J4 {k:IntKind} {n:Int} {v:Value} (h:CV B S m (.int k n) v):v = .int k n:=by
 cases h with
 | ca h=>cases h with
  | one h=>cases h with
   | rd h=>cases h;rfl
theorem XB {b:Bool} {v:Value} (h:CV B S m (.bool b) v):v = .bool b:=by
 cases h with
 | ca h=>cases h with
  | one h=>cases h with
   | rd h=>cases h;rfl
theorem fY {cs:List AV} {v:Value} (h:CV B S m (.agg cs) v) : ∃ vs:List Value,v = .agg vs.toArray/\CL B S m cs vs:=by
 cases h with
 | ca h=>cases h with
  | one h=>cases h with
   | rd h=>cases h
  | agg _ vs h=>exact ⟨vs,rfl,h⟩
theorem lK {cs:List AV} {v:Value} (h:CV B S m (.tup cs) v) : ∃ vs:List Value,v = .tuple vs.toArray/\cs.length=vs.length /\ ∀ (j:Nat) (c:AV) (u:Value),cs[j]? = some c->vs[j]? = some u->CA B S m c u:=by
 cases h with
 | ca h=>cases h with
  | one h=>cases h with
   | rd h=>cases h
 | tup _ vs hl h=>exact ⟨vs,rfl,hl,h⟩
theorem PL (k:IntKind) (n:Int):CV B S m (.int k n) (.int k n):= .ca (.one (.rd (.int k n)))
theorem cP (b:Bool):CV B S m (.bool b) (.bool b):= .ca (.one (.rd (.bool b)))
theorem Ek:CV B S m (.tup []) undef := .tup [] [] rfl (λ j c v h=>by simp at h)
theorem gA {a:AV} {cs:List AV} {v:Value} (h:CV B S m a v) (hc:cellsOf a=some cs):CL B S m cs v.cells.toList:=by
 cases h with
 | any v=>simp [cellsOf]at hc
 | tup=>simp [cellsOf]at hc
 | ca h=>cases h with
  | agg az vs h =>
   obtain rfl:az=cs:=by simpa [cellsOf] using hc
   simpa [Value.cells] using h
  | fn=>simp [cellsOf]at hc
  | one h =>
   have h1:v.cells.toList=[v]:=by
    cases h with
    | rd h=>cases h<;>rfl
    | _=>rfl
   have h2:cs=[a]:=by
    cases h with
    | rd h=>cases h<;>simp [cellsOf]at hc<;>exact hc.symm
    | _=>simp [cellsOf]at hc;exact hc.symm
   rw[h1,h2];refine ⟨rfl,λ j c u hj hu => ?_⟩;cases j with
   | zero=>simp at hj hu;subst hj hu;exact h
   | succ j=>simp at hj
theorem Rj {cs:List AV} {vs:List Value} (h:CL B S m cs vs) : ∀ v∈vs,v.oneCell'=true:=by
 intro v hv;obtain ⟨j,hj,rfl⟩:=List.getElem_of_mem hv;have te:j<cs.length:=by rw[h.1];exact hj
 exact (h.2 j cs[j] vs[j] (zE te) (zE hj)).one
theorem tY {cs:List AV} {vs:List Value} (h:CL B S m cs vs) (off n:Nat):CL B S m ((cs.drop off).take n) ((vs.drop off).take n):=by
 refine ⟨by simp [h.1],λ j c v hj hv => ?_⟩;rw[List.getElem?_take]at hj hv;split at hj
 ·rename_i l6
  rw[if_pos l6]at hv;rw[List.getElem?_drop]at hj hv;exact h.2 _ c v hj hv
 ·cases hj
theorem wV {v:Value} {a:AV} (h:gN v a=true):CC B S m a v:=by
 unfold gN at h;split at h
 ·simp only[Bool.and_eq_true,beq_iff_eq]at h
  obtain ⟨rfl,rfl⟩:=h;exact .rd (.int _ _)
 ·obtain rfl:_=_:=by simpa using h
  exact .rd (.bool _)
 ·exact .nil
 ·rename_i s s'
  obtain rfl:s=s':=by
   have h':s.data.toList=s'.data.toList:=by simpa using h
   obtain ⟨⟨l⟩⟩:=s;obtain ⟨⟨l'⟩⟩:=s';simp only at h';rw[h']
  exact .rd (.str _)
 ·cases h
theorem ZL : ∀ {vs:List Value} {cs:List AV},UY vs cs=true->CL B S m cs vs
 | [],[],_=>⟨rfl,λ j c v h=>by simp at h⟩
 | v::r,c::l,h=>by
  simp only[UY,Bool.and_eq_true]at h;have ih:=ZL (vs:=r) (cs:=l) h.2;refine ⟨by simp [ih.1],λ j c' v' hj hv => ?_⟩;cases j with
  | zero=>simp at hj hv;subst hj hv;exact wV h.1
  | succ j=>exact ih.2 j c' v' (by simpa using hj) (by simpa using hv)
 | [],_::_,h=>by simp [UY]at h
 | _::_,[],h=>by simp [UY]at h
theorem Tg {v:Value} {a:AV} (h:mE v a=true):CV B S m a v:=by
 unfold mE at h;split at h
 ·rename_i cs l
  have:=ZL (B:=B) (S:=S) (m:=m) h
  exact .ca (by simpa using CA.agg l cs.toList this)
 ·exact .ca (.one (wV h))
def EI (B:Nat) (S:Nat->Prop) (m:M) (ρ:B8->AV) (e:Operand->Value):Prop := ∀ x y,DD x y=true->CV B S m (ρ y) (e x)
theorem AkD {T:Nat->AV} {a:Act} {ρ:B8->AV} (hρt : ∀ n,ρ (.t n)=T n) (Jt : ∀ v,ρ (.c v)=v) (h : ∀ i,CV B S m (T i) (a.tmps.getD i undef)):EI B S m ρ a.eval:=by
 intro x y gk;unfold DD at gk;split at gk
 ·obtain rfl:_=_:=by simpa using gk
  rw[hρt];exact h _
 ·rw[Jt]
  exact Tg gk
 ·obtain rfl:_=_:=by simpa using gk
  rw[Jt];exact .ca (.fn _ _ _ [] [] ⟨rfl,λ j c v h=>by simp at h⟩)
 ·cases gk
variable {P:Program} {num:Nat->Nat} {o:Oper} {a:Act} {ρ:B8->AV} {K:Act->World->Prop} {Q:Exit->Act->World->Prop}
theorem NM {w w':World} {u:Value} (h:(execOp a.eval o).run P w = .ok (.value u) w') (hk:K (a.put o.dst u) w'):o.wp P a w K Q:=by
 unfold Oper.wp;rw[h];exact hk
theorem Aly {w w':World} (h:(execOp a.eval o).run P w = .ok .skip w') (hk:K (a.put o.dst undef) w'):o.wp P a w K Q:=by
 unfold Oper.wp;rw[h];exact hk
def EO (B:Nat) (S:Nat->Prop) (w0:World) (P:Program) (o:Oper) (a:Act) (m:M) (E:ED):Prop :=
 ∀ (K:Act->World->Prop) (Q:Exit->Act->World->Prop),(∀ u m',m'.own=E.s8 m.own->DJ B S w0 m'->FX B S m m'->CV B S m' (E.valOf m.own) u->K (a.put o.dst u) m'.w)->o.wp P a m.w K Q
theorem GX (hm:DJ B S w0 m) {v:AV} {u:Value} (h:(execOp a.eval o).run P m.w = .ok (.value u) m.w) (hc:CV B S m v u):EO B S w0 P o a m (.val v) :=
 λ K Q hK=>NM h (hK u m rfl hm (FX.refl m) hc)
theorem Ui (hm:DJ B S w0 m) (hs:EI B S m ρ a.eval) {y:B8} (h:CT P num o.op (.a8 y)=true):EO B S w0 P o a m (.val (ρ y)):=by
 obtain ⟨x,hx,he⟩:=Ajh h;refine GX hm (u:=a.eval x) ?_ (hs x y he);rcases hx with hx|hx<;>simp [execOp,hx]
theorem Up (hm:DJ B S w0 m) {s z:Nat} (h:CT P num o.op (.q7 s z)=true):EO B S w0 P o a m (.oi s ⟨z,[]⟩ (λ t => .row s t z 0 0)):=by
 obtain ⟨hx,hz⟩:=Ajs h;intro K Q hK;obtain ⟨h1,h2⟩:=Ha hm s z;refine NM (u := .slice none 0 0) (w':=m.w) ?_ (hK _ ⟨e6 m s none,m.own.put s ((m.own s).new ⟨z,[]⟩),m.w⟩ rfl h1 h2 ?_)
 ·rcases hx with hx|hx<;>simp [execOp,hx,Act.eval]
 ·refine .ca (.one (.row s (m.own.e5 s) z 0 0 none 0 ?_ (by omega) (Nat.le_refl _) (λ h=>by omega) λ b hb => ?_))
  ·show _<BT.e5 _ s
   rw[OV];simp
  ·change BT.get _ s _=some b at hb
   rw[JA,if_pos ⟨rfl,rfl⟩]at hb;obtain rfl:(⟨z,[]⟩:GH)=b:=by simpa using hb
   exact ⟨rfl,.inl ⟨rfl,rfl⟩⟩
theorem vX (hm:DJ B S w0 m) (hs:EI B S m ρ a.eval) {c' a' b':B8} (h:CT P num o.op (.pick c' a' b')=true) {t:Bool} (hc:ρ c' = .bool t) :
  EO B S w0 P o a m (.val (if t then ρ a' else ρ b')):=by
 obtain ⟨c,x,y,g6,h1,h2,h3⟩:=Ajj h;have q5:=XB (hc ▸ hs c c' h1);refine GX hm (u:=if t then a.eval x else a.eval y) ?_ ?_
 ·cases t<;>simp [execOp,g6,q5,asBool]
 ·cases t
  ·exact hs y b' h3
  ·exact hs x a' h2
theorem Akz (f:BinOp) (t:TypeId) (k k':IntKind) (x y:Int) (v:AV) (h:F4 f k x k' y=some v) (w:World) : ∃ u,(binOp f t (.int k x) (.int k' y)).run P w = .ok u w/\((∃ n,v = .int k n/\u = .int k n) \/ ∃ b,v = .bool b/\u = .bool b):=by
 cases f<;>simp only[F4]at h;case shl =>
  split at h
  ·cases h
  ·rename_i hy;simp at h;subst h
   exact ⟨_,by simp [binOp,Op.shift,hy],.inl ⟨_,rfl,rfl⟩⟩
 case shr =>
  split at h
  ·cases h
  ·rename_i hy;simp at h;subst h
   exact ⟨_,by simp [binOp,Op.shift,hy],.inl ⟨_,rfl,rfl⟩⟩
 case quo =>
  split at h
  ·rename_i hy;obtain ⟨rfl,hy⟩:=hy;simp at h;subst h
   exact ⟨_,by simp [binOp,Op.intDiv,hy],.inl ⟨_,rfl,rfl⟩⟩
  ·cases h
 case rem =>
  split at h
  ·rename_i hy;obtain ⟨rfl,hy⟩:=hy;simp at h;subst h
   exact ⟨_,by simp [binOp,Op.intDiv,hy],.inl ⟨_,rfl,rfl⟩⟩
  ·cases h
 case and|or|xor|andNot =>
  all_goals
   split at h
   ·rename_i hk;subst hk;obtain rfl:=Option.some.inj h
    exact ⟨_,by simp only[binOp,ne_eq,not_true_eq_false,if_false];rfl,.inl ⟨_,rfl,rfl⟩⟩
   ·cases h
 case add|sub|mul =>
  all_goals
   split at h
   ·rename_i hk;subst hk;obtain rfl:=Option.some.inj h
    exact ⟨_,by simp [binOp,Op.intArith],.inl ⟨_,rfl,rfl⟩⟩
   ·cases h
 all_goals
  split at h
  ·rename_i hk;subst hk;obtain rfl:=Option.some.inj h
   exact ⟨_,by simp [binOp,Op.intCmp],.inr ⟨_,rfl,rfl⟩⟩
  ·cases h
theorem Aku (f:BinOp) (t:TypeId) (x y:Operand) (k k':IntKind) (n n':Int) (w:World):(eqGuard f t x y (.int k n) (.int k' n')).run P w = .ok () w:=by
 unfold eqGuard;cases f<;>simp
theorem Akv (f:BinOp) (t:TypeId) (x y:Operand) (b b':Bool) (w:World):(eqGuard f t x y (.bool b) (.bool b')).run P w = .ok () w:=by
 unfold eqGuard;cases f<;>simp
theorem Rb (hm:DJ B S w0 m) (hs:EI B S m ρ a.eval) {f:BinOp} {x' y':B8} (h:CT P num o.op (.bin f x' y')=true) {k k':IntKind} {n n':Int} {v:AV} (hx:ρ x' = .int k n) (hy:ρ y' = .int k' n') (hv:F4 f k n k' n'=some v) :
  EO B S w0 P o a m (.val v):=by
 obtain ⟨t,x,y,u,g6,h1,h2⟩:=Ye h;have ex:=J4 (hx ▸ hs x x' h1);have ey:=J4 (hy ▸ hs y y' h2);obtain ⟨r,hr,hor⟩:=Akz (P:=P) f t k k' n n' v hv m.w;refine GX hm (u:=r) ?_ ?_
 ·simp [execOp,g6,ex,ey,Aku,hr]
 ·rcases hor with ⟨q,rfl,rfl⟩|⟨q,rfl,rfl⟩
  ·exact PL _ _
  ·exact cP _
theorem Akx (t:TypeId) (b b':Bool) (hu:P.underlying t=some .bool) (w:World):(Op.equal t (.bool b) (.bool b')).run P w = .ok (b == b') w:=by
 have h : ∀ d:Nat,(Op.equalIn (d+1) t (.bool b) (.bool b')).run P w = .ok (b == b') w:=λ d=>by
  unfold Op.equalIn;rw[Sem.run_bind,run_underlying hu];rfl
 exact h 9999
theorem Ra (hm:DJ B S w0 m) (hs:EI B S m ρ a.eval) {ne:Bool} {x' y':B8} (h:CT P num o.op (.beq ne x' y')=true) {b b':Bool} (hx:ρ x' = .bool b) (hy:ρ y' = .bool b') :
  EO B S w0 P o a m (.val (.bool (if ne then !(b == b') else b == b'))):=by
 obtain ⟨t,x,y,u,g6,hu,h1,h2⟩:=Yd h;have ex:=XB (hx ▸ hs x x' h1);have ey:=XB (hy ▸ hs y y' h2);refine GX hm (u := .bool (if ne then !(b == b') else b == b')) ?_ (cP _);cases ne<;>simp [execOp,g6,ex,ey,Akv,binOp,Akx t b b' hu]
theorem yL : ∀ {fs:List Field} {k n:Nat},fieldsI P k fs n=true->k<=n
 | [],k,n,h=>by simp only[fieldsI,beq_iff_eq]at h;omega
 | f::fs,k,n,h=>by
  simp only[fieldsI,Bool.and_eq_true]at h;have:=yL h.2
  omega
theorem Ex (d:Nat) (a b:List Int) (w:World) : ∀ {fs:List Field} {k:Nat},fieldsI P k fs a.length=true->b.length=a.length ->
  (Op.eqFields (d+1) (a.map (Value.int .i64)).toArray (b.map (Value.int .i64)).toArray fs).run P w = .ok (decide (a.drop k=b.drop k)) w
 | [],k,h,hl=>by
  simp only[fieldsI,beq_iff_eq]at h;rw[List.drop_of_length_le (by omega),List.drop_of_length_le (by omega)];simp [Op.eqFields]
 | f::fs,k,h,hl=>by
  simp only[fieldsI,Bool.and_eq_true,bne_iff_ne,beq_iff_eq]at h;obtain ⟨⟨⟨h1,h2⟩,h3⟩,h4⟩:=h;have hk:=yL h4;have hp:P.plainKey f.type=true:=by unfold Program.plainKey;split at h3<;>simp_all
  obtain ⟨kd,hu⟩ : ∃ kd,P.underlying f.type=some (.int kd):=by split at h3<;>simp_all
  have e1:(a.map (Value.int .i64)).toArray[f.offset]? = some (.int .i64 (a[k]'(by omega))):=by rw[h2];simp [zE (show k<a.length by omega)]
  have e2:(b.map (Value.int .i64)).toArray[f.offset]? = some (.int .i64 (b[k]'(by omega))):=by rw[h2];simp [zE (show k<b.length by omega)]
  have ih:=Ex d a b w h4 hl;have hd:(a.drop k=b.drop k)↔(a[k]'(by omega)=b[k]'(by omega)/\a.drop (k+1)=b.drop (k+1)):=by
   rw[List.drop_eq_getElem_cons (show k<a.length by omega),List.drop_eq_getElem_cons (show k<b.length by omega),List.cons.injEq]
  simp only[Op.eqFields,ne_eq,h1,not_false_eq_true,if_true,Sem.run_bind,run_part_plain w hp e1,run_part_plain w hp e2,Result.andThen_ok,run_equalIn_int w d f.type .i64 kd _ _ hu,Sem.run_ite];by_cases hab:a[k]'(by omega)=b[k]'(by omega)
  ·simp [hab,ih,hd]
  ·simp [hab,hd]
theorem nU : ∀ {cs:List AV} {a:List Int} {vs:List Value},K5 cs=some a->CL B S m cs vs->vs=a.map (Value.int .i64)
 | [],a,vs,h,hc=>by
  simp only[K5,Option.some.injEq]at h;subst h;have:=hc.1
  exact List.eq_nil_of_length_eq_zero (by simpa using this.symm)
 | c::r,a,vs,h,hc=>by
  cases vs with
  | nil=>have:=hc.1;simp at this
  | cons v vs =>
   cases c with
   | int k n =>
    cases k<;>simp only[K5]at h<;>first|cases h|skip
    cases hr:K5 r with
    | none=>rw[hr]at h;cases h
    | some b =>
     rw[hr]at h;simp only[Option.map_some,Option.some.injEq]at h;subst h;have h0:=J4 (.ca (.one (hc.2 0 _ v rfl rfl)));have ih:=nU (vs:=vs) hr ⟨by have:=hc.1;simpa using this,λ j c v h1 h2=>hc.2 (j+1) c v h1 h2⟩;rw[h0,ih];rfl
   | _=>simp only[K5]at h;cases h
theorem Qv (hm:DJ B S w0 m) (hs:EI B S m ρ a.eval) {ne:Bool} {n:Nat} {x' y':B8} (h:CT P num o.op (.ke ne n x' y')=true) {cs ds:List AV} (hx:ρ x' = .agg cs) (hy:ρ y' = .agg ds) {p q:List Int} (hp:K5 cs=some p) (hq:K5 ds=some q) (hn:p.length=n/\q.length=n) :
  EO B S w0 P o a m (.val (.bool (if ne then !(decide (p=q)) else decide (p=q)))):=by
 obtain ⟨t,x,y,u,g6,hfl,h1,h2⟩:=Xy h;obtain ⟨vx,ex,cx⟩:=fY (hx ▸ hs x x' h1);obtain ⟨vy,ey,cy⟩:=fY (hy ▸ hs y y' h2);obtain rfl:=nU hp cx;obtain rfl:=nU hq cy;obtain ⟨rfl,hql⟩:=hn;simp only[nH,Bool.and_eq_true,Bool.not_eq_true']at hfl;obtain ⟨⟨hf,hst⟩,hg⟩:=hfl;obtain ⟨fs,hu,hfs⟩ : ∃ fs,P.underlying t=some (.struct fs)/\fieldsI P 0 fs.toList p.length=true:=by
  split at hf
  ·exact ⟨_,by assumption,hf⟩
  ·cases hf
 have Iw:P.fieldsOf t=fs:=by simp [Program.fieldsOf,hu]
 have hr:=run_equalIn_struct m.w 9999 t (p.map (Value.int .i64)).toArray (q.map (Value.int .i64)).toArray (by rw[Iw];exact hu) hst;rw[Iw,Ex 9998 p q m.w hfs hql,List.drop_zero,List.drop_zero]at hr;refine GX hm (u := .bool (if ne then !(decide (p=q)) else decide (p=q))) ?_ (cP _);cases ne
 ·simp [execOp,g6,ex,ey,run_eqGuard_agg m.w _ t x y _ _ hg,run_eql_struct,hr]
 ·simp [execOp,g6,ex,ey,run_eqGuard_agg m.w _ t x y _ _ hg,run_neq_struct,hr]
theorem Uo (hm:DJ B S w0 m) (hs:EI B S m ρ a.eval) {f:UnOp} {x':B8} (h:CT P num o.op (.un f x')=true) {v:AV} (hv:WR f (ρ x')=some v):EO B S w0 P o a m (.val v):=by
 obtain ⟨t,x,g6,h1⟩:=Ajq h;have hx:=hs x x' h1;unfold WR at hv;split at hv
 ·rename_i k n hk
  have ex:=J4 (hk ▸ hx);split at hv
  ·obtain rfl:_=v:=by simpa using hv
   exact GX hm (by simp [execOp,g6,ex,Op.unary,Op.intArith]) (PL _ _)
  ·obtain rfl:_=v:=by simpa using hv
   exact GX hm (by simp only[execOp,g6,ex,Op.unary];rfl) (PL _ _)
  ·cases hv
 ·rename_i b hk
  have ex:=XB (hk ▸ hx);split at hv
  ·obtain rfl:_=v:=by simpa using hv
   exact GX hm (by simp [execOp,g6,ex,Op.unary]) (cP _)
  ·cases hv
 ·cases hv
theorem Qb (hm:DJ B S w0 m) (hs:EI B S m ρ a.eval) {k:IntKind} {x':B8} (h:CT P num o.op (.conv k x')=true) {k':IntKind} {n:Int} (hx:ρ x' = .int k' n):EO B S w0 P o a m (.val (.int k (k.wrap n))):=by
 obtain ⟨s,d,x,ds,g6,qz,hd,h1⟩:=Xc h;have ex:=J4 (hx ▸ hs x x' h1);refine GX hm (u := .int k (k.wrap n)) ?_ (PL _ _);simp [execOp,g6,ex,convert,run_underlying qz,run_underlying hd,Conv.intToInt]
theorem Aky (t:TypeId) (a:Option Addr) (n c:Nat) {e:TypeId} (hu:P.underlying t=some (.slice e)) (w:World):(Op.equal t (.slice a n c) (.slice none 0 0)).run P w = .ok a.isNone w:=by
 have h : ∀ d:Nat,(Op.equalIn (d+1) t (.slice a n c) (.slice none 0 0)).run P w = .ok a.isNone w:=λ d=>by
  unfold Op.equalIn;rw[Sem.run_bind,run_underlying hu];cases a<;>rfl
 exact h 9999
theorem Akw (f:BinOp) (t:TypeId) (x y:Operand) (a b:Option Addr) (n c n' c':Nat) (w:World):(eqGuard f t x y (.slice a n c) (.slice b n' c')).run P w = .ok () w:=by
 unfold eqGuard;cases f<;>simp
theorem gM (hm:DJ B S w0 m) (hs:EI B S m ρ a.eval) {ne:Bool} {x':B8} (h:CT P num o.op (.jz ne x')=true) {b:Bool} (hx : ∀ v,CV B S m (ρ x') v -> ∃ ad n c,v = .slice ad n c/\ad.isNone=b) :
  EO B S w0 P o a m (.val (.bool (xor b ne))):=by
 obtain ⟨t,x,u,e,g6,hu,h1⟩:=Ajc h;obtain ⟨ad,n,c,ex,hb⟩:=hx _ (hs x x' h1);refine GX hm (u := .bool (xor b ne)) ?_ (cP _);have e0:a.eval (.const (.slice none 0 0)) = .slice none 0 0:=rfl;cases ne<;>cases b<;>simp [execOp,g6,ex,e0,Akw,binOp,Aky t ad n c hu,hb]
theorem UU {v:Value} (h:CV B S m .nil v):v = .slice none 0 0:=by
 cases h with
 | ca h=>cases h with
  | one h=>cases h with
   | rd h=>cases h
   | nil=>rfl
theorem vB {b:Bool} {v:Value} (h:CV B S m (.z9 (.bool b)) v) : ∃ ad c,v = .slice ad 0 c/\ad.isNone=b:=by
 cases h with
 | ca h=>cases h with
  | one h=>cases h with
   | rd h=>cases h with
    | emp b a cap h=>exact ⟨a,cap,rfl,h⟩
theorem Sc {l:Bool} {e:List AV} {es:List (List AV)} {v:Value} (h:CV B S m (.sl l (e::es)) v) : ∃ ad n c,v = .slice ad n c/\ad.isNone=false:=by
 cases h with
 | ca h=>cases h with
  | one h=>cases h with
   | rd h=>cases h with
    | sl=>exact ⟨_,_,_,rfl,rfl⟩
theorem Sb {s t z off n:Nat} {v:Value} (h:CV B S m (.row s t z off (n+1)) v) : ∃ ad n c,v = .slice ad n c/\ad.isNone=false:=by
 cases h with
 | ca h=>cases h with
  | one h=>cases h with
   | rd h=>cases h
   | row _ _ _ _ _ a cap _ _ _ ha=>exact ⟨_,_,_,rfl,by have:=ha (by omega);cases a<;>simp_all⟩
theorem Uk (hm:DJ B S w0 m) (hs:EI B S m ρ a.eval) {tb:List Nat} {x':B8} (h:CT P num o.op (.cr tb x')=true) {k:IntKind} {n:Int} {v:Nat} (hx:ρ x' = .int k n) (h0:0<=n) (hv:tb[n.toNat]? = some v) :
  EO B S w0 P o a m (.val (.int .u8 v)):=by
 obtain ⟨t,s,i,g6,hu,htb,h1⟩:=Ajl h;have ex:=J4 (hx ▸ hs i x' h1);have hb : ∃ b:UInt8,s[n.toNat]? = some b/\b.toNat=v:=by
  rw[<-htb,List.getElem?_map]at hv;cases hg:s.data.toList[n.toNat]? with
  | none=>simp [hg]at hv
  | some b =>
   simp only[hg,Option.map_some,Option.some.injEq]at hv;refine ⟨b,?_,hv⟩;have l6:n.toNat<s.size:=by
    have:=(zS hg).1
    simpa using this
   rw[getElem?_pos s n.toNat l6];congr 1;have:=(zS hg).2
   rw[<-this];rfl
 obtain ⟨b,jt,o4⟩:=hb;refine GX hm (u := .int .u8 v) ?_ (PL _ _);have e0:a.eval (.const (.string s)) = .string s:=rfl;simp [execOp,g6,ex,e0,Instr.index,asIntOf,run_underlying hu,h0,jt,o4]
theorem Zi {x c:AV} {v:Value} (h:CV B S m x v) (hc:KB x=some c):CC B S m c v:=by
 cases h with
 | any=>simp [KB]at hc
 | tup=>simp [KB]at hc
 | ca h=>cases h with
  | agg=>simp [KB]at hc
  | fn=>simp [KB]at hc
  | one h =>
   have:c=x:=by
    cases h with
    | rd h=>cases h<;>simp [KB]at hc<;>exact hc.symm
    | _=>simp [KB]at hc;exact hc.symm
   subst this;exact h
theorem wU (hs:EI B S m ρ a.eval) : ∀ {xs:List Operand} {m8:List B8} {cs:List AV},G2 xs m8=true->m8.mapM (λ x=>KB (ρ x))=some cs->CL B S m cs (xs.map a.eval)
 | [],[],cs,_,h=>by
  simp at h;subst h;exact ⟨rfl,λ j c v h=>by simp at h⟩
 | x::r,y::l,cs,h,hc=>by
  simp only[G2,Bool.and_eq_true]at h;simp only[List.mapM_cons,Option.bind_eq_bind,Option.pure_def]at hc;cases h1:KB (ρ y) with
  | none=>simp [h1]at hc
  | some c =>
   cases h2:l.mapM (λ x=>KB (ρ x)) with
   | none=>simp [h1,h2]at hc
   | some az =>
    simp [h1,h2]at hc;subst hc;have ih:=wU hs h.2 h2;refine ⟨by simpa using ih.1,λ j c' v hj hv => ?_⟩;cases j with
    | zero =>
     simp at hj hv;subst hj hv;exact Zi (hs x y h.1) h1
    | succ j=>exact ih.2 j c' v (by simpa using hj) (by simpa using hv)
 | [],_::_,_,h,_=>by simp [G2]at h
 | _::_,[],_,h,_=>by simp [G2]at h
theorem Uf (hm:DJ B S w0 m) (hs:EI B S m ρ a.eval) {p:Bool} {f:Nat} {m8:List B8} (h:CT P num o.op (.jc p f m8)=true) {cs:List AV} (hc:m8.mapM (λ x=>KB (ρ x))=some cs) :
  EO B S w0 P o a m (.val (.fn p f (num f) cs)):=by
 obtain ⟨first,xs,g6,rfl,he⟩:=Ajg h;have hcl:=wU hs he hc;have dp:(xs.map a.eval)=(xs.toList.map a.eval).toArray:=by cases xs;simp
 refine GX hm (u := .func (.func (num f)) #[] (xs.toList.map a.eval).toArray) ?_ (.ca (.fn p f (num f) cs _ hcl));simp [execOp,g6,Instr.makeFunc,dp]
end
end Go.Eng

namespace Go.Eng
open Go.RowKit
section
variable {B:Nat} {S:Nat->Prop} {w0:World} {m:M}
variable {P:Program} {num:Nat->Nat} {o:Oper} {a:Act} {ρ:B8->AV}
theorem ZF {cs:List AV} {vs:List Value} (h:CL B S m cs vs) {j:Nat} {c:AV} (hj:cs[j]? = some c) : ∃ u,vs[j]? = some u/\CC B S m c u:=by
 have l6:j<cs.length:=(zS hj).1;have lu:j<vs.length:=by rw[<-h.1];exact l6
 exact ⟨vs[j],zE lu,h.2 j c _ hj (zE lu)⟩
theorem Zg {s:Nat} {b:GH} {w':World} {g:Nat}:CV B S ⟨e6 m s (some g),m.own.put s ((m.own s).new b),w'⟩ (.ptr s (m.own.e5 s) 0 0) (.pointer (some ⟨g,0,none⟩)):=by
 refine .ca (.one (.ptr s (m.own.e5 s) 0 0 ⟨g,0,none⟩ ?_ λ b' g7=>⟨g,?_,by simp⟩))
 ·show _<BT.e5 _ s
  rw[OV];simp
 ·simp [e6]
theorem vW (hm:DJ B S w0 m) (s:Nat) (cs:List AV) (vs:Array Value) (e:TypeId) (hc:CL B S m cs vs.toList) (h:(execOp a.eval o).run P m.w = .ok (.value (.pointer (some ⟨m.w.heap.size,0,none⟩))) (m.w.alloc (.cells vs e))) :
  EO B S w0 P o a m (.new s ⟨cs.length,[cs]⟩ (λ t => .ptr s t 0 0)):=by
 intro K Q hK;obtain ⟨h1,h2⟩:=aV hm s ⟨cs.length,[cs]⟩ vs e (by simp) (λ i az hi j c hj=>by
  cases i with
  | zero =>
   obtain rfl:cs=az:=by simpa using hi
   obtain ⟨u,hu,hcc⟩:=ZF hc hj;exact ⟨u,by simpa using hu,hcc⟩
  | succ i=>simp at hi)
 exact NM h (hK _ ⟨e6 m s (some m.w.heap.size),m.own.put s ((m.own s).new ⟨cs.length,[cs]⟩),m.w.alloc (.cells vs e)⟩ rfl h1 h2 Zg)
theorem Rc (hm:DJ B S w0 m) (hs:EI B S m ρ a.eval) {s:Nat} {x':B8} (h:CT P num o.op (.box s x')=true) {cs:List AV} (hc:cellsOf (ρ x')=some cs) :
  EO B S w0 P o a m (.new s ⟨cs.length,[cs]⟩ (λ t => .ptr s t 0 0)):=by
 obtain ⟨t,x,g6,h1⟩:=Yf h;exact vW hm s cs (a.eval x).cells t (gA (hs x x' h1) hc) (by simp [execOp,g6,Instr.box,newVar,newRow])
theorem Qw (hm:DJ B S w0 m) {s:Nat} {z:List AV} (h:CT P num o.op (.alloc s z)=true):EO B S w0 P o a m (.new s ⟨z.length,[z]⟩ (λ t => .ptr s t 0 0)):=by
 obtain ⟨t,g6,h1⟩:=Xz h;obtain ⟨i,v,hi,hz,he⟩:=rN h1;exact vW hm s z v.cells t (ZL he) (by simp [execOp,g6,Instr.alloc,zeroValue,typeInfo,hi,hz,newVar,newRow])
theorem nL (off:Nat) : ∀ (vs:List Value) (k:Nat) (cells:Array Value),off+k+vs.length<=cells.size ->
  ((vs.zipIdx k).foldl (λ cs (x:Value × Nat)=>cs.setIfInBounds (off+x.2) x.1) cells).toList=cells.toList.take (off+k)++vs++cells.toList.drop (off+k+vs.length)
 | [],k,cells,_=>by simp
 | v::r,k,cells,h=>by
  simp only[List.length_cons]at h;rw[List.zipIdx_cons,List.foldl_cons,nL off r (k+1) _ (by simp;omega)];simp only[Array.toList_setIfInBounds,List.length_cons];apply List.ext_getElem?;intro q;have e1:(cells.toList.set (off+k) v).drop (off+(k+1)+r.length)=cells.toList.drop (off+k+(r.length+1)):=by
   rw[show off+(k+1)+r.length=off+k+(r.length+1) by omega];exact List.drop_set_of_lt (by omega)
  have e2:(cells.toList.set (off+k) v).take (off+(k+1))=cells.toList.take (off+k)++[v]:=by
   rw[show off+(k+1)=off+k+1 by omega,List.take_succ_eq_append_getElem (by simp;omega)];simp [List.take_set_of_le]
  rw[e1,e2];simp
theorem nD (place:Nat->Option (Nat × Nat)) (hs:EI B S m ρ a.eval) : ∀ (ps:List (Nat × Operand)) (ax:List (Nat × Nat × B8)) (cs az:List AV) (vs:Array Value),X6 place ps ax=true->CL B S m cs vs.toList ->
  fill cs (ax.map λ p=>(p.1,p.2.1,ρ p.2.2))=some az -> ∃ w6,Instr.fill place vs (ps.map λ p=>(p.1,a.eval p.2))=some w6/\CL B S m az w6.toList
 | [],[],cs,az,vs,_,hc,hf=>by
  simp [fill]at hf;subst hf;exact ⟨vs,rfl,hc⟩
 | (i,x)::r,(off,n,y)::l,cs,az,vs,hp,hc,hf=>by
  simp only[X6,Bool.and_eq_true,beq_iff_eq]at hp;obtain ⟨⟨As,tf⟩,hp3⟩:=hp;simp only[List.map_cons,fill]at hf;cases hcell:cellsOf (ρ y) with
  | none=>simp [hcell]at hf
  | some us =>
   simp only[hcell]at hf;split at hf
   ·rename_i hn
    obtain ⟨hn1,yd⟩:=hn;have z0:=gA (hs x y tf) hcell;have o7:(a.eval x).cells.size=n:=by rw[<-hn1,z0.1];simp
    have rj:off+(a.eval x).cells.size<=vs.size:=by rw[o7];have:=hc.1;simp at this;omega
    have lg:=nL off (a.eval x).cells.toList 0 vs (by simpa using rj);have wj:Instr.fill place vs (((i,x)::r).map λ p=>(p.1,a.eval p.2))=Instr.fill place ((a.eval x).cells.zipIdx.foldl (λ cs (c,j)=>cs.setIfInBounds (off+j) c) vs) (r.map λ p=>(p.1,a.eval p.2)):=by
     simp only[List.map_cons,Instr.fill,As];rw[if_neg (by simp;omega)]
    rw[wj];refine nD place hs r l (splice cs off us) az _ hp3 ?_ hf;have hz:((a.eval x).cells.zipIdx.foldl (λ cs (c,j)=>cs.setIfInBounds (off+j) c) vs).toList=vs.toList.take off++(a.eval x).cells.toList++vs.toList.drop (off+(a.eval x).cells.toList.length):=by
     rw[<-Array.foldl_toList];simpa using lg
    rw[hz];unfold splice;refine ⟨?_,λ j c v hj hv => ?_⟩
    ·have:=hc.1;have:=z0.1;simp at *;omega
    ·have hl1:=hc.1
     have hl2:=z0.1;simp only[Array.length_toList]at hl1 hl2;rw[List.getElem?_append]at hj hv;simp only[List.length_append,List.length_take,Array.length_toList]at hj hv;rw[List.getElem?_append]at hj hv;simp only[List.length_take,Array.length_toList]at hj hv;have dm:min off cs.length=off:=by omega
     have hm2:min off vs.size=off:=by omega
     rw[dm]at hj;rw[hm2]at hv;rw[<-hl2]at hv;split at hj
     ·rename_i h1
      rw[if_pos h1]at hv;split at hj
      ·rename_i h2
       rw[if_pos h2]at hv;rw[List.getElem?_take]at hj hv;rw[if_pos h2]at hj hv;exact hc.2 j c v hj hv
      ·rename_i h2
       rw[if_neg h2]at hv;exact z0.2 _ c v hj hv
     ·rename_i h1
      rw[if_neg h1]at hv;rw[List.getElem?_drop]at hj hv;exact hc.2 _ c v hj hv
   ·cases hf
 | [],_::_,_,_,_,hp,_,_=>by simp [X6]at hp
 | _::_,[],_,_,_,hp,_,_=>by simp [X6]at hp
theorem Rf (hm:DJ B S w0 m) (hs:EI B S m ρ a.eval) {z:List AV} {ax:List (Nat × Nat × B8)} (h:CT P num o.op (.build z ax)=true) {cs:List AV} (hf:fill z (ax.map λ p=>(p.1,p.2.1,ρ p.2.2))=some cs) :
  EO B S w0 P o a m (.val (.agg cs)):=by
 obtain ⟨t,ps,g6,h1,h2⟩:=Ww h;obtain ⟨i,v,hi,hz,he⟩:=rN h1;have key : ∃ w6,P.built t (ps.map λ p=>(p.1,a.eval p.2)).toList=some w6/\CL B S m cs w6.toList:=by
  unfold kX at h2;unfold Program.built;split at h2
  ·rename_i fs hu
   split at h2
   ·rename_i places hp
    obtain ⟨w6,h3,h4⟩:=nD _ hs ps.toList ax z cs v.cells h2 (ZL he) hf;refine ⟨w6,?_,h4⟩;simp only[hi,hu,hz,hp,Array.toList_map];exact h3
   ·cases h2
  ·rename_i n e hu
   split at h2
   ·rename_i ie Ag
    obtain ⟨w6,h3,h4⟩:=nD _ hs ps.toList ax z cs v.cells h2 (ZL he) hf;refine ⟨w6,?_,h4⟩;simp only[hi,hu,hz,Ag,Array.toList_map];exact h3
   ·cases h2
  ·cases h2
 obtain ⟨w6,h3,h4⟩:=key;refine GX hm (u := .agg w6) ?_ (.ca (by simpa using CA.agg cs w6.toList h4));simp only[execOp,g6,Sem.run_bind];rw[run_build m.w t _ w6 h3];rfl
theorem yM (size:Nat) (hs:EI B S m ρ a.eval) : ∀ (ps:List (Nat × Operand)) (ax:List B8) (k:Nat) (es:List (List AV)) (vs:Array Value),XJ k ps ax=true->ax.mapM (λ x=>cellsOf (ρ x))=some es->(∀ e∈es,e.length=size)->vs.size=(k+ax.length)*size ->
  ∃ w6,Instr.fill (λ i=>some (i*size,size)) vs (ps.map λ p=>(p.1,a.eval p.2))=some w6/\w6.size=vs.size/\(∀ q,q<k*size->w6[q]? = vs[q]?) /\ ∀ i cs,es[i]? = some cs -> ∀ j c,cs[j]? = some c -> ∃ u,w6[(k+i)*size+j]? = some u/\CC B S m c u
 | [],[],k,es,vs,_,dk,_,_=>by
  simp at dk;subst dk;exact ⟨vs,rfl,rfl,λ_ _=>rfl,λ i cs hi=>by simp at hi⟩
 | (i,x)::r,y::l,k,es,vs,he,dk,hz,hv=>by
  simp only[XJ,Bool.and_eq_true,beq_iff_eq]at he;obtain ⟨⟨rfl,h1⟩,h2⟩:=he;simp only[List.mapM_cons,Option.bind_eq_bind,Option.pure_def]at dk;cases hcell:cellsOf (ρ y) with
  | none=>simp [hcell]at dk
  | some us =>
   cases aj:l.mapM (λ x=>cellsOf (ρ x)) with
   | none=>simp [hcell,aj]at dk
   | some es' =>
    simp [hcell,aj]at dk;subst dk;have z0:=gA (hs x y h1) hcell;have Jo:us.length=size:=hz us (by simp);have o7:(a.eval x).cells.size=size:=by rw[<-Jo,z0.1];simp
    simp only[List.length_cons]at hv;have hle:i*size+size<=vs.size:=by rw[hv,show i+(l.length+1)=i+1+l.length by omega,Nat.add_mul,Nat.add_mul];omega
    have lg:=nL (i*size) (a.eval x).cells.toList 0 vs (by simp [o7];omega);generalize wo:(a.eval x).cells.zipIdx.foldl (λ cs (c,j)=>cs.setIfInBounds (i*size+j) c) vs=tz;have hz1:tz.toList=vs.toList.take (i*size)++(a.eval x).cells.toList++vs.toList.drop (i*size+size):=by
     rw[<-wo,<-Array.foldl_toList];simpa [o7] using lg
    have yh:tz.size=vs.size:=by
     have:=congrArg List.length hz1
     simp [o7]at this;omega
    obtain ⟨w6,h3,h4,h5,h6⟩:=yM size hs r l (i+1) es' tz h2 aj (λ e he=>hz e (by simp [he])) (by rw[yh,hv];congr 1;omega);refine ⟨w6,?_,h4.trans yh,λ q hq => ?_,λ i' cs m5 j c hj => ?_⟩
    ·simp only[List.map_cons,Instr.fill]
     rw[if_neg (by simp [o7];omega),wo];exact h3
    ·rw[h5 q (by rw[Nat.add_mul];omega)]
     have:tz.toList[q]? = vs.toList[q]? := by
      rw[hz1,List.append_assoc,List.getElem?_append_left (by simp;omega),List.getElem?_take,if_pos hq]
     simpa using this
    ·cases i' with
     | zero =>
      obtain rfl:us=cs:=by simpa using m5
      obtain ⟨u,hu,hcc⟩:=ZF z0 hj;have hjl:j<size:=by rw[<-Jo];exact (zS hj).1
      refine ⟨u,?_,hcc⟩;rw[Nat.add_zero,h5 _ (by rw[Nat.add_mul];omega)];have:tz.toList[i*size+j]? = some u:=by
       rw[hz1,List.append_assoc,List.getElem?_append_right (by simp;omega)];simp only[List.length_take,Array.length_toList,show min (i*size) vs.size=i*size by omega,show i*size+j-i*size=j by omega];rw[List.getElem?_append_left (by simp [o7];omega)];exact hu
      simpa using this
     | succ i' =>
      obtain ⟨u,hu,hcc⟩:=h6 i' cs (by simpa using m5) j c hj;exact ⟨u,by rw[show i+(i'+1)=i+1+i' by omega];exact hu,hcc⟩
 | [],_::_,_,_,_,he,_,_,_=>by simp [XJ]at he
 | _::_,[],_,_,_,he,_,_,_=>by simp [XJ]at he
theorem iL {s z n cap:Nat} {es:List (List AV)} {w':World} {g:Nat} {arr:Array Value} {e:TypeId} (hz:0<z) (hn:n<=cap) (hg:w'.heap[g]? = some (.cells arr e (0,0))) (hc:cap*z<=arr.size) :
  CV B S ⟨e6 m s (some g),m.own.put s ((m.own s).new ⟨z,es⟩),w'⟩ (.row s (m.own.e5 s) z 0 n) (.slice (some ⟨g,0,none⟩) n cap):=by
 refine .ca (.one (.row s (m.own.e5 s) z 0 n _ cap ?_ hz hn (λ_=>rfl) λ b' g7=>⟨?_,.inr ⟨g,arr,e,?_,by simp,hg,by simpa using hc⟩⟩))
 ·show _<BT.e5 _ s
  rw[OV];simp
 ·change BT.get _ s _=some b' at g7
  rw[JA,if_pos ⟨rfl,rfl⟩]at g7;obtain rfl:(⟨z,es⟩:GH)=b':=by simpa using g7
  rfl
 ·simp [e6]
theorem vZ (hm:DJ B S w0 m) (s z n cap:Nat) (es:List (List AV)) (vs:Array Value) (e:TypeId) (y8:0<z) (hn:n<=cap) (o7:cap*z<=vs.size) (hz : ∀ x∈es,x.length=z)
  (hc : ∀ i cs,es[i]? = some cs -> ∀ j c,cs[j]? = some c -> ∃ u,vs[i*z+j]? = some u/\CC B S m c u)
  (h:(execOp a.eval o).run P m.w = .ok (.value (.slice (some ⟨m.w.heap.size,0,none⟩) n cap)) (m.w.alloc (.cells vs e))) :
  EO B S w0 P o a m (.new s ⟨z,es⟩ (λ t => .row s t z 0 n)):=by
 intro K Q hK;obtain ⟨h1,h2⟩:=aV hm s ⟨z,es⟩ vs e hz hc;exact NM h (hK _ ⟨e6 m s (some m.w.heap.size),m.own.put s ((m.own s).new ⟨z,es⟩),m.w.alloc (.cells vs e)⟩ rfl h1 h2 (iL y8 hn (heap_alloc_new _ _) o7))
theorem Re (hm:DJ B S w0 m) (hs:EI B S m ρ a.eval) {s a6:Nat} {ax:List B8} (h:CT P num o.op (.c4 s a6 ax)=true) {es:List (List AV)} (dk:ax.mapM (λ x=>cellsOf (ρ x))=some es) (hz : ∀ e∈es,e.length=a6) :
  EO B S w0 P o a m (.new s ⟨a6,es⟩ (λ t => .row s t a6 0 es.length)):=by
 obtain ⟨t,n,ps,e,i,g6,hu,hi,o7,h0,hn,Bf,w5,hzero⟩:=Wv h;have hlen:es.length=n:=by
  rw[hn];clear h w5 hzero hn;induction ax generalizing es with
  | nil=>simp at dk;subst dk;rfl
  | cons y l ih =>
   simp only[List.mapM_cons,Option.bind_eq_bind,Option.pure_def]at dk;cases hcell:cellsOf (ρ y) with
   | none=>simp [hcell]at dk
   | some us =>
    cases aj:l.mapM (λ x=>cellsOf (ρ x)) with
    | none=>simp [hcell,aj]at dk
    | some es' =>
     simp [hcell,aj]at dk;subst dk;simp [ih aj (λ e he=>hz e (by simp [he]))]
 obtain ⟨zc,my⟩ : ∃ zc:Array Value,(n*a6=0/\zc = #[])\/(¬ n*a6=0 /\ ∃ z,i.zero=some z/\zc=z.cells):=by
  by_cases hne:n*a6=0
  ·exact ⟨#[],.inl ⟨hne,rfl⟩⟩
  ·rcases hzero with nf|⟨z,hz1,hz2⟩
   ·simp [nf]at hne
   ·exact ⟨z.cells,.inr ⟨hne,z,hz1,rfl⟩⟩
 have wz:((Array.range (n*a6)).map (zc[· % zc.size]!)).size=n*a6:=by simp
 obtain ⟨w6,h3,h4,_,h6⟩:=yM a6 hs ps.toList ax 0 es _ w5 dk hz (by rw[wz,hn];simp);have m7:(execOp a.eval o).run P m.w = .ok (.value (.slice (some ⟨m.w.heap.size,0,none⟩) n n)) (m.w.alloc (.cells w6 e)):=by
  simp only[execOp,g6,Instr.buildSlice,Sem.run_bind,run_underlying hu,Result.andThen_ok,sizeOf,typeInfo,run_program,hi,Sem.run_pure,o7];simp only[show ¬ (n*a6>2^24) from by omega,if_false,Sem.run_bind,Sem.run_pure,Result.andThen_ok];rcases my with ⟨nf,rfl⟩|⟨nf,z,hz1,rfl⟩
  ·simp only[nf,if_true,Sem.run_bind,Sem.run_pure,Result.andThen_ok,Array.toList_map]
   rw[nf]at h3;rw[h3];rfl
  ·simp only[nf,if_false,Sem.run_bind,Sem.run_pure,Result.andThen_ok,Array.toList_map,zeroValue,typeInfo,run_program,hi,hz1]
   rw[h3];rfl
 rw[hlen];exact vZ hm s a6 n n es w6 e (Nat.pos_of_ne_zero h0) (Nat.le_refl _) (by rw[h4,wz];exact Nat.le_refl _) hz (λ i cs m5 j c hj=>by simpa using h6 i cs m5 j c hj) m7
end
end Go.Eng
