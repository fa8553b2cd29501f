/-
  The abstract machine: data without memory. AV: a value; slices that are only read are lists ('sl'), rows and boxes of the call's own are named by a site and a stamp.
  Nothing here speaks of a program; EngSound ties it to the model.
-/
import Derived.Calls
import Derived.Below
import Derived.Laws.CopyRow
import Derived.Laws.Cells
import Derived.Laws.MakeOwn
import Derived.Laws.AppendOwn
import Derived.Deep.AppendSrc
import Derived.Deep.Draws
import Derived.ArgAppend
import Derived.Laws.StructEq
import Derived.ChangeKeysEq
set_option linter.unusedSimpArgs false
set_option linter.unusedVariables false
set_option linter.unnecessarySimpa false
namespace Go.Eng
theorem zE {α : Type} {l : List α} {i : Nat} (h : i < l.length) : l[i]? = some l[i] :=
 List.getElem?_eq_getElem h
theorem zS {α : Type} {l : List α} {i : Nat} {a : α} (h : l[i]? = some a) : ∃ h : i < l.length, l[i] = a :=
 List.getElem?_eq_some_iff.1 h
theorem zM {α : Type} {l : List α} {i : Nat} {a : α} (h : l[i]? = some a) : a ∈ l :=
 List.mem_of_getElem? h
end Go.Eng
namespace Go.Eng
inductive AV where
 | int (k:IntKind) (n:Int)
 | bool (b:Bool)
 | sl (l:Bool) (es:List (List AV))
 | row (s t z off len:Nat)
 | nil
 | ptr (s t i j:Nat)
 | m8 (cs:List AV)
 | agg (cs:List AV)
 | tup (vs:List AV)
 | w7 (v:Value)
 | fn (p:Bool) (f g:Nat) (cs:List AV)
 | any
 deriving Inhabited
inductive B8 where
 | t (n:Nat)
 | c (v:AV)
 deriving Inhabited
structure GJ where
 a5:Nat
 es:List (List AV)
structure D9 where
 c8:Nat
 blk:Nat->Option GJ
def BT:=Nat->D9
def BT.emp:BT:=λ_=>⟨0,λ_=>none⟩
def BT.put (o:BT) (s:Nat) (x:D9):BT:=λ s'=>if s'=s then x else o s'
def BT.get (o:BT) (s t:Nat):Option GJ:=(o s).blk t
def BT.c8 (o:BT) (s:Nat):Nat:=(o s).c8
def D9.l8 (x:D9) (t:Nat) (b:Option GJ):D9:=⟨x.c8,λ t'=>if t'=t then b else x.blk t'⟩
def D9.new (x:D9) (b:GJ):D9:=⟨x.c8+1,λ t'=>if t'=x.c8 then some b else x.blk t'⟩
theorem BT.d6 (o:BT) (s:Nat) (x:D9):o.put s x s=x:=by simp [BT.put]
theorem BT.bm (o:BT) (s s':Nat) (x:D9) (h:s'≠s):o.put s x s'=o s':=by simp [BT.put,h]
theorem BT.ep (o:BT) (s:Nat) (x y:D9):(o.put s x).put s y=o.put s y:=by
 funext s';by_cases h:s'=s<;>simp [BT.put,h]
inductive GO where
 | a7 (x:B8)
 | o3 (s a5:Nat)
 | pick (c a b:B8)
 | bin (op:BinOp) (x y:B8)
 | beq (ne:Bool) (x y:B8)
 | un (op:UnOp) (x:B8)
 | conv (k:IntKind) (x:B8)
 | box (s:Nat) (x:B8)
 | alloc (s:Nat) (zero:List AV)
 | build (zero:List AV) (parts:List (Nat × Nat × B8))
 | b8 (s a5:Nat) (parts:List B8)
 | a6 (x:B8) (off:Nat)
 | gj (x:B8) (off n:Nat) (agg:Bool)
 | a4 (arr:Option Nat) (a5:Nat) (x i:B8)
 | idx (len a5:Nat) (agg:Bool) (x i:B8)
 | ld (agg:Bool) (n:Nat) (x:B8)
 | st (n:Nat) (x v:B8)
 | mk (s a5 bytes:Nat) (zero:List AV) (l c:B8)
 | ae (a5:Nat) (x:B8) (lo hi:Option B8)
 | ext (x:B8) (i:Nat)
 | len (x:B8)
 | mm (max:Bool) (xs:List B8)
 | app (s a5 bytes:Nat) (x y:B8)
 | ia (a5:Nat) (x y:B8)
 | call (f:Nat) (xs:List B8)
 | c5 (f:Nat) (xs:List B8)
 | jo (ne:Bool) (x:B8)
 | bn (tb:List Nat) (x:B8)
 | iu (p:Bool) (f:Nat) (xs:List B8)
 | l9 (x:B8) (xs:List B8)
 | g8 (f:Nat) (xs:List B8)
 | gf (s n:Nat) (x v:B8)
 | m5 (s f:Nat) (xs:List B8)
 | jt (ne:Bool) (n:Nat) (x y:B8)
 | y9 (s a5 bytes:Nat) (x y:B8)
 | ak (x:B8)
 | gi (s a5 bytes:Nat) (x y:B8)
 | gx (s a5 bytes:Nat) (x y:B8)
 | w3 (s f:Nat) (xs:List B8)
 | bad
 | jz (x:B8)
 deriving Inhabited
structure AI where
 dst:Option Nat
 op:GO
 guard:Option (Nat × Bool):=none
 b7:List Nat:=[]
 deriving Inhabited
inductive C4 where
 | skip
 | ops (l:List AI) (draw:Bool)
 | dr (c:C4) (ts ss:List Nat)
 | scope (c:C4)
 | seq (a b:C4)
 | cond (c:B8) (a b:C4)
 | block (id:Nat) (c:C4)
 | loop (c:C4)
 | exit (id:Nat)
 | ret
 deriving Inhabited
inductive MV where
 | tmp (t:Nat)
 | cell (t:Nat) (agg:Bool) (n:Nat)
 deriving Inhabited
structure AFn where
 s8:Nat
 body:C4
 res:List MV
 gu:Bool
abbrev Tm:=List (Nat × AV)
def c7:Tm->Nat->AV
 | [],_ => .any
 | (i,v)::r,j=>if j=i then v else c7 r j
def df:Tm->Nat->AV->Tm
 | [],j,u=>[(j,u)]
 | (i,v)::r,j,u=>if j=i then (i,u)::r else if j<i then (j,u)::(i,v)::r else (i,v)::df r j u
def q6:Tm->List Nat->Tm
 | [],_=>[]
 | (i,v)::r,l=>if l.contains i then q6 r l else (i,v)::q6 r l
theorem aP (m:Tm) (i:Nat) (v:AV) (j:Nat):c7 (df m i v) j=if j=i then v else c7 m j:=by
 induction m with
 | nil=>by_cases h:j=i<;>simp [df,c7,h]
 | cons x r ih =>
  obtain ⟨a,u⟩:=x;by_cases h:i=a
  ·subst h
   by_cases h2:j=i<;>simp [df,c7,h2]
  ·by_cases e9:i<a
   ·by_cases h2:j=i<;>simp [df,c7,h,e9,h2]
   ·by_cases h2:j=a
    ·subst h2
     have : ¬ j=i:=λ e=>h e.symm
     simp [df,c7,h,e9,this]
    ·simp [df,c7,h,e9,h2,ih]
structure St where
 tm:Tm
 own:BT
def St.ev (st:St):B8->AV
 | .t n=>c7 st.tm n
 | .c v=>v
inductive EB where
 | val (v:AV)
 | new (s:Nat) (b:GJ) (v:Nat->AV)
 | mu (s:Nat) (b:GJ) (v:Nat->AV)
 | w8 (v:AV) (own:BT)
 | l8 (s:Nat) (x:D9)
 | js (s:Nat) (x:D9) (v:AV)
def cellsOf:AV->Option (List AV)
 | .agg cs=>some cs
 | .fn _ _ _ _=>none
 | .tup _=>none
 | .any=>none
 | v=>some [v]
def MI (agg:Bool) (cs:List AV):Option AV :=
 if agg then some (.agg cs) else match cs with|[c]=>some c|_=>none
def part (cs:List AV) (off n:Nat):Option (List AV) :=
 if off+n<=cs.length then some ((cs.drop off).take n) else none
def splice (cs:List AV) (off:Nat) (vs:List AV):List AV:=cs.take off++vs++cs.drop (off+vs.length)
def fill (cells:List AV):List (Nat × Nat × AV)->Option (List AV)
 | []=>some cells
 | (off,n,v)::r=>match cellsOf v with
  | some vs=>if vs.length=n/\off+n<=cells.length then fill (splice cells off vs) r else none
  | none=>none
def F4 (op:BinOp) (k:IntKind) (a:Int) (k':IntKind) (b:Int):Option AV :=
 match op with
 | .shl=>if b<0 then none else some (.int k (k.wrap (a*2^(min b.toNat k.bits))))
 | .shr=>if b<0 then none else some (.int k (a.fdiv (2^(min b.toNat k.bits))))
 | .add=>if k=k' then some (.int k (k.wrap (a+b))) else none
 | .sub=>if k=k' then some (.int k (k.wrap (a-b))) else none
 | .mul=>if k=k' then some (.int k (k.wrap (a*b))) else none
 | .quo=>if k=k'/\b≠0 then some (.int k (k.wrap (a.tdiv b))) else none
 | .rem=>if k=k'/\b≠0 then some (.int k (a.tmod b)) else none
 | .and=>if k=k' then some (.int k (k.wrap (BitVec.ofInt k.bits a &&& BitVec.ofInt k.bits b).toNat)) else none
 | .or=>if k=k' then some (.int k (k.wrap (BitVec.ofInt k.bits a ||| BitVec.ofInt k.bits b).toNat)) else none
 | .xor=>if k=k' then some (.int k (k.wrap (BitVec.ofInt k.bits a ^^^ BitVec.ofInt k.bits b).toNat)) else none
 | .andNot=>if k=k' then some (.int k (k.wrap (BitVec.ofInt k.bits a &&& ~~~ BitVec.ofInt k.bits b).toNat)) else none
 | .eql=>if k=k' then some (.bool (a == b)) else none
 | .neq=>if k=k' then some (.bool (a != b)) else none
 | .lss=>if k=k' then some (.bool (decide (a<b))) else none
 | .leq=>if k=k' then some (.bool (decide (a<=b))) else none
 | .gtr=>if k=k' then some (.bool (decide (a>b))) else none
 | .geq=>if k=k' then some (.bool (decide (a≥b))) else none
def W3 (op:UnOp):AV->Option AV
 | .int k n=>match op with
  | .neg=>some (.int k (k.wrap (0-n)))
  | .xor=>some (.int k (k.wrap (BitVec.ofInt k.bits (if k.signed then -1 else k.max) ^^^ BitVec.ofInt k.bits n).toNat))
  | _=>none
 | .bool b=>match op with
  | .not=>some (.bool (!b))
  | _=>none
 | _=>none
def VH (max:Bool):AV->AV->Option AV
 | .int k a,.int _ b=>some (.int k (if max then (if b>a then b else a) else (if b<a then b else a)))
 | _,_=>none
def OD (max:Bool):AV->List AV->Option AV
 | v,[]=>some v
 | v,u::r=>match VH max v u with|some x=>OD max x r|none=>none
def BT.g9 (o:BT):List Nat->BT
 | []=>o
 | s::r=>λ s'=>if s'=s then ⟨0,λ_=>none⟩ else o.g9 r s'
def BT.iq (own:BT) (s t i j n:Nat):Option (List AV) :=
 match own.get s t with
 | some b=>match b.es[i]? with
  | some cs=>part cs j n
  | none=>none
 | none=>none
def BT.er (own:BT) (s t i j:Nat) (vs:List AV):Option BT :=
 match own.get s t with
 | some b=>match b.es[i]? with
  | some cs=>if j+vs.length<=cs.length then some (own.put s ((own s).l8 t (some ⟨b.a5,b.es.set i (splice cs j vs)⟩))) else none
  | none=>none
 | none=>none
def G4 (own:BT):AV->Option (List (List AV))
 | .sl _ es=>some es
 | .nil=>some []
 | .w7 (.bool _)=>some []
 | .row s t z off len=>match own.get s t with
  | some b=>if off+len<=b.es.length/\b.a5=z then some ((b.es.drop off).take len) else none
  | none=>none
 | _=>none
def lenOf:AV->Option Nat
 | .sl _ es=>some es.length
 | .nil=>some 0
 | .row _ _ _ _ len=>some len
 | _=>none
def snap (own:BT) (l:Bool):Nat->AV->Option AV
 | _,.int k n=>some (.int k n)
 | _,.bool b=>some (.bool b)
 | _,.sl l' es=>some (.sl l' es)
 | _,.nil=>some (.sl false [])
 | _,.w7 v=>some (.w7 v)
 | d+1,.row s t z off len=>match G4 own (.row s t z off len) with
  | some es=>(es.mapM (λ cs:List AV=>cs.mapM (snap own l d))).map (AV.sl l)
  | none=>none
 | _,_=>none
def F6 (own:BT) (l:Bool):AV->Option AV
 | .agg cs=>(cs.mapM (snap own l 6)).map AV.agg
 | v=>snap own l 6 v
def UG (own:BT) (l:Bool):AV->Option AV
 | .nil=>some .nil
 | v=>F6 own l v
def UH (own:BT) (l:Bool):AV->Option AV
 | .tup cs=>(cs.mapM (F6 own l)).map AV.tup
 | v=>F6 own l v
mutual
def CT:AV->Prop
 | .int _ _=>True
 | .bool _=>True
 | .w7 _=>True
 | .sl l es=>l=false/\IR es
 | .agg cs=>FG cs
 | .tup cs=>FG cs
 | _=>False
def FG:List AV->Prop
 | []=>True
 | c::r=>CT c/\FG r
def IR:List (List AV)->Prop
 | []=>True
 | c::r=>FG c/\IR r
end
def FR:Nat:=140737488355328
structure Cl where
 pure:Nat->List AV->Option AV
 bu:Nat->List AV->BT->Option (AV × BT)
 num:Nat->Nat
noncomputable def fZ (C:Cl) (f:Nat) (vs:List AV) (s:Nat) (q:D9):Option (AV × D9) :=
 open Classical in if h : ∃ p : AV × D9, ∀ o : BT, o s = q -> C.bu f vs o = some (p.1, o.put s p.2) then some h.choose else none
theorem gA {C:Cl} {f:Nat} {vs:List AV} {s:Nat} {q:D9} {p:AV × D9}:fZ C f vs s q=some p ↔ ∀ o:BT,o s=q->C.bu f vs o=some (p.1,o.put s p.2):=by
 unfold fZ;constructor
 ·intro h
  split at h
  ·rename_i hx
   obtain rfl:=Option.some.inj h;exact hx.choose_spec
  ·cases h
 ·intro h
  rw[dif_pos ⟨p,h⟩];have h1:=(⟨p,h⟩ : ∃ p:AV × D9,∀ o:BT,o s=q->C.bu f vs o=some (p.1,o.put s p.2)).choose_spec (λ_=>q) rfl;have h2:=h (λ_=>q) rfl;have h3:=Option.some.inj (h2.symm.trans h1);refine congrArg some ?_;generalize (Exists.choose _:AV × D9)=p' at h3;obtain ⟨a,b⟩:=p;obtain ⟨a',b'⟩:=p';simp only[Prod.mk.injEq]at h3;obtain ⟨h4,h5⟩:=h3;have h6:b=b':=by
   have:=congrFun h5 s
   simpa [BT.put] using this
  rw[h4,h6]
def aQ:AV->AV
 | .sl _ es => .sl false es
 | .nil => .sl false []
 | v=>v
def mq:AV->AV
 | .agg cs => .agg (cs.map aQ)
 | v=>aQ v
def dA:AV->AV
 | .sl _ es => .sl true es
 | v=>v
def jq:AV->AV
 | .agg cs => .agg (cs.map dA)
 | v=>dA v
def J7:AV->Bool
 | .int _ _=>true | .bool _=>true | .sl _ _=>true | .nil=>true
 | _=>false
def dq:AV->Bool
 | .agg cs=>cs.all J7
 | v=>J7 v
def Lb:AV->Bool
 | .int _ _=>true | .bool _=>true
 | _=>false
def aW:AV->Prop
 | .int _ _=>True
 | .bool _=>True
 | .sl _ es => ∀ e∈es,∀ c∈e,Lb c=true
 | _=>False
def aX:AV->Prop
 | .agg cs => ∀ c∈cs,aW c
 | v=>aW v
def KV:List AV->Option (List Int)
 | []=>some []
 | .int .i64 n::r=>(KV r).map (n :: ·)
 | _=>none
def KD:AV->Option AV
 | .agg _=>none
 | .fn _ _ _ _=>none
 | .tup _=>none
 | .any=>none
 | v=>some v
open Classical in
noncomputable def TU (x:Option (AV × BT)):Option (Nat × List (List AV)):=match x with
 | some (.row s t z 0 n,o)=>match o.get s t with
  | some b=>if b.es.length=n/\IR b.es then some (z,b.es) else none
  | none=>none
 | _=>none
theorem Xi {x:Option (AV × BT)} {z:Nat} {es:List (List AV)} (h:TU x=some (z,es)) : ∃ s t o b,x=some (.row s t z 0 es.length,o)/\o.get s t=some b/\b.es=es/\IR es:=by
 unfold TU at h;split at h
 ·split at h
  ·rename_i s t z' n o b hb
   split at h
   ·rename_i hc
    obtain ⟨rfl,hc⟩:=hc;simp only[Option.some.injEq,Prod.mk.injEq]at h;obtain ⟨rfl,rfl⟩:=h;exact ⟨_,_,_,_,rfl,hb,rfl,hc⟩
   ·cases h
  ·cases h
 ·cases h
open Classical in
noncomputable def c4 (C:Cl) (b7:List Nat) (ρ:B8->AV) (own:BT):GO->Option EB
 | .a7 x=>some (.val (ρ x))
 | .o3 s a5=>some (.mu s ⟨a5,[]⟩ (λ t => .row s t a5 0 0))
 | .pick c a b=>match ρ c with
  | .bool true=>some (.val (ρ a))
  | .bool false=>some (.val (ρ b))
  | _=>none
 | .bin op x y=>match ρ x,ρ y with
  | .int k a,.int k' b=>(F4 op k a k' b).map .val
  | _,_=>none
 | .beq ne x y=>match ρ x,ρ y with
  | .bool a,.bool b=>some (.val (.bool (if ne then !(a == b) else a == b)))
  | _,_=>none
 | .un op x=>(W3 op (ρ x)).map .val
 | .conv k x=>match ρ x with
  | .int _ n=>some (.val (.int k (k.wrap n)))
  | _=>none
 | .box s x=>match cellsOf (ρ x) with
  | some cs=>some (.new s ⟨cs.length,[cs]⟩ (λ t => .ptr s t 0 0))
  | none=>none
 | .alloc s zero=>some (.new s ⟨zero.length,[zero]⟩ (λ t => .ptr s t 0 0))
 | .build zero parts=>(fill zero (parts.map λ p=>(p.1,p.2.1,ρ p.2.2))).map (λ cs => .val (.agg cs))
 | .b8 s a5 parts=>match parts.mapM (λ x=>cellsOf (ρ x)) with
  | some es=>if ∀ e∈es,e.length=a5 then some (.new s ⟨a5,es⟩ (λ t => .row s t a5 0 es.length)) else none
  | none=>none
 | .a6 x off=>match ρ x with
  | .ptr s t i j=>some (.val (.ptr s t i (j+off)))
  | .m8 cs=>some (.val (.m8 (cs.drop off)))
  | _=>none
 | .gj x off n agg=>match ρ x with
  | .agg cs=>match part cs off n with
   | some ds=>(MI agg ds).map .val
   | none=>none
  | _=>none
 | .a4 arr a5 x i=>match ρ i with
  | .int _ n=>match arr,ρ x with
   | some len,.ptr s t i' j=>if 0<=n/\n<len then some (.val (.ptr s t i' (j+n.toNat*a5))) else none
   | some len,.m8 cs=>if 0<=n/\n<len then some (.val (.m8 (cs.drop (n.toNat*a5)))) else none
   | none,.row s t z off len=>if 0<=n/\n<len/\z=a5 then some (.val (.ptr s t (off+n.toNat) 0)) else none
   | none,.sl _ es=>if 0<=n then match es[n.toNat]? with
     | some cs=>if cs.length=a5 then some (.val (.m8 cs)) else none
     | none=>none
    else none
   | _,_=>none
  | _=>none
 | .idx len a5 agg x i=>match ρ i,ρ x with
  | .int _ n,.agg cs=>if 0<=n/\n<len then match part cs (n.toNat*a5) a5 with
    | some ds=>(MI agg ds).map .val
    | none=>none
   else none
  | _,_=>none
 | .ld agg n x=>match ρ x with
  | .ptr s t i j=>match (own.g9 b7).iq s t i j n with
   | some cs=>(MI agg cs).map .val
   | none=>none
  | .m8 cs=>match part cs 0 n with
   | some ds=>(MI agg ds).map .val
   | none=>none
  | _=>none
 | .st n x v=>match ρ x,cellsOf (ρ v) with
  | .ptr s t i j,some vs=>if vs.length=n then (own.er s t i j vs).map (EB.w8 (.tup [])) else none
  | _,_=>none
 | .mk s a5 bytes zero l c=>match ρ l,ρ c with
  | .int _ a,.int _ b=>if 0<=a/\a<=b/\b*bytes<=FR/\b<=9223372036854775807/\zero.length=a5 then some (.new s ⟨a5,List.replicate a.toNat zero⟩ (λ t => .row s t a5 0 a.toNat)) else none
  | _,_=>none
 | .ae a5 x lo hi=>match ρ x with
  | .sl l es =>
   let h:Option Nat:=match hi with|none=>some es.length|some o=>match ρ o with | .int _ n=>if 0<=n/\n<=es.length then some n.toNat else none|_=>none
   let a:Option Nat:=match lo with|none=>some 0|some o=>match ρ o with | .int _ n=>if 0<=n then some n.toNat else none|_=>none
   match a,h with
   | some a,some h=>if a<=h /\ ∀ e∈es,e.length=a5 then some (.val (.sl l ((es.take h).drop a))) else none
   | _,_=>none
  | .nil =>
   let h:Option Nat:=match hi with|none=>some 0|some o=>match ρ o with | .int _ n=>if n=0 then some 0 else none|_=>none
   let a:Option Nat:=match lo with|none=>some 0|some o=>match ρ o with | .int _ n=>if n=0 then some 0 else none|_=>none
   match a,h with
   | some _,some _=>some (.val .nil)
   | _,_=>none
  | .row s t z off len =>
   let h:Option Nat:=match hi with|none=>some len|some o=>match ρ o with | .int _ n=>if 0<=n/\n<=len then some n.toNat else none|_=>none
   let a:Option Nat:=match lo with|none=>some 0|some o=>match ρ o with | .int _ n=>if 0<=n then some n.toNat else none|_=>none
   match a,h with
   | some a,some h=>if a<=h/\z=a5 then some (.val (.row s t z (off+a) (h-a))) else none
   | _,_=>none
  | _=>none
 | .ext x i=>match ρ x with
  | .tup vs=>(vs[i]?).map .val
  | _=>none
 | .len x=>match lenOf (ρ x) with
  | some n=>some (.val (.int .i64 (n:Int)))
  | none=>none
 | .mm max xs=>match xs.map ρ with
  | []=>none
  | v::r=>(OD max v r).map .val
 | .app s a5 bytes x y=>match G4 own (ρ y) with
  | some ys=>if ∀ e∈ys,e.length=a5 then match ρ x with
    | .row s' t z 0 len=>match own.get s' t with
     | some b=>if b.a5=a5/\z=a5/\len<=b.es.length/\(len+ys.length)*bytes<=FR/\len+ys.length<=9223372036854775807 then
       some (.w8 (.row s' (own.c8 s') a5 0 (len+ys.length)) (own.put s' (((own s').l8 t none).new ⟨a5,b.es.take len++ys⟩)))
      else none
     | none=>none
    | .nil=>if ys.length*bytes<=FR/\ys.length<=9223372036854775807 then
       some (.w8 (.row s (own.c8 s) a5 0 ys.length) (own.put s ((own s).new ⟨a5,ys⟩))) else none
    | _=>none
   else none
  | none=>none
 | .y9 s a5 bytes x y=>match ρ y,ρ x with
  | .sl _ ys,.row s' t z 0 len=>match own.get s t with
   | some b=>if s'=s/\(∀ e∈ys,e.length=a5)/\b.a5=a5/\z=a5/\len<=b.es.length/\(len+ys.length)*bytes<=FR/\len+ys.length<=9223372036854775807 then
     some (.js s (((own s).l8 t none).new ⟨a5,b.es.take len++ys⟩) (.row s (own.c8 s) a5 0 (len+ys.length)))
    else none
   | none=>none
  | _,_=>none
 | .ia a5 x y=>match ρ x,G4 own (ρ y) with
  | .row s t z off len,some ys=>match own.get s t with
   | some b=>if b.a5=a5/\z=a5/\off+len<=b.es.length/\(∀ e∈ys,e.length=a5) then
     some (.w8 (.int .i64 (min ys.length len:Nat)) (own.put s ((own s).l8 t (some ⟨a5,b.es.take off++ys.take len++b.es.drop (off+min ys.length len)⟩))))
    else none
   | none=>none
  | _,_=>none
 | .call f xs=>match (xs.map ρ).mapM (F6 (own.g9 b7) true) with
  | some vs=>(C.pure f vs).map .val
  | none=>none
 | .c5 f xs=>(C.bu f (xs.map ρ) own).map (λ r => .w8 r.1 r.2)
 | .jo ne x=>match ρ x with
  | .nil=>some (.val (.bool (xor true ne)))
  | .w7 (.bool b)=>some (.val (.bool (xor b ne)))
  | .sl _ (_::_)=>some (.val (.bool (xor false ne)))
  | .row _ _ _ _ (_+1)=>some (.val (.bool (xor false ne)))
  | _=>none
 | .bad=>none
 | .jz x=>match ρ x with
  | .ptr s t i j=>some (.val (.ptr s t i j))
  | _=>none
 | .ak x=>match ρ x with
  | .nil=>some (.val (.int .i64 0))
  | _=>none
 | .gi s a5 bytes x y=>match ρ x,ρ y with
  | .nil,.int _ n=>if 0<n/\n*bytes<=FR/\n<=9223372036854775807 then some (.new s ⟨a5,[]⟩ (λ t => .row s t a5 0 n.toNat)) else none
  | _,_=>none
 | .w3 s f xs=>(fZ C f (xs.map ρ) s (own s)).map λ p => .js s p.2 p.1
 | .gx s a5 bytes x y=>match ρ x,ρ y with
  | .nil,.sl _ ys=>if (∀ e∈ys,e.length=a5)/\0<ys.length/\ys.length*bytes<=FR/\ys.length<=9223372036854775807 then some (.new s ⟨a5,ys⟩ (λ t => .row s t a5 0 ys.length)) else none
  | _,_=>none
 | .bn tb x=>match ρ x with
  | .int _ n=>if 0<=n then (match tb[n.toNat]? with
   | some v=>some (.val (.int .u8 v))
   | none=>none) else none
  | _=>none
 | .iu p f xs=>(xs.mapM (λ x=>KD (ρ x))).map (λ cs => .val (.fn p f (C.num f) cs))
 | .g8 f xs=>if (xs.map ρ).all dq=true then (match C.pure f ((xs.map ρ).map mq) with
   | some r=>if aX r then some (.val (jq r)) else none
   | none=>none) else none
 | .gf s n x v=>match ρ x,cellsOf (ρ v) with
  | .ptr s' t i j,some vs=>if s'=s/\vs.length=n then (own.er s t i j vs).map (λ o'=>EB.l8 s (o' s)) else none
  | _,_=>none
 | .jt ne n x y=>match ρ x,ρ y with
  | .agg cs,.agg ds=>match KV cs,KV ds with
   | some a,some b=>if a.length=n/\b.length=n then some (.val (.bool (if ne then !(decide (a=b)) else decide (a=b)))) else none
   | _,_=>none
  | _,_=>none
 | .m5 s f xs=>match (xs.map ρ).mapM (UG (own.g9 b7) true) with
  | some vs=>(TU (C.bu f vs BT.emp)).map (λ r => .new s ⟨r.1,r.2⟩ (λ t => .row s t r.1 0 r.2.length))
  | none=>none
 | .l9 x xs=>match ρ x with
  | .fn p f g cs=>if g=C.num f then (match p,cs with
   | true,[]=>(match (xs.map ρ).mapM (F6 own true) with
    | some vs=>(C.pure f vs).map .val
    | none=>none)
   | false,cs=>(C.bu f (xs.map ρ++cs) own).map (λ r => .w8 r.1 r.2)
   | _,_=>none) else none
  | _=>none
def St.dst (st:St) (d:Option Nat) (v:AV):St :=
 match d with
 | some d=>{ st with tm:=df st.tm d v }
 | none=>st
def St.app (st:St) (d:Option Nat):EB->St
 | .val v=>st.dst d v
 | .new s b v=>{ (st.dst d (v (st.own.c8 s))) with own:=st.own.put s ((st.own s).new b) }
 | .mu s b v=>{ (st.dst d (v (st.own.c8 s))) with own:=st.own.put s ((st.own s).new b) }
 | .w8 v o=>{ (st.dst d v) with own:=o }
 | .l8 s x=>{ (st.dst d (.tup [])) with own:=st.own.put s x }
 | .js s x v=>{ (st.dst d v) with own:=st.own.put s x }
def H0 (st:St):Option (Nat × Bool)->Option Bool
 | none=>some true
 | some (g,want)=>match c7 st.tm g with
  | .bool b=>some (b == want)
  | .tup []=>some false
  | _=>none
noncomputable def FO (C:Cl) (o:AI) (st:St):Option St :=
 match H0 st o.guard with
 | some true=>(c4 C o.b7 st.ev st.own o.op).map (st.app o.dst)
 | some false=>some (st.dst o.dst (.tup []))
 | none=>none
noncomputable def FS (C:Cl):List AI->St->Option St
 | [],st=>some st
 | o::r,st=>match FO C o st with
  | some e5=>FS C r e5
  | none=>none
def G6:GO->Option Nat
 | .o3 s _=>some s
 | .box s _=>some s
 | .alloc s _=>some s
 | .b8 s _ _=>some s
 | .mk s _ _ _ _ _=>some s
 | .gf s _ _ _=>some s
 | .m5 s _ _=>some s
 | .y9 s _ _ _ _=>some s
 | .gi s _ _ _ _=>some s
 | .gx s _ _ _ _=>some s
 | .w3 s _ _=>some s
 | _=>none
inductive It where
 | code (c:C4)
 | du (ts ss:List Nat)
 | blk (id:Nat)
 | lp (c:C4)
def GM (id:Nat):List It->Option (List It)
 | .blk Aw::k=>if Aw=id then some k else GM id k
 | _::k=>GM id k
 | []=>none
def BT.drop (o:BT):List Nat->BT
 | []=>o
 | s::r=>(o.drop r).put s ⟨(o s).c8,λ_=>none⟩
noncomputable def run (C:Cl):Nat->List It->St->Option St
 | 0,_,_=>none
 | _+1,[],st=>some st
 | n+1,.blk _::k,st=>run C n k st
 | n+1,.du ts ss::k,st=>run C n k ⟨q6 st.tm ts,st.own.drop ss⟩
 | n+1,.lp c::k,st=>run C n (.code c :: .lp c::k) st
 | n+1,.code c::k,st=>match c with
  | .skip=>run C n k st
  | .ops l _=>match FS C l st with
   | some e5=>run C n k e5
   | none=>none
  | .dr c ts ss=>run C n (.code c :: .du ts ss::k) st
  | .scope c=>run C n (.code c::k) st
  | .seq a b=>run C n (.code a :: .code b::k) st
  | .cond c a b=>match st.ev c with
   | .bool true=>run C n (.code a::k) st
   | .bool false=>run C n (.code b::k) st
   | _=>none
  | .block id c=>run C n (.code c :: .blk id::k) st
  | .loop c=>run C n (.code c :: .lp c::k) st
  | .exit id=>match GM id k with
   | some k'=>run C n k' st
   | none=>none
  | .ret=>some st
def EU (i:Nat):List AV->Tm
 | []=>[]
 | v::r=>(i,v)::EU (i+1) r
def MK:AV->Option AV
 | .any=>none
 | .tup _=>none
 | v=>some v
def G5 (st:St):MV->Option AV
 | .tmp t=>MK (c7 st.tm t)
 | .cell t agg n=>match c7 st.tm t with
  | .ptr s u i j=>match st.own.iq s u i j n with
   | some cs=>MI agg cs
   | none=>none
  | _=>none
def KE:List AV->AV
 | [v]=>v
 | vs => .tup vs
structure Lib where
 fn:Nat->Option AFn
 num:Nat->Nat
instance : CoeFun Lib (λ_ => Nat -> Option AFn) := ⟨Lib.fn⟩
open Classical in
noncomputable def LQ (I:List AV->Option (AV × BT)) (vs:List AV):Option AV :=
 match I vs with
 | some (r,o)=>match UH o false r with
  | some r'=>if CT r' then some r' else none
  | none=>none
 | none=>none
def Lib.gu (L:Lib) (f:Nat):Bool:=match L f with
 | some fn=>fn.gu
 | none=>false
open Classical in
noncomputable def OL (b:Bool) (I:List AV->Option (AV × BT)) (vs:List AV):Option AV:=match b,vs with
 | true,.sl _ []::vs=>match LQ I (.w7 (.bool true)::vs),LQ I (.w7 (.bool false)::vs) with
  | some r,some r'=>if r=r' then some r else none
  | _,_=>none
 | _,vs=>LQ I vs
noncomputable def GF (L:Lib):Nat->Nat->List AV->BT->Option (AV × BT)
 | 0,_,_,_=>none
 | n+1,f,args,own=>match L f with
  | none=>none
  | some fn=>if args.length=fn.s8 then
    match run ⟨λ f vs=>OL (L.gu f) (λ vs=>GF L n f vs BT.emp) vs,GF L n,L.num⟩ n [.code fn.body] ⟨EU 0 args,own⟩ with
    | some st=>match fn.res.mapM (G5 st) with
     | some vs=>some (KE vs,st.own)
     | none=>none
    | none=>none
   else none
noncomputable def K7 (L:Lib) (n f:Nat) (vs:List AV):Option AV:=OL (L.gu f) (λ vs=>GF L n f vs BT.emp) vs
noncomputable def FH (L:Lib) (n:Nat):Cl:=⟨K7 L n,GF L n,L.num⟩
theorem cJ (L:Lib) (n f:Nat) (args:List AV) (own:BT):GF L (n+1) f args own =
  match L f with
  | none=>none
  | some fn=>if args.length=fn.s8 then
    match run (FH L n) n [.code fn.body] ⟨EU 0 args,own⟩ with
    | some st=>match fn.res.mapM (G5 st) with
     | some vs=>some (KE vs,st.own)
     | none=>none
    | none=>none
   else none:=rfl
namespace C
abbrev o (d:Nat) (op:GO):AI:=⟨some d,op,none,[]⟩
abbrev n (op:GO):AI:=⟨none,op,none,[]⟩
abbrev g (d i:Nat) (b:Bool) (op:GO):AI:=⟨some d,op,some (i,b),[]⟩
abbrev m (d s:Nat):AI:=⟨some d,.a7 (.t s),none,[]⟩
abbrev k (v:Int):B8 := .c (.int .i64 v)
abbrev z:AV := .int .i64 0
abbrev q (d:Nat) (b7:List Nat) (op:GO):AI:=⟨some d,op,none,b7⟩
abbrev u (b7:List Nat) (op:GO):AI:=⟨none,op,none,b7⟩
abbrev v (d i:Nat) (b:Bool) (b7:List Nat) (op:GO):AI:=⟨some d,op,some (i,b),b7⟩
abbrev p (l:List AI):C4 := .ops l false
abbrev P (l:List AI):C4 := .ops l true
abbrev d (l:List AI) (ts:List Nat):C4 := .dr (.ops l false) ts []
abbrev e (l:List AI) (ts:List Nat):C4 := .dr (.ops l true) ts []
abbrev s (a b:C4):C4 := .seq a b
abbrev i (c:B8) (a b:C4):C4 := .cond c a b
abbrev b (id:Nat) (c:C4):C4 := .block id c
abbrev w (c:C4):C4 := .loop c
abbrev x (id:Nat):C4 := .exit id
instance (i : Nat) : OfNat B8 i := ⟨.t i⟩
end C
end Go.Eng
namespace Go.Eng
def gY:Value->AV->Bool
 | .int k n,.int k' n'=>k == k'&&n == n'
 | .bool b,.bool b'=>b == b'
 | .slice none 0 0,.nil=>true
 | .string s,.w7 (.string s')=>s.data.toList == s'.data.toList
 | _,_=>false
def U3:List Value->List AV->Bool
 | [],[]=>true
 | v::r,a::l=>gY v a&&U3 r l
 | _,_=>false
def mR:Value->AV->Bool
 | .agg cs,.agg l=>U3 cs.toList l
 | v,a=>gY v a
def DD:Operand->B8->Bool
 | .tmp t,.t n=>t == n
 | .const v,.c a=>mR v a
 | .func g,.c (.fn _ _ g' [])=>g == g'
 | _,_=>false
def G2:List Operand->List B8->Bool
 | [],[]=>true
 | v::r,a::l=>DD v a&&G2 r l
 | _,_=>false
def T9:Option Operand->Option B8->Bool
 | none,none=>true
 | some x,some y=>DD x y
 | _,_=>false
section
variable (P:Program)
def XF (t:TypeId):Option Bool :=
 match P.underlying t with
 | some (.struct _)=>some true
 | some (.array _ _)=>some true
 | some _=>some false
 | none=>none
def KF (t:TypeId) (n:Nat):Bool:=match P.info? t with|some i=>i.size == n|none=>false
def XJ (t:TypeId) (n:Nat):Bool:=match P.info? t with|some i=>i.bytes == n|none=>false
def Y6 (t:TypeId) (l:List AV):Bool:=match P.info? t with|some i=>(match i.zero with|some z=>U3 z.cells.toList l|none=>false)|none=>false
def KG (t:TypeId) (f:TypeId->Bool):Bool:=match P.underlying t with|some (.slice e)=>f e|_=>false
def zD (t:TypeId) (i off n:Nat):Bool:=match P.underlying t with
 | some (.struct fs)=>(match fs[i]? with|some f=>f.offset == off&&KF P f.type n&&n != 0|none=>false)
 | _=>false
def zG (t:TypeId) (i:Nat) (agg:Bool):Bool:=match P.underlying t with
 | some (.struct fs)=>(match fs[i]? with|some f=>XF P f.type == some agg|none=>false)
 | _=>false
def YJ (place:Nat->Option (Nat × Nat)):List (Nat × Operand)->List (Nat × Nat × B8)->Bool
 | [],[]=>true
 | (i,x)::r,(off,n,y)::l=>place i == some (off,n)&&DD x y&&YJ place r l
 | _,_=>false
def lL (t:TypeId) (ps:List (Nat × Operand)) (z9:List (Nat × Nat × B8)):Bool:=match P.underlying t with
 | some (.struct fs)=>(match fs.toList.mapM (λ f=>(P.info? f.type).map λ i=>(f.offset,i.size)) with|some places=>YJ (places.toArray[·]?) ps z9|none=>false)
 | some (.array _ e)=>(match P.info? e with|some ie=>YJ (λ i=>some (i*ie.size,ie.size)) ps z9|none=>false)
 | _=>false
def XU (k:Nat):List (Nat × Operand)->List B8->Bool
 | [],[]=>true
 | (i,x)::r,y::l=>i == k&&DD x y&&XU (k+1) r l
 | _,_=>false
def fieldsI:Nat->List Field->Nat->Bool
 | k,[],n=>k == n
 | k, f :: fs, n => f.name != "_" && f.offset == k && (match P.underlying f.type with | some (.int _) => true | _ => false) && fieldsI (k + 1) fs n
def nV (t:TypeId) (n:Nat):Bool:=(match P.underlying t with|some (.struct fs)=>fieldsI P 0 fs.toList n|_=>false) && !P.stoodInHeld t && !P.eqGuardType P.depth t
def CX (num:Nat->Nat) (op:Op):GO->Bool
 | .a7 y=>match op with | .move x=>DD x y | .assign x=>DD x y|_=>false
 | .o3 _ z=>z != 0&&(match op with | .move (.const (.slice none 0 0))=>true | .assign (.const (.slice none 0 0))=>true|_=>false)
 | .pick c' a' b'=>match op with | .pick c a b=>DD c c'&&DD a a'&&DD b b'|_=>false
 | .bin ru x' y'=>match op with | .binOp op _ x y _=>op == ru&&DD x x'&&DD y y'|_=>false
 | .beq ne x' y'=>match op with | .binOp op t x y _=>(if ne then op == .neq else op == .eql)&&(match P.underlying t with|some .bool=>true|_=>false)&&DD x x'&&DD y y'|_=>false
 | .un ru x'=>match op with | .unOp op _ x=>op == ru&&DD x x'|_=>false
 | .conv k x'=>match op with | .convert s d x=>(P.underlying s).isSome&&(match P.underlying d with|some (.int k')=>k == k'|_=>false)&&DD x x'|_=>false
 | .box _ x'=>match op with | .box _ x=>DD x x'|_=>false
 | .alloc _ z=>match op with | .alloc t=>Y6 P t z|_=>false
 | .build z z9=>match op with | .build t ps=>Y6 P t z&&lL P t ps.toList z9|_=>false
 | .b8 _ a5 z9=>match op with
  | .buildSlice t n ps=>KG P t (λ e=>KF P e a5)&&a5 != 0&&n == z9.length&&decide (n*a5<=16777216)&&XU 0 ps.toList z9&&(n == 0||KG P t (λ e=>match P.info? e with|some i=>(match i.zero with|some z=>z.cells.size == a5|none=>false)|none=>false))
  | _=>false
 | .a6 x' off=>match op with
  | .fieldAddr s x f=>DD x x'&&(match P.underlying s with|some (.struct fs)=>(match fs[f]? with|some fd=>fd.offset == off&&(match P.info? fd.type with|some i=>i.size != 0|none=>false)|none=>false)|_=>false)
  | _=>false
 | .gj x' off n agg=>match op with | .field t x f=>DD x x'&&zD P t f off n&&zG P t f agg|_=>false
 | .a4 arr a5 x' i'=>match op with
  | .indexAddr t x i=>DD x x'&&DD i i'&&(match P.underlying t,arr with|some (.array len e),some eo=>len == eo&&KF P e a5&&decide (1<len)|some (.slice e),none=>KF P e a5&&a5 != 0|_,_=>false)
  | _=>false
 | .idx len a5 agg x' i'=>match op with
  | .index t x i=>DD x x'&&DD i i'&&(match P.underlying t with|some (.array eo e)=>len == eo&&KF P e a5&&XF P e == some agg|_=>false)
  | _=>false
 | .ld agg n x'=>match op with | .load t x=>DD x x'&&XF P t == some agg&&(if agg then KF P t n else n == 1)|_=>false
 | .st n x' v'=>match op with | .store t x v=>DD x x'&&DD v v'&&KF P t n|_=>false
 | .mk _ a5 bytes z l' c'=>match op with
  | .makeSlice t l c=>DD l l'&&DD c c'&&KG P t (λ e=>KF P e a5&&XJ P e bytes&&Y6 P e z)&&a5 != 0
  | _=>false
 | .ae a5 x' gq i5=>match op with
  | .slice t x lo hi none=>DD x x'&&T9 lo gq&&T9 hi i5&&KG P t (λ e=>KF P e a5)&&a5 != 0
  | _=>false
 | .ext x' i'=>match op with | .extract x i=>DD x x'&&i == i'|_=>false
 | .len x'=>match op with
  | .call ⟨.builtin .len,xs,ts⟩=>(match xs.toList,ts.toList with|[x],[t]=>DD x x'&&KG P t (λ_=>true)|_,_=>false)
  | _=>false
 | .mm max l6=>match op with
  | .call ⟨.builtin .min,xs,_⟩ => !max&&G2 xs.toList l6
  | .call ⟨.builtin .max,xs,_⟩=>max&&G2 xs.toList l6
  | _=>false
 | .app _ a5 bytes x' y'=>match op with
  | .call ⟨.builtin .append,xs,ts⟩=>(match xs.toList,ts.toList with
   | [x,y],[t,u]=>DD x x'&&DD y y'&&KG P t (λ e=>KF P e a5&&XJ P e bytes&&(match P.info? e with|some i=>(match i.zero with|some z=>z.cells.size == a5|none=>false)|none=>false))&&a5 != 0&&KG P u (λ_=>true)
   | _,_=>false)
  | _=>false
 | .y9 _ a5 bytes x' y'=>match op with
  | .call ⟨.builtin .append,xs,ts⟩=>(match xs.toList,ts.toList with
   | [x,y],[t,u]=>DD x x'&&DD y y'&&KG P t (λ e=>KF P e a5&&XJ P e bytes&&(match P.info? e with|some i=>(match i.zero with|some z=>z.cells.size == a5|none=>false)|none=>false))&&a5 != 0&&KG P u (λ_=>true)
   | _,_=>false)
  | _=>false
 | .ia a5 x' y'=>match op with
  | .call ⟨.builtin .copy,xs,ts⟩=>(match xs.toList,ts.toList with
   | [x,y],[t,u]=>DD x x'&&DD y y'&&KG P t (λ e=>KF P e a5)&&a5 != 0&&u == t
   | _,_=>false)
  | _=>false
 | .call f' l6=>match op with
  | .call ⟨.value (.func f),xs,_⟩=>f == num f'&&G2 xs.toList l6
  | _=>false
 | .c5 f' l6=>match op with
  | .call ⟨.value (.func f),xs,_⟩=>f == num f'&&G2 xs.toList l6
  | _=>false
 | .w3 _ f' l6=>match op with
  | .call ⟨.value (.func f),xs,_⟩=>f == num f'&&G2 xs.toList l6
  | _=>false
 | .jo ne x'=>match op with
  | .binOp op t x (.const (.slice none 0 0)) _=>(if ne then op == .neq else op == .eql)&&KG P t (λ_=>true)&&DD x x'
  | _=>false
 | .bad=>true
 | .jz x'=>match op with
  | .nilCheck x=>DD x x'
  | _=>false
 | .ak x'=>match op with
  | .call ⟨.builtin .cap,xs,ts⟩=>(match xs.toList,ts.toList with|[x],[t]=>DD x x'&&KG P t (λ_=>true)|_,_=>false)
  | _=>false
 | .gx _ a5 bytes x' y'=>match op with
  | .call ⟨.builtin .append,xs,ts⟩=>(match xs.toList,ts.toList with
   | [x,y],[t,u]=>DD x x'&&DD y y'&&KG P t (λ e=>KF P e a5&&XJ P e bytes&&(match P.info? e with|some i=>(match i.zero with|some z=>z.cells.size == a5|none=>false)|none=>false))&&a5 != 0&&KG P u (λ_=>true)
   | _,_=>false)
  | _=>false
 | .gi _ a5 bytes x' y'=>match op with
  | .call ⟨.builtin .append,xs,ts⟩=>(match xs.toList,ts.toList with
   | [x,y],[t,u]=>DD x x'&&DD y y'&&KG P t (λ e=>KF P e a5&&XJ P e bytes&&(match P.info? e with|some i=>(match i.zero with|some z=>z.cells.size == a5|none=>false)|none=>false))&&a5 != 0&&(match P.underlying u with|some (.int _)=>true|_=>false)
   | _,_=>false)
  | _=>false
 | .bn tb i'=>match op with
  | .index t (.const (.string s)) i=>(match P.underlying t with|some .string=>true|_=>false)&&s.data.toList.map (λ b=>b.toNat) == tb&&DD i i'
  | _=>false
 | .iu _ f' l6=>match op with
  | .makeFunc (.func f) first xs=>f == num f'&&first.toList.isEmpty&&G2 xs.toList l6
  | _=>false
 | .g8 f' l6=>match op with
  | .call ⟨.value (.func f),xs,_⟩=>f == num f'&&G2 xs.toList l6
  | _=>false
 | .jt ne n x' y'=>match op with | .binOp op t x y _=>(if ne then op == .neq else op == .eql)&&nV P t n&&DD x x'&&DD y y'|_=>false
 | .m5 _ f' l6=>match op with
  | .call ⟨.value (.func f),xs,_⟩=>f == num f'&&G2 xs.toList l6
  | _=>false
 | .gf _ n x' v'=>match op with | .store t x v=>DD x x'&&DD v v'&&KF P t n|_=>false
 | .l9 x' l6=>match op with
  | .call ⟨.value x,xs,_⟩=>DD x x'&&G2 xs.toList l6
  | _=>false
def dH (ops:Array Oper):Option (Nat × Bool)->Option (Nat × Bool)->Bool
 | none,none=>true
 | some (j,b),some (t,b')=>b == b'&&(match ops[j]? with|some o=>o.dst == some t|none=>false)
 | _,_=>false
def iZ (num:Nat->Nat) (N:Nat) (ops:Array Oper) (o:Oper) (a:AI):Bool :=
 o.dst == a.dst&&(match a.dst with|some d=>decide (d<N)|none=>true)&&dH ops o.guard a.guard&&CX P num o.op a.op
def VK (num:Nat->Nat) (N:Nat) (ops:Array Oper):List Oper->List AI->Bool
 | [],[]=>true
 | o::r,a::l=>iZ P num N ops o a&&VK num N ops r l
 | _,_=>false
def JK:GO->Bool
 | .st .. | .app .. | .ia .. | .c5 .. | .l9 .. => true
 | _=>false
def dR:GO->Bool
 | .ld .. | .call .. | .m5 .. => true
 | _=>false
def OB (a:GO):Bool:=JK a||dR a||(G6 a).isSome
def EF:B8->List Nat
 | .t n=>[n]
 | .c _=>[]
def pH:Option B8->List Nat
 | some x=>EF x
 | none=>[]
def I2:GO->List Nat
 | .a7 x=>EF x
 | .o3 _ _=>[]
 | .pick c a b=>EF c++EF a++EF b
 | .bin _ x y=>EF x++EF y
 | .beq _ x y=>EF x++EF y
 | .un _ x=>EF x
 | .conv _ x=>EF x
 | .box _ x=>EF x
 | .alloc _ _=>[]
 | .build _ ps=>ps.flatMap (λ p=>EF p.2.2)
 | .b8 _ _ ps=>ps.flatMap EF
 | .a6 x _=>EF x
 | .gj x _ _ _=>EF x
 | .a4 _ _ x i=>EF x++EF i
 | .idx _ _ _ x i=>EF x++EF i
 | .ld _ _ x=>EF x
 | .st _ x v=>EF x++EF v
 | .mk _ _ _ _ l c=>EF l++EF c
 | .ae _ x lo hi=>EF x++pH lo++pH hi
 | .ext x _=>EF x
 | .len x=>EF x
 | .mm _ xs=>xs.flatMap EF
 | .app _ _ _ x y=>EF x++EF y
 | .y9 _ _ _ x y=>EF x++EF y
 | .ia _ x y=>EF x++EF y
 | .call _ xs=>xs.flatMap EF
 | .c5 _ xs=>xs.flatMap EF
 | .jo _ x=>EF x
 | .bn _ x=>EF x
 | .iu _ _ xs=>xs.flatMap EF
 | .l9 x xs=>EF x++xs.flatMap EF
 | .g8 _ xs=>xs.flatMap EF
 | .gf _ _ x v=>EF x++EF v
 | .m5 _ _ xs=>xs.flatMap EF
 | .w3 _ _ xs=>xs.flatMap EF
 | .jt _ _ x y=>EF x++EF y
 | .bad=>[]
 | .jz x=>EF x
 | .ak x=>EF x
 | .gi _ _ _ x y=>EF x++EF y
 | .gx _ _ _ x y=>EF x++EF y
def Z5 (x:AI):List Nat:=I2 x.op++(match x.guard with|some (g,_)=>[g]|none=>[])++x.dst.toList
def LP (b:Array Nat) (i j:Nat):Bool:=(b.getD (max i j) 0).testBit (min i j)
def Ly (b:Array Nat) (x:AI) (i:Nat) (y:AI) (j:Nat):Bool :=
 i == j||LP b i j ||
  ((match y.dst with|some t => !(Z5 x).contains t|none=>true) &&
   (!JK x.op || !OB y.op) &&
   (!dR x.op||(match G6 y.op with|some s=>x.b7.contains s|none=>true)) )
def XR (ops:Array Oper) (l:List AI):Bool :=
 let b:=Region.before ops
 (l.zipIdx.all λ(x,i)=>l.zipIdx.all λ(y,j)=>Ly b x i y j&&(i == j||LP b i j||(match G6 x.op,G6 y.op with|some s,some s'=>s != s'|_,_=>true))) &&
 (ops.toList.zipIdx.all λ(o,i)=>o.after.all λ e=>decide (e.on<i)||(match e.ground with | .gcOnly _=>true|_=>false)) &&
 (!Region.departs ops||(List.range ops.size).all (λ i=>(Region.linearise .gc ops 0).contains i))
def HN (num:Nat->Nat) (N:Nat):Code->C4->Bool
 | c,.dr a _ _=>HN num N c a
 | c',.skip=>match c' with | .skip=>true | .label _=>true|_=>false
 | c',.scope a=>match c' with | .scope c=>HN num N c a|_=>false
 | c',.ops l ja=>match c' with | .region _ ops draw=>draw == ja&&VK P num N ops ops.toList l&&(!draw||XR ops l)|_=>false
 | c',.seq a' b'=>match c' with | .seq a b=>HN num N a a'&&HN num N b b'|_=>false
 | c',.cond x' a' b'=>match c' with | .cond x a b=>DD x x'&&HN num N a a'&&HN num N b b'|_=>false
 | c',.block i' a=>match c' with | .block i c=>i == i'&&HN num N c a|_=>false
 | c',.loop a=>match c' with | .loop c=>HN num N c a|_=>false
 | c',.exit i'=>match c' with | .exit i=>i == i'|_=>false
 | c',.ret=>match c' with | .ret=>true|_=>false
def QH:List ResultVar->List MV->Bool
 | [],[]=>true
 | .tmp t::r,.tmp t'::l=>t == t'&&QH r l
 | .cell a t::r,.cell a' agg n::l=>a == a'&&XF P t == some agg&&(if agg then KF P t n else n == 1)&&QH r l
 | _,_=>false
def okFn (num:Nat->Nat) (fn:Func) (a:AFn):Bool :=
 fn.params.size+fn.nfree == a.s8&&decide (a.s8<=fn.ntmps)&&QH P fn.results.toList a.res&&(match fn.body with|some c=>HN P num fn.ntmps c a.body|none=>false)
end
end Go.Eng

namespace Go.Eng
open Go.RowKit
theorem KN (b o n:Nat):(⟨b,o,none⟩:Addr).add n=⟨b,o+n,none⟩:=by
 unfold Addr.add;split<;>simp_all
inductive Rd (w:World) (R:Bool->Nat->Prop):AV->Value->Prop
 | int (k:IntKind) (n:Int):Rd w R (.int k n) (.int k n)
 | bool (b:Bool):Rd w R (.bool b) (.bool b)
 | str (s:ByteArray):Rd w R (.w7 (.string s)) (.string s)
 | dm (l:Bool) (a:Option Addr) (cap:Nat):Rd w R (.sl l []) (.slice a 0 cap)
 | emp (b:Bool) (a:Option Addr) (cap:Nat) (h:a.isNone=b):Rd w R (.w7 (.bool b)) (.slice a 0 cap)
 | sl (l:Bool) (es:List (List AV)) (b o a5 cap:Nat) (u:Nat->Nat->Value) (hne:es≠[]) (hp:0<a5) (hR:R l b) (o9:es.length<=cap) (hz : ∀ e∈es,e.length=a5)
   (hc : ∀ i e,es[i]? = some e -> ∀ j c,e[j]? = some c->w.cell? ⟨b,o+(i*a5+j),none⟩=some (u i j))
   (hr : ∀ i e,es[i]? = some e -> ∀ j c,e[j]? = some c->Rd w R c (u i j)) :
   Rd w R (.sl l es) (.slice (some ⟨b,o,none⟩) es.length cap)
theorem Rd.one {w:World} {R:Bool->Nat->Prop} {a:AV} {v:Value} (h:Rd w R a v):v.oneCell'=true:=by
 cases h<;>rfl
theorem ZL {w:World} {a:Addr} {u:Value} (h:w.cell? a=some u):a.block<w.heap.size:=by
 unfold World.cell? at h;split at h
 ·rename_i hh
  exact (Array.getElem?_eq_some_iff.1 hh).1
 ·cases h
theorem iD {es:List (List AV)} {a5:Nat} (hne:es≠[]) (hp:0<a5) (hz : ∀ e∈es,e.length=a5) : ∃ e c,es[0]? = some e/\e[0]? = some c:=by
 cases es with
 | nil=>exact absurd rfl hne
 | cons e r =>
  have:=hz e (by simp)
  cases e with
  | nil=>simp at this;omega
  | cons c q=>exact ⟨c::q,c,rfl,rfl⟩
theorem Rd.mono {w w':World} {R R':Bool->Nat->Prop} (hR : ∀ l b,b<w.heap.size->R l b->R' l b)
  (hw : ∀ l b,b<w.heap.size->R l b->w'.heap[b]? = w.heap[b]?) {a:AV} {v:Value} (h:Rd w R a v):Rd w' R' a v:=by
 induction h with
 | int k n=>exact .int k n
 | bool b=>exact .bool b
 | str s=>exact .str s
 | dm l a cap=>exact .dm l a cap
 | emp b a cap h=>exact .emp b a cap h
 | sl l es b o a5 cap u hne hp h1 o9 hz hc hr ih =>
  obtain ⟨e,c,he,hc0⟩:=iD hne hp hz;have hb:b<w.heap.size:=ZL (hc 0 e he 0 c hc0);refine .sl l es b o a5 cap u hne hp (hR l b hb h1) o9 hz (λ i e he j c hcj => ?_) ih;rw[World.cell?_of_block (w:=w) (hw l b hb h1)];exact hc i e he j c hcj
structure M where
 ν:Nat->Nat->Option Nat
 own:BT
 w:World
section
variable (B:Nat) (S:Nat->Prop)
def safe (m:M) (l:Bool) (b:Nat):Prop :=
 (S b/\b<B)\/(B<=b /\ ∀ s t,(m.own.get s t).isSome=true->m.ν s t≠some b)\/(l=true/\b<B)
inductive CC (m:M):AV->Value->Prop
 | rd {a:AV} {v:Value} (h:Rd m.w (safe B S m) a v):CC m a v
 | nil:CC m .nil (.slice none 0 0)
 | row (s t z off len:Nat) (a:Option Addr) (cap:Nat) (ht:t<m.own.c8 s) (w4:0<z) (fr:len<=cap) (ha:0<len->a.isSome=true)
   (h : ∀ b,m.own.get s t=some b->b.a5=z/\((len=0/\cap=0) \/ ∃ g arr e,m.ν s t=some g/\a=some ⟨g,off*z,none⟩/\m.w.heap[g]? = some (.cells arr e (0,0))/\(off+cap)*z<=arr.size)) :
   CC m (.row s t z off len) (.slice a len cap)
 | ptr (s t i j:Nat) (a:Addr) (ht:t<m.own.c8 s) (h : ∀ b,m.own.get s t=some b -> ∃ g,m.ν s t=some g/\a=⟨g,i*b.a5+j,none⟩):CC m (.ptr s t i j) (.pointer (some a))
 | m8 (cs:List AV) (b o:Nat) (u:Nat->Value) (l:Bool) (hR:cs≠[]->safe B S m l b) (hc : ∀ j c,cs[j]? = some c->m.w.cell? ⟨b,o+j,none⟩=some (u j)) (hr : ∀ j c,cs[j]? = some c->Rd m.w (safe B S m) c (u j)) :
   CC m (.m8 cs) (.pointer (some ⟨b,o,none⟩))
def CL (m:M) (cs:List AV) (vs:List Value):Prop:=cs.length=vs.length /\ ∀ (j:Nat) (c:AV) (v:Value),cs[j]? = some c->vs[j]? = some v->CC B S m c v
inductive CA (m:M):AV->Value->Prop
 | one {a:AV} {v:Value} (h:CC B S m a v):CA m a v
 | agg (cs:List AV) (vs:List Value) (h:CL B S m cs vs):CA m (.agg cs) (.agg vs.toArray)
 | fn (p:Bool) (f g:Nat) (cs:List AV) (vs:List Value) (h:CL B S m cs vs):CA m (.fn p f g cs) (.func (.func g) #[] vs.toArray)
inductive CV (m:M):AV->Value->Prop
 | any (v:Value):CV m .any v
 | ca {a:AV} {v:Value} (h:CA B S m a v):CV m a v
 | tup (as:List AV) (vs:List Value) (hl:as.length=vs.length) (h : ∀ (j:Nat) (c:AV) (v:Value),as[j]? = some c->vs[j]? = some v->CA B S m c v):CV m (.tup as) (.tuple vs.toArray)
def Rz (m:M) (s t:Nat) (b:GJ):Prop :=
 (∀ e∈b.es,e.length=b.a5)/\match m.ν s t with
  | none=>b.es=[]
  | some g=>B<=g /\ ∃ arr e,m.w.heap[g]? = some (.cells arr e (0,0)) /\
    ∀ i cs,b.es[i]? = some cs -> ∀ j c,cs[j]? = some c -> ∃ u,arr[i*b.a5+j]? = some u/\CC B S m c u
structure DJ (w0:World) (m:M):Prop where
 below:Below B w0 m.w
 size:B<=m.w.heap.size
 fresh : ∀ s t,m.own.c8 s<=t->m.own.get s t=none
 blk : ∀ s t b,m.own.get s t=some b->Rz B S m s t b
 inj : ∀ s t s' t' b b' g,m.own.get s t=some b->m.own.get s' t'=some b'->m.ν s t=some g->m.ν s' t'=some g->s=s'/\t=t'
structure FY (m m':M):Prop where
 size:m.w.heap.size<=m'.w.heap.size
 mb : ∀ b,b<m.w.heap.size->safe B S m true b->m'.w.heap[b]? = m.w.heap[b]?
 pj : ∀ l b,b<m.w.heap.size->safe B S m l b->safe B S m' l b
 c8 : ∀ s,m.own.c8 s<=m'.own.c8 s
 name : ∀ s t b',t<m.own.c8 s->m'.own.get s t=some b' -> ∃ b,m.own.get s t=some b/\b'.a5=b.a5/\m'.ν s t=m.ν s t /\
   ∀ g arr e,m.ν s t=some g->m.w.heap[g]? = some (.cells arr e (0,0)) -> ∃ m4,m'.w.heap[g]? = some (.cells m4 e (0,0))/\m4.size=arr.size
end
section
variable {B:Nat} {S:Nat->Prop}
theorem qG {m:M} {l:Bool} {b:Nat} (h:safe B S m l b):safe B S m true b:=by
 rcases h with h|h|⟨_,h⟩
 ·exact .inl h
 ·exact .inr (.inl h)
 ·exact .inr (.inr ⟨rfl,h⟩)
theorem FY.rd {m m':M} (h:FY B S m m') {a:AV} {v:Value} (hr:Rd m.w (safe B S m) a v):Rd m'.w (safe B S m') a v :=
 hr.mono h.pj (λ_ b hb hs=>h.mb b hb (qG hs))
theorem FY.cc {m m':M} (h:FY B S m m') {a:AV} {v:Value} (hc:CC B S m a v):CC B S m' a v:=by
 cases hc with
 | rd hr=>exact .rd (h.rd hr)
 | nil=>exact .nil
 | row s t z off len a cap ht w4 fr ha hb =>
  refine .row s t z off len a cap (Nat.lt_of_lt_of_le ht (h.c8 s)) w4 fr ha λ b' e7 => ?_
  obtain ⟨b,h1,h2,h3,h4⟩:=h.name s t b' ht e7;obtain ⟨hz,hor⟩:=hb b h1;refine ⟨h2.trans hz,?_⟩;rcases hor with h0|⟨g,arr,e,hg,dh,hh,hle⟩
  ·exact .inl h0
  ·obtain ⟨m4,Fj,hs'⟩:=h4 g arr e hg hh
   exact .inr ⟨g,m4,e,h3.trans hg,dh,Fj,hs' ▸ hle⟩
 | ptr s t i j a ht hb =>
  refine .ptr s t i j a (Nat.lt_of_lt_of_le ht (h.c8 s)) λ b' e7 => ?_
  obtain ⟨b,h1,h2,h3,_⟩:=h.name s t b' ht e7;obtain ⟨g,hg,dh⟩:=hb b h1;exact ⟨g,h3.trans hg,h2 ▸ dh⟩
 | m8 cs b o u l hR hc hr =>
  have e9:cs≠[]->b<m.w.heap.size:=λ hne=>by
   cases cs with
   | nil=>exact absurd rfl hne
   | cons c r=>exact ZL (hc 0 c rfl)
  refine .m8 cs b o u l (λ hne=>h.pj l b (e9 hne) (hR hne)) (λ j c hj => ?_) (λ j c hj=>h.rd (hr j c hj));have hne:cs≠[]:=λ e=>by subst e;simp at hj
  rw[World.cell?_of_block (w:=m.w) (h.mb b (e9 hne) (qG (hR hne)))];exact hc j c hj
theorem FY.cl {m m':M} (h:FY B S m m') {cs:List AV} {vs:List Value} (hc:CL B S m cs vs):CL B S m' cs vs :=
 ⟨hc.1,λ j c v h1 h2=>h.cc (hc.2 j c v h1 h2)⟩
theorem FY.ca {m m':M} (h:FY B S m m') {a:AV} {v:Value} (hc:CA B S m a v):CA B S m' a v:=by
 cases hc with
 | one hc=>exact .one (h.cc hc)
 | agg cs vs hc=>exact .agg cs vs (h.cl hc)
 | fn p f g cs vs hc=>exact .fn p f g cs vs (h.cl hc)
theorem FY.cv {m m':M} (h:FY B S m m') {a:AV} {v:Value} (hc:CV B S m a v):CV B S m' a v:=by
 cases hc with
 | any v=>exact .any v
 | ca hc=>exact .ca (h.ca hc)
 | tup as vs hl hc=>exact .tup as vs hl λ j c v h1 h2=>h.ca (hc j c v h1 h2)
theorem FY.refl (m:M):FY B S m m :=
 ⟨Nat.le_refl _,λ_ _ _=>rfl,λ_ _ _ h=>h,λ_=>Nat.le_refl _,λ_ _ b' _ h=>⟨b',h,rfl,rfl,λ_ arr _ _ h=>⟨arr,h,rfl⟩⟩⟩
theorem FY.trans {m m' Ra:M} (h:FY B S m m') (k:FY B S m' Ra):FY B S m Ra where
 size:=Nat.le_trans h.size k.size
 mb b hb hs:=(k.mb b (Nat.lt_of_lt_of_le hb h.size) (h.pj true b hb hs)).trans (h.mb b hb hs)
 pj l b hb hs:=k.pj l b (Nat.lt_of_lt_of_le hb h.size) (h.pj l b hb hs)
 c8 s:=Nat.le_trans (h.c8 s) (k.c8 s)
 name s t b'' ht Fp:=by
  obtain ⟨b',h1,h2,h3,h4⟩:=k.name s t b'' (Nat.lt_of_lt_of_le ht (h.c8 s)) Fp;obtain ⟨b,g1,g2,g3,g4⟩:=h.name s t b' ht h1;refine ⟨b,g1,h2.trans g2,h3.trans g3,λ g arr e hg ha => ?_⟩;obtain ⟨m4,Fj,hs'⟩:=g4 g arr e hg ha;obtain ⟨tv,Fk,Ha⟩:=h4 g m4 e (g3.trans hg) Fj;exact ⟨tv,Fk,Ha.trans hs'⟩
theorem CC.one {m:M} {a:AV} {v:Value} (h:CC B S m a v):v.oneCell'=true:=by
 cases h with
 | rd h=>exact h.one
 | _=>rfl
end
end Go.Eng

namespace Go.Eng
open Go.RowKit
section
variable {B:Nat} {S:Nat->Prop} {w0:World}
def live (m:M) (s t:Nat):Prop := ∃ b,m.own.get s t=some b
theorem DJ.ge {m:M} (h:DJ B S w0 m) {s t g:Nat} (hl:live m s t) (hg:m.ν s t=some g):B<=g /\ ∃ arr e,m.w.heap[g]? = some (.cells arr e (0,0)):=by
 obtain ⟨b,hb⟩:=hl;obtain ⟨_,h2⟩:=h.blk s t b hb;rw[hg]at h2;obtain ⟨h3,arr,e,h4,_⟩:=h2;exact ⟨h3,arr,e,h4⟩
theorem XY {m m':M} (hm:DJ B S w0 m) (hs:m.w.heap.size<=m'.w.heap.size)
  (hk : ∀ b,b<m.w.heap.size->(∀ s t,live m s t->m.ν s t≠some b)->m'.w.heap[b]? = m.w.heap[b]?) (qo : ∀ s,m.own.c8 s<=m'.own.c8 s)
  (ve : ∀ s t b',t<m.own.c8 s->m'.own.get s t=some b' -> ∃ b,m.own.get s t=some b/\b'.a5=b.a5/\m'.ν s t=m.ν s t /\
   ∀ g arr e,m.ν s t=some g->m.w.heap[g]? = some (.cells arr e (0,0)) -> ∃ m4,m'.w.heap[g]? = some (.cells m4 e (0,0))/\m4.size=arr.size)
  (ek : ∀ s t g,live m' s t->m'.ν s t=some g->g<m.w.heap.size -> ∃ s0 t0,live m s0 t0/\m.ν s0 t0=some g):FY B S m m':=by
 have mh : ∀ b,safe B S m true b -> ∀ s t,live m s t->m.ν s t≠some b:=by
  intro b hb s t hl hg;have fp:=(hm.ge hl hg).1;rcases hb with ⟨_,h⟩|⟨_,h⟩|⟨_,h⟩
  ·omega
  ·obtain ⟨b',e7⟩:=hl
   exact h s t (by simp [e7]) hg
  ·omega
 refine ⟨hs,λ b hb lj=>hk b hb (mh b lj),λ l b hb lj => ?_,qo,ve⟩;rcases lj with h|⟨h,hn⟩|h
 ·exact .inl h
 ·refine .inr (.inl ⟨h,λ s t hl hg => ?_⟩)
  obtain ⟨b',e7⟩:=Option.isSome_iff_exists.1 hl;obtain ⟨s0,t0,⟨b0,oc⟩,qy⟩:=ek s t b ⟨b',e7⟩ hg hb;exact hn s0 t0 (by simp [oc]) qy
 ·exact .inr (.inr h)
theorem grow {m:M} (hm:DJ B S w0 m) {w':World} (hb:Below m.w.heap.size m.w w') :
  DJ B S w0 ⟨m.ν,m.own,w'⟩/\FY B S m ⟨m.ν,m.own,w'⟩:=by
 have he:FY B S m ⟨m.ν,m.own,w'⟩:=by
  refine XY hm hb.size (λ b e7 _=>hb.block b e7) (λ_=>Nat.le_refl _) (λ s t b' _ e7=>⟨b',e7,rfl,rfl,λ g arr e hg ha=>⟨arr,?_,rfl⟩⟩) (λ s t g hl hg _=>⟨s,t,hl,hg⟩);have:g<m.w.heap.size:=(Array.getElem?_eq_some_iff.1 ha).1;exact (hb.block g this).trans ha
 refine ⟨⟨hm.below.trans (hb.mono hm.size),Nat.le_trans hm.size hb.size,hm.fresh,λ s t b hg => ?_,hm.inj⟩,he⟩;obtain ⟨h1,h2⟩:=hm.blk s t b hg;refine ⟨h1,?_⟩;show match m.ν s t with|none=>_|some g=>_
 cases hν:m.ν s t with
 | none=>rw[hν]at h2;exact h2
 | some g =>
  rw[hν]at h2;obtain ⟨h3,arr,e,h4,h5⟩:=h2;refine ⟨h3,arr,e,?_,λ i cs hi j c hj => ?_⟩
  ·exact (hb.block g (Array.getElem?_eq_some_iff.1 h4).1).trans h4
  ·obtain ⟨u,hu,hcc⟩:=h5 i cs hi j c hj
   exact ⟨u,hu,he.cc hcc⟩
theorem JB (o:BT) (s s' t':Nat) (b:GJ):(o.put s ((o s).new b)).get s' t'=if s'=s/\t'=o.c8 s then some b else o.get s' t':=by
 unfold BT.get BT.put D9.new BT.c8;by_cases h:s'=s
 ·subst h
  by_cases h2:t'=(o s').c8<;>simp [h2]
 ·simp [h]
theorem O1 (o:BT) (s s':Nat) (b:GJ):(o.put s ((o s).new b)).c8 s'=if s'=s then o.c8 s+1 else o.c8 s':=by
 unfold BT.c8 BT.put D9.new;by_cases h:s'=s<;>simp [h]
theorem cZ (o:BT) (s t s' t':Nat) (b:Option GJ):(o.put s ((o s).l8 t b)).get s' t'=if s'=s/\t'=t then b else o.get s' t':=by
 unfold BT.get BT.put D9.l8;by_cases h:s'=s
 ·subst h
  by_cases h2:t'=t<;>simp [h2]
 ·simp [h]
theorem vG (o:BT) (s t s':Nat) (b:Option GJ):(o.put s ((o s).l8 t b)).c8 s'=o.c8 s':=by
 unfold BT.c8 BT.put D9.l8;by_cases h:s'=s<;>simp [h]
def c9 (m:M) (s:Nat) (g:Option Nat):Nat->Nat->Option Nat:=λ s' t'=>if s'=s/\t'=m.own.c8 s then g else m.ν s' t'
theorem iX {m:M} (hm:DJ B S w0 m) (s:Nat) : ¬ live m s (m.own.c8 s):=λ⟨b,hb⟩=>by
 rw[hm.fresh s _ (Nat.le_refl _)]at hb;cases hb
theorem bM {m:M} (hm:DJ B S w0 m) (s:Nat) (b:GJ) (arr:Array Value) (e:TypeId) (hz : ∀ x∈b.es,x.length=b.a5)
  (hc : ∀ i cs,b.es[i]? = some cs -> ∀ j c,cs[j]? = some c -> ∃ u,arr[i*b.a5+j]? = some u/\CC B S m c u) :
  DJ B S w0 ⟨c9 m s (some m.w.heap.size),m.own.put s ((m.own s).new b),m.w.alloc (.cells arr e)⟩ /\
  FY B S m ⟨c9 m s (some m.w.heap.size),m.own.put s ((m.own s).new b),m.w.alloc (.cells arr e)⟩:=by
 have m9:(m.w.alloc (.cells arr e)).heap.size=m.w.heap.size+1:=by simp
 have hν : ∀ s' t',live m s' t'->c9 m s (some m.w.heap.size) s' t'=m.ν s' t':=λ s' t' hl=>by
  unfold c9;rw[if_neg];rintro ⟨rfl,rfl⟩;exact iX hm _ hl
 have he:FY B S m ⟨c9 m s (some m.w.heap.size),m.own.put s ((m.own s).new b),m.w.alloc (.cells arr e)⟩:=by
  refine XY hm (by rw[m9];omega) (λ k hk _=>Below.heap_alloc _ _ _ hk) (λ s' => ?_) (λ s' t' b' ht e7 => ?_) (λ s' t' g hl hg e9 => ?_)
  ·rw[O1];split
   ·rename_i h;subst h;omega
   ·exact Nat.le_refl _
  ·rw[JB]at e7
   rw[if_neg (by rintro ⟨rfl,rfl⟩;omega)]at e7;refine ⟨b',e7,rfl,hν s' t' ⟨b',e7⟩,λ g ar e' hg ha=>⟨ar,?_,rfl⟩⟩;exact (Below.heap_alloc _ _ _ (Array.getElem?_eq_some_iff.1 ha).1).trans ha
  ·obtain ⟨b',e7⟩:=hl
   have m7:=e7;rw[JB]at e7;by_cases h:s'=s/\t'=m.own.c8 s
   ·simp only[c9,if_pos h,Option.some.injEq]at hg
    omega
   ·rw[if_neg h]at e7
    exact ⟨s',t',⟨b',e7⟩,by rw[<-hν s' t' ⟨b',e7⟩];exact hg⟩
 refine ⟨⟨hm.below.alloc hm.size _,by rw[m9];have:=hm.size;omega,λ s' t' ht => ?_,λ s' t' b' e7 => ?_,λ s1 t1 s2 t2 b1 b2 g h1 h2 g1 g2 => ?_⟩,he⟩
 ·rw[O1]at ht
  rw[JB,if_neg]
  ·refine hm.fresh s' t' ?_
   split at ht
   ·rename_i h;subst h;omega
   ·exact ht
  ·rintro ⟨rfl,rfl⟩
   simp at ht;omega
 ·rw[JB]at e7
  by_cases h:s'=s/\t'=m.own.c8 s
  ·rw[if_pos h]at e7
   obtain rfl:b=b':=by simpa using e7
   refine ⟨hz,?_⟩;show match c9 m s (some m.w.heap.size) s' t' with|none=>_|some g=>_
   rw[show c9 m s (some m.w.heap.size) s' t'=some m.w.heap.size by simp [c9,h]];refine ⟨hm.size,arr,e,heap_alloc_new _ _,λ i cs hi j c hj => ?_⟩;obtain ⟨u,hu,hcc⟩:=hc i cs hi j c hj;exact ⟨u,hu,he.cc hcc⟩
  ·rw[if_neg h]at e7
   obtain ⟨h1,h2⟩:=hm.blk s' t' b' e7;refine ⟨h1,?_⟩;show match c9 m s (some m.w.heap.size) s' t' with|none=>_|some g=>_
   rw[hν s' t' ⟨b',e7⟩];cases hv:m.ν s' t' with
   | none=>rw[hv]at h2;exact h2
   | some g =>
    rw[hv]at h2;obtain ⟨h3,ar,e',h4,h5⟩:=h2;refine ⟨h3,ar,e',(Below.heap_alloc _ _ _ (Array.getElem?_eq_some_iff.1 h4).1).trans h4,λ i cs hi j c hj => ?_⟩;obtain ⟨u,hu,hcc⟩:=h5 i cs hi j c hj;exact ⟨u,hu,he.cc hcc⟩
 ·rw[JB]at h1 h2
  have lt : ∀ s' t' b',m.own.get s' t'=some b'->c9 m s (some m.w.heap.size) s' t'=some g->g<m.w.heap.size:=λ s' t' b' hb hg=>by
   rw[hν s' t' ⟨b',hb⟩]at hg;obtain ⟨_,ar,e',h4⟩:=hm.ge ⟨b',hb⟩ hg;exact (Array.getElem?_eq_some_iff.1 h4).1
  have at_ : ∀ s' t',s'=s/\t'=m.own.c8 s->c9 m s (some m.w.heap.size) s' t'=some g->g=m.w.heap.size:=λ s' t' h hg=>by
   simp only[c9,if_pos h,Option.some.injEq]at hg;exact hg.symm
  by_cases p1:s1=s/\t1=m.own.c8 s<;>by_cases p2:s2=s/\t2=m.own.c8 s
  ·exact ⟨p1.1.trans p2.1.symm,p1.2.trans p2.2.symm⟩
  ·rw[if_neg p2]at h2
   have:=lt s2 t2 b2 h2 g2
   have:=at_ s1 t1 p1 g1
   omega
  ·rw[if_neg p1]at h1
   have:=lt s1 t1 b1 h1 g1
   have:=at_ s2 t2 p2 g2
   omega
  ·rw[if_neg p1]at h1
   rw[if_neg p2]at h2;exact hm.inj s1 t1 s2 t2 b1 b2 g h1 h2 (by rw[<-hν s1 t1 ⟨b1,h1⟩];exact g1) (by rw[<-hν s2 t2 ⟨b2,h2⟩];exact g2)
theorem Ov {m:M} (hm:DJ B S w0 m) (s a5:Nat) :
  DJ B S w0 ⟨c9 m s none,m.own.put s ((m.own s).new ⟨a5,[]⟩),m.w⟩/\FY B S m ⟨c9 m s none,m.own.put s ((m.own s).new ⟨a5,[]⟩),m.w⟩:=by
 have hν : ∀ s' t',live m s' t'->c9 m s none s' t'=m.ν s' t':=λ s' t' hl=>by
  unfold c9;rw[if_neg];rintro ⟨rfl,rfl⟩;exact iX hm _ hl
 have he:FY B S m ⟨c9 m s none,m.own.put s ((m.own s).new ⟨a5,[]⟩),m.w⟩:=by
  refine XY hm (Nat.le_refl _) (λ k hk _=>rfl) (λ s' => ?_) (λ s' t' b' ht e7 => ?_) (λ s' t' g hl hg e9 => ?_)
  ·rw[O1];split
   ·rename_i h;subst h;omega
   ·exact Nat.le_refl _
  ·rw[JB]at e7
   rw[if_neg (by rintro ⟨rfl,rfl⟩;omega)]at e7;exact ⟨b',e7,rfl,hν s' t' ⟨b',e7⟩,λ g ar e' hg ha=>⟨ar,ha,rfl⟩⟩
  ·obtain ⟨b',e7⟩:=hl
   rw[JB]at e7;by_cases h:s'=s/\t'=m.own.c8 s
   ·simp [c9,if_pos h]at hg
   ·rw[if_neg h]at e7
    exact ⟨s',t',⟨b',e7⟩,by rw[<-hν s' t' ⟨b',e7⟩];exact hg⟩
 refine ⟨⟨hm.below,hm.size,λ s' t' ht => ?_,λ s' t' b' e7 => ?_,λ s1 t1 s2 t2 b1 b2 g h1 h2 g1 g2 => ?_⟩,he⟩
 ·rw[O1]at ht
  rw[JB,if_neg]
  ·refine hm.fresh s' t' ?_
   split at ht
   ·rename_i h;subst h;omega
   ·exact ht
  ·rintro ⟨rfl,rfl⟩
   simp at ht;omega
 ·rw[JB]at e7
  by_cases h:s'=s/\t'=m.own.c8 s
  ·rw[if_pos h]at e7
   obtain rfl:(⟨a5,[]⟩:GJ)=b':=by simpa using e7
   refine ⟨by simp,?_⟩;show match c9 m s none s' t' with|none=>_|some g=>_
   rw[show c9 m s none s' t'=none by simp [c9,h]]
  ·rw[if_neg h]at e7
   obtain ⟨h1,h2⟩:=hm.blk s' t' b' e7;refine ⟨h1,?_⟩;show match c9 m s none s' t' with|none=>_|some g=>_
   rw[hν s' t' ⟨b',e7⟩];cases hv:m.ν s' t' with
   | none=>rw[hv]at h2;exact h2
   | some g =>
    rw[hv]at h2;obtain ⟨h3,ar,e',h4,h5⟩:=h2;refine ⟨h3,ar,e',h4,λ i cs hi j c hj => ?_⟩;obtain ⟨u,hu,hcc⟩:=h5 i cs hi j c hj;exact ⟨u,hu,he.cc hcc⟩
 ·rw[JB]at h1 h2
  by_cases p1:s1=s/\t1=m.own.c8 s
  ·simp [c9,if_pos p1]at g1
  ·by_cases p2:s2=s/\t2=m.own.c8 s
   ·simp [c9,if_pos p2]at g2
   ·rw[if_neg p1]at h1
    rw[if_neg p2]at h2;exact hm.inj s1 t1 s2 t2 b1 b2 g h1 h2 (by rw[<-hν s1 t1 ⟨b1,h1⟩];exact g1) (by rw[<-hν s2 t2 ⟨b2,h2⟩];exact g2)
theorem Oo {m:M} (hm:DJ B S w0 m) (s t:Nat) (b b':GJ) (hb:m.own.get s t=some b) (g:Nat) (hg:m.ν s t=some g) (arr m4:Array Value) (e:TypeId)
  (ha:m.w.heap[g]? = some (.cells arr e (0,0))) (hz':b'.a5=b.a5) (hz : ∀ x∈b'.es,x.length=b'.a5) (m9:m4.size=arr.size)
  (hc : ∀ i cs,b'.es[i]? = some cs -> ∀ j c,cs[j]? = some c -> ∃ u,m4[i*b'.a5+j]? = some u/\CC B S m c u) (w':World) (cq:Below B w0 w') (ou:w'.heap.size=m.w.heap.size)
  (hk : ∀ k,k≠g->w'.heap[k]? = m.w.heap[k]?) (Qc:w'.heap[g]? = some (.cells m4 e (0,0))) :
  DJ B S w0 ⟨m.ν,m.own.put s ((m.own s).l8 t (some b')),w'⟩/\FY B S m ⟨m.ν,m.own.put s ((m.own s).l8 t (some b')),w'⟩:=by
 have e9:t<m.own.c8 s:=by
  rcases Nat.lt_or_ge t (m.own.c8 s) with h|h
  ·exact h
  ·rw[hm.fresh s t h]at hb;cases hb
 have he:FY B S m ⟨m.ν,m.own.put s ((m.own s).l8 t (some b')),w'⟩:=by
  refine XY hm (by rw[ou];exact Nat.le_refl _) (λ k bz hn=>hk k (λ e=>hn s t ⟨b,hb⟩ (e ▸ hg))) (λ s'=>by rw[vG];exact Nat.le_refl _) (λ s' t' b2 ht m7 => ?_) (λ s' t' g' hl x7 _ => ?_)
  ·rw[cZ]at m7
   by_cases h:s'=s/\t'=t
   ·obtain ⟨rfl,rfl⟩:=h
    rw[if_pos ⟨rfl,rfl⟩]at m7;obtain rfl:b'=b2:=by simpa using m7
    refine ⟨b,hb,hz',rfl,λ g2 ar e' dw na => ?_⟩;obtain rfl:g=g2:=by rw[hg]at dw;simpa using dw
    rw[ha]at na;obtain ⟨rfl,rfl⟩:arr=ar/\e=e':=by simpa using na
    exact ⟨m4,Qc,m9⟩
   ·rw[if_neg h]at m7
    refine ⟨b2,m7,rfl,rfl,λ g2 ar e' dw na=>⟨ar,?_,rfl⟩⟩;rw[<-na];exact hk g2 (λ e2=>h (by
     subst e2;exact hm.inj s' t' s t b2 b g2 m7 hb dw hg))
  ·obtain ⟨b2,m7⟩:=hl
   rw[cZ]at m7;by_cases h:s'=s/\t'=t
   ·obtain ⟨rfl,rfl⟩:=h
    exact ⟨s',t',⟨b,hb⟩,x7⟩
   ·rw[if_neg h]at m7
    exact ⟨s',t',⟨b2,m7⟩,x7⟩
 refine ⟨⟨cq,by rw[ou];exact hm.size,λ s' t' ht => ?_,λ s' t' b2 m7 => ?_,λ s1 t1 s2 t2 b1 b2 g1 h1 h2 e1 e2 => ?_⟩,he⟩
 ·rw[vG]at ht
  rw[cZ,if_neg (by rintro ⟨rfl,rfl⟩;omega)];exact hm.fresh s' t' ht
 ·rw[cZ]at m7
  by_cases h:s'=s/\t'=t
  ·obtain ⟨rfl,rfl⟩:=h
   rw[if_pos ⟨rfl,rfl⟩]at m7;obtain rfl:b'=b2:=by simpa using m7
   refine ⟨hz,?_⟩;show match m.ν s' t' with|none=>_|some g=>_
   rw[hg];refine ⟨(hm.ge ⟨b,hb⟩ hg).1,m4,e,Qc,λ i cs hi j c hj => ?_⟩;obtain ⟨u,hu,hcc⟩:=hc i cs hi j c hj;exact ⟨u,hu,he.cc hcc⟩
  ·rw[if_neg h]at m7
   obtain ⟨h1,h2⟩:=hm.blk s' t' b2 m7;refine ⟨h1,?_⟩;show match m.ν s' t' with|none=>_|some g=>_
   cases hv:m.ν s' t' with
   | none=>rw[hv]at h2;exact h2
   | some g2 =>
    rw[hv]at h2;obtain ⟨h3,ar,e',h4,h5⟩:=h2;refine ⟨h3,ar,e',?_,λ i cs hi j c hj => ?_⟩
    ·rw[<-h4]
     exact hk g2 (λ e2=>h (by
      subst e2;exact hm.inj s' t' s t b2 b g2 m7 hb hv hg))
    ·obtain ⟨u,hu,hcc⟩:=h5 i cs hi j c hj
     exact ⟨u,hu,he.cc hcc⟩
 ·have old : ∀ s' t' b2,(m.own.put s ((m.own s).l8 t (some b'))).get s' t'=some b2 -> ∃ b3,m.own.get s' t'=some b3:=λ s' t' b2 h=>by
   rw[cZ]at h;by_cases h':s'=s/\t'=t
   ·obtain ⟨rfl,rfl⟩:=h';exact ⟨b,hb⟩
   ·rw[if_neg h']at h;exact ⟨b2,h⟩
  obtain ⟨c1,k1⟩:=old s1 t1 b1 h1;obtain ⟨c2,k2⟩:=old s2 t2 b2 h2;exact hm.inj s1 t1 s2 t2 c1 c2 g1 k1 k2 e1 e2
theorem X0 (o:BT) (s t s' t':Nat) (b:GJ):(o.put s (((o s).l8 t none).new b)).get s' t'=if s'=s/\t'=o.c8 s then some b else if s'=s/\t'=t then none else o.get s' t':=by
 unfold BT.get BT.put D9.new D9.l8 BT.c8;by_cases h:s'=s
 ·subst h
  by_cases h2:t'=(o s').c8<;>by_cases h3:t'=t<;>simp [h2,h3]
 ·simp [h]
theorem gN (o:BT) (s t s':Nat) (b:GJ):(o.put s (((o s).l8 t none).new b)).c8 s'=if s'=s then o.c8 s+1 else o.c8 s':=by
 unfold BT.c8 BT.put D9.new D9.l8;by_cases h:s'=s<;>simp [h]
theorem pA {m:M} (hm:DJ B S w0 m) (s t:Nat) (b b':GJ) (hb:m.own.get s t=some b) (z0:Option Nat) (w':World) (cq:Below B w0 w') (m9:m.w.heap.size<=w'.heap.size)
  (hk : ∀ k,k<m.w.heap.size->m.ν s t≠some k->w'.heap[k]? = m.w.heap[k]?) (hz : ∀ x∈b'.es,x.length=b'.a5)
  (hnone:z0=none->b'.es=[])
  (lk : ∀ g,z0=some g->B<=g/\(m.w.heap.size<=g\/m.ν s t=some g) /\ ∃ arr e,w'.heap[g]? = some (.cells arr e (0,0)) /\
   ∀ i cs,b'.es[i]? = some cs -> ∀ j c,cs[j]? = some c -> ∃ u,arr[i*b'.a5+j]? = some u/\CC B S m c u) :
  DJ B S w0 ⟨c9 m s z0,m.own.put s (((m.own s).l8 t none).new b'),w'⟩/\FY B S m ⟨c9 m s z0,m.own.put s (((m.own s).l8 t none).new b'),w'⟩:=by
 have e9:t<m.own.c8 s:=by
  rcases Nat.lt_or_ge t (m.own.c8 s) with h|h
  ·exact h
  ·rw[hm.fresh s t h]at hb;cases hb
 have hν : ∀ s' t',live m s' t'->c9 m s z0 s' t'=m.ν s' t':=λ s' t' hl=>by
  unfold c9;rw[if_neg];rintro ⟨rfl,rfl⟩;exact iX hm _ hl
 have he:FY B S m ⟨c9 m s z0,m.own.put s (((m.own s).l8 t none).new b'),w'⟩:=by
  refine XY hm m9 (λ k bz hn=>hk k bz (hn s t ⟨b,hb⟩)) (λ s' => ?_) (λ s' t' b2 ht m7 => ?_) (λ s' t' g' hl x7 kz => ?_)
  ·rw[gN];split
   ·rename_i h;subst h;omega
   ·exact Nat.le_refl _
  ·rw[X0]at m7
   rw[if_neg (by rintro ⟨rfl,rfl⟩;omega)]at m7;by_cases h:s'=s/\t'=t
   ·rw[if_pos h]at m7;cases m7
   ·rw[if_neg h]at m7
    refine ⟨b2,m7,rfl,hν s' t' ⟨b2,m7⟩,λ g2 ar e' dw na=>⟨ar,?_,rfl⟩⟩;rw[<-na];exact hk g2 (Array.getElem?_eq_some_iff.1 na).1 (λ e2=>h (hm.inj s' t' s t b2 b g2 m7 hb dw e2))
  ·obtain ⟨b2,m7⟩:=hl
   rw[X0]at m7;by_cases h0:s'=s/\t'=m.own.c8 s
   ·simp only[c9,if_pos h0]at x7
    obtain ⟨_,h2,_⟩:=lk g' x7;rcases h2 with h2|h2
    ·omega
    ·exact ⟨s,t,⟨b,hb⟩,h2⟩
   ·rw[if_neg h0]at m7
    by_cases h:s'=s/\t'=t
    ·rw[if_pos h]at m7;cases m7
    ·rw[if_neg h]at m7
     exact ⟨s',t',⟨b2,m7⟩,by rw[<-hν s' t' ⟨b2,m7⟩];exact x7⟩
 refine ⟨⟨cq,Nat.le_trans hm.size m9,λ s' t' ht => ?_,λ s' t' b2 m7 => ?_,λ s1 t1 s2 t2 b1 b2 g1 h1 h2 e1 e2 => ?_⟩,he⟩
 ·rw[gN]at ht
  have gn:m.own.c8 s'<=t' /\ ¬ (s'=s/\t'=m.own.c8 s):=by
   by_cases h:s'=s
   ·subst h
    simp at ht;exact ⟨by omega,by omega⟩
   ·simp [h]at ht
    exact ⟨ht,λ h'=>h h'.1⟩
  rw[X0,if_neg gn.2];split
  ·rfl
  ·exact hm.fresh s' t' gn.1
 ·rw[X0]at m7
  by_cases h0:s'=s/\t'=m.own.c8 s
  ·rw[if_pos h0]at m7
   obtain rfl:b'=b2:=by simpa using m7
   refine ⟨hz,?_⟩;show match c9 m s z0 s' t' with|none=>_|some g=>_
   rw[show c9 m s z0 s' t'=z0 by simp [c9,h0]];cases z0 with
   | none=>exact hnone rfl
   | some g =>
    obtain ⟨h1,_,arr,e,h4,h5⟩:=lk g rfl;refine ⟨h1,arr,e,h4,λ i cs hi j c hj => ?_⟩;obtain ⟨u,hu,hcc⟩:=h5 i cs hi j c hj;exact ⟨u,hu,he.cc hcc⟩
  ·rw[if_neg h0]at m7
   by_cases h:s'=s/\t'=t
   ·rw[if_pos h]at m7;cases m7
   ·rw[if_neg h]at m7
    obtain ⟨h1,h2⟩:=hm.blk s' t' b2 m7;refine ⟨h1,?_⟩;show match c9 m s z0 s' t' with|none=>_|some g=>_
    rw[hν s' t' ⟨b2,m7⟩];cases hv:m.ν s' t' with
    | none=>rw[hv]at h2;exact h2
    | some g2 =>
     rw[hv]at h2;obtain ⟨h3,ar,e',h4,h5⟩:=h2;refine ⟨h3,ar,e',?_,λ i cs hi j c hj => ?_⟩
     ·rw[<-h4]
      exact hk g2 (Array.getElem?_eq_some_iff.1 h4).1 (λ e2=>h (hm.inj s' t' s t b2 b g2 m7 hb hv e2))
     ·obtain ⟨u,hu,hcc⟩:=h5 i cs hi j c hj
      exact ⟨u,hu,he.cc hcc⟩
 ·rw[X0]at h1 h2
  have old : ∀ s' t' b2,(if s'=s/\t'=t then none else m.own.get s' t')=some b2->m.own.get s' t'=some b2 /\ ¬ (s'=s/\t'=t):=λ s' t' b2 h=>by
   by_cases h':s'=s/\t'=t
   ·rw[if_pos h']at h;cases h
   ·rw[if_neg h']at h;exact ⟨h,h'⟩
  have fi : ∀ s' t' b2,m.own.get s' t'=some b2 -> ¬ (s'=s/\t'=t)->c9 m s z0 s' t'=some g1->z0=some g1->False:=λ s' t' b2 m7 hne e1 e2=>by
   rw[hν s' t' ⟨b2,m7⟩]at e1;obtain ⟨_,h2,_⟩:=lk g1 e2;obtain ⟨_,ar,e',h4⟩:=hm.ge ⟨b2,m7⟩ e1;have:=(Array.getElem?_eq_some_iff.1 h4).1;rcases h2 with h2|h2
   ·omega
   ·exact hne (hm.inj s' t' s t b2 b g1 m7 hb e1 h2)
  have at_ : ∀ s' t',s'=s/\t'=m.own.c8 s->c9 m s z0 s' t'=some g1->z0=some g1:=λ s' t' h hg=>by simpa [c9,if_pos h] using hg
  by_cases p1:s1=s/\t1=m.own.c8 s<;>by_cases p2:s2=s/\t2=m.own.c8 s
  ·exact ⟨p1.1.trans p2.1.symm,p1.2.trans p2.2.symm⟩
  ·rw[if_neg p2]at h2
   obtain ⟨k2,n2⟩:=old s2 t2 b2 h2;exact (fi s2 t2 b2 k2 n2 e2 (at_ s1 t1 p1 e1)).elim
  ·rw[if_neg p1]at h1
   obtain ⟨k1,n1⟩:=old s1 t1 b1 h1;exact (fi s1 t1 b1 k1 n1 e1 (at_ s2 t2 p2 e2)).elim
  ·rw[if_neg p1]at h1
   rw[if_neg p2]at h2;obtain ⟨k1,n1⟩:=old s1 t1 b1 h1;obtain ⟨k2,n2⟩:=old s2 t2 b2 h2;exact hm.inj s1 t1 s2 t2 b1 b2 g1 k1 k2 (by rw[<-hν s1 t1 ⟨b1,k1⟩];exact e1) (by rw[<-hν s2 t2 ⟨b2,k2⟩];exact e2)
theorem Jn (o:BT) (l:List Nat) (s t:Nat):(o.drop l).get s t=if s∈l then none else o.get s t:=by
 induction l with
 | nil=>simp [BT.drop]
 | cons x r ih =>
  unfold BT.get at *;by_cases h:s=x
  ·subst h;simp [BT.drop,BT.put]
  ·simp only[BT.drop,BT.put,if_neg h,List.mem_cons]
   rw[ih];by_cases h2:s∈r<;>simp [h,h2]
theorem vF (o:BT) (l:List Nat) (s:Nat):(o.drop l).c8 s=o.c8 s:=by
 induction l with
 | nil=>simp [BT.drop]
 | cons x r ih =>
  unfold BT.c8 at *;by_cases h:s=x
  ·subst h;simp [BT.drop,BT.put]
  ·simp [BT.drop,BT.put,h,ih]
theorem Yh {m:M} (hm:DJ B S w0 m) (l:List Nat):DJ B S w0 ⟨m.ν,m.own.drop l,m.w⟩/\FY B S m ⟨m.ν,m.own.drop l,m.w⟩:=by
 have old : ∀ s t b,(m.own.drop l).get s t=some b->m.own.get s t=some b:=λ s t b h=>by
  rw[Jn]at h;split at h
  ·cases h
  ·exact h
 have he:FY B S m ⟨m.ν,m.own.drop l,m.w⟩:=by
  refine XY hm (Nat.le_refl _) (λ_ _ _=>rfl) (λ s=>by rw[vF];exact Nat.le_refl _) (λ s t b' _ e7=>⟨b',old s t b' e7,rfl,rfl,λ_ ar _ _ ha=>⟨ar,ha,rfl⟩⟩) (λ s t g hl hg _ => ?_);obtain ⟨b,hb⟩:=hl;exact ⟨s,t,⟨b,old s t b hb⟩,hg⟩
 refine ⟨⟨hm.below,hm.size,λ s t ht => ?_,λ s t b hb => ?_,λ s1 t1 s2 t2 b1 b2 g h1 h2=>hm.inj s1 t1 s2 t2 b1 b2 g (old _ _ _ h1) (old _ _ _ h2)⟩,he⟩
 ·rw[vF]at ht
  rw[Jn];split
  ·rfl
  ·exact hm.fresh s t ht
 ·obtain ⟨h1,h2⟩:=hm.blk s t b (old s t b hb)
  refine ⟨h1,?_⟩;show match m.ν s t with|none=>_|some g=>_
  cases hv:m.ν s t with
  | none=>rw[hv]at h2;exact h2
  | some g =>
   rw[hv]at h2;obtain ⟨h3,ar,e',h4,h5⟩:=h2;refine ⟨h3,ar,e',h4,λ i cs hi j c hj => ?_⟩;obtain ⟨u,hu,hcc⟩:=h5 i cs hi j c hj;exact ⟨u,hu,he.cc hcc⟩
end
end Go.Eng

namespace Go.Eng
section
variable {P:Program} {num:Nat->Nat} {op:Op}
theorem AjI {y:B8} (h:CX P num op (.a7 y)=true) : ∃ x,(op = .move x\/op = .assign x)/\DD x y=true:=by
 cases op with
 | move x=>exact ⟨x,.inl rfl,h⟩
 | assign x=>exact ⟨x,.inr rfl,h⟩
 | _=>exact Bool.noConfusion h
theorem AjT {s z:Nat} (h:CX P num op (.o3 s z)=true):(op = .move (.const (.slice none 0 0))\/op = .assign (.const (.slice none 0 0)))/\z≠0:=by
 simp only[CX,Bool.and_eq_true,bne_iff_ne]at h;refine ⟨?_,h.1⟩;have h2:=h.2;split at h2<;>simp_all
theorem AjK {c' a' b':B8} (h:CX P num op (.pick c' a' b')=true) : ∃ c a b,op = .pick c a b/\DD c c'=true/\DD a a'=true/\DD b b'=true:=by
 cases op with
 | pick c a b=>simp only[CX,Bool.and_eq_true]at h;exact ⟨c,a,b,rfl,h.1.1,h.1.2,h.2⟩
 | _=>exact Bool.noConfusion h
theorem Ajp {f:BinOp} {x' y':B8} (h:CX P num op (.bin f x' y')=true) : ∃ t x y u,op = .binOp f t x y u/\DD x x'=true/\DD y y'=true:=by
 cases op with
 | binOp f' t x y u =>
  simp only[CX,Bool.and_eq_true,beq_iff_eq]at h;exact ⟨t,x,y,u,by rw[h.1.1],h.1.2,h.2⟩
 | _=>exact Bool.noConfusion h
theorem Ajo {ne:Bool} {x' y':B8} (h:CX P num op (.beq ne x' y')=true) : ∃ t x y u,op = .binOp (if ne then .neq else .eql) t x y u/\P.underlying t=some .bool/\DD x x'=true/\DD y y'=true:=by
 cases op with
 | binOp f' t x y u =>
  simp only[CX,Bool.and_eq_true]at h;obtain ⟨⟨⟨h1,h2⟩,h3⟩,h4⟩:=h;refine ⟨t,x,y,u,?_,?_,h3,h4⟩
  ·cases ne<;>simp_all
  ·split at h2<;>simp_all
 | _=>exact Bool.noConfusion h
theorem AjR {f:UnOp} {x':B8} (h:CX P num op (.un f x')=true) : ∃ t x,op = .unOp f t x/\DD x x'=true:=by
 cases op with
 | unOp f' t x =>
  simp only[CX,Bool.and_eq_true,beq_iff_eq]at h;exact ⟨t,x,by rw[h.1],h.2⟩
 | _=>exact Bool.noConfusion h
theorem Ajy {k:IntKind} {x':B8} (h:CX P num op (.conv k x')=true) : ∃ s d x ds,op = .convert s d x/\P.underlying s=some ds/\P.underlying d=some (.int k)/\DD x x'=true:=by
 cases op with
 | convert s d x =>
  simp only[CX,Bool.and_eq_true]at h;obtain ⟨⟨h1,h2⟩,h3⟩:=h;obtain ⟨ds,qt⟩:=Option.isSome_iff_exists.1 h1;refine ⟨s,d,x,ds,rfl,qt,?_,h3⟩;split at h2<;>simp_all
 | _=>exact Bool.noConfusion h
theorem Ajq {s:Nat} {x':B8} (h:CX P num op (.box s x')=true) : ∃ t x,op = .box t x/\DD x x'=true:=by
 cases op with
 | box t x=>exact ⟨t,x,rfl,h⟩
 | _=>exact Bool.noConfusion h
theorem Ajk {s:Nat} {z:List AV} (h:CX P num op (.alloc s z)=true) : ∃ t,op = .alloc t/\Y6 P t z=true:=by
 cases op with
 | alloc t=>exact ⟨t,rfl,h⟩
 | _=>exact Bool.noConfusion h
theorem Ajs {z:List AV} {z9:List (Nat × Nat × B8)} (h:CX P num op (.build z z9)=true) : ∃ t ps,op = .build t ps/\Y6 P t z=true/\lL P t ps.toList z9=true:=by
 cases op with
 | build t ps=>simp only[CX,Bool.and_eq_true]at h;exact ⟨t,ps,rfl,h.1,h.2⟩
 | _=>exact Bool.noConfusion h
theorem OP {t:TypeId} {f:TypeId->Bool} (h:KG P t f=true) : ∃ e,P.underlying t=some (.slice e)/\f e=true:=by
 unfold KG at h;split at h
 ·rename_i e he;exact ⟨e,he,h⟩
 ·cases h
theorem MP {t:TypeId} {n:Nat} (h:KF P t n=true) : ∃ i,P.info? t=some i/\i.size=n:=by
 unfold KF at h;split at h
 ·rename_i i hi;exact ⟨i,hi,by simpa using h⟩
 ·cases h
theorem fY {t:TypeId} {n:Nat} (h:XJ P t n=true) : ∃ i,P.info? t=some i/\i.bytes=n:=by
 unfold XJ at h;split at h
 ·rename_i i hi;exact ⟨i,hi,by simpa using h⟩
 ·cases h
theorem sE {t:TypeId} {l:List AV} (h:Y6 P t l=true) : ∃ i z,P.info? t=some i/\i.zero=some z/\U3 z.cells.toList l=true:=by
 unfold Y6 at h;split at h
 ·rename_i i hi
  split at h
  ·rename_i z hz;exact ⟨i,z,hi,hz,h⟩
  ·cases h
 ·cases h
theorem fR {t:TypeId} {b:Bool} (h:(XF P t == some b)=true) : ∀ w,(isAgg t).run P w = .ok b w:=by
 intro w;have h':XF P t=some b:=by simpa using h
 unfold XF at h';unfold isAgg;cases hu:P.underlying t with
 | none=>rw[hu]at h';cases h'
 | some d =>
  rw[hu]at h';rw[Sem.run_bind,run_underlying hu];cases d<;>simp_all<;>rfl
theorem kN {e:TypeId} {n:Nat} (h:(match P.info? e with|some i=>(match i.zero with|some z=>z.cells.size == n|none=>false)|none=>false)=true) : ∃ i z,P.info? e=some i/\i.zero=some z/\z.cells.size=n:=by
 split at h
 ·rename_i i hi
  split at h
  ·rename_i z hz;exact ⟨i,z,hi,hz,by simpa using h⟩
  ·cases h
 ·cases h
theorem Ajr {s a5:Nat} {z9:List B8} (h:CX P num op (.b8 s a5 z9)=true) : ∃ t n ps e i,op = .buildSlice t n ps/\P.underlying t=some (.slice e)/\P.info? e=some i/\i.size=a5/\a5≠0/\n=z9.length/\n*a5<=16777216/\XU 0 ps.toList z9=true/\(n=0 \/ ∃ z,i.zero=some z/\z.cells.size=a5):=by
 cases op with
 | buildSlice t n ps =>
  simp only[CX,Bool.and_eq_true,decide_eq_true_eq,bne_iff_ne,beq_iff_eq,Bool.or_eq_true]at h;obtain ⟨⟨⟨⟨⟨h1,h2⟩,h3⟩,h4⟩,h5⟩,h6⟩:=h;obtain ⟨e,he,h1⟩:=OP h1;obtain ⟨i,hi,hs⟩:=MP h1;refine ⟨t,n,ps,e,i,rfl,he,hi,hs,h2,h3,h4,h5,h6.imp id λ h6 => ?_⟩;obtain ⟨e',di,h6⟩:=OP h6;rw[he]at di;obtain rfl:e=e':=by simpa using di
  obtain ⟨i',z,i5,hz,hs'⟩:=kN h6;rw[hi]at i5;obtain rfl:i=i':=by simpa using i5
  exact ⟨z,hz,hs'⟩
 | _=>exact Bool.noConfusion h
theorem Kh {x':B8} {off:Nat} (h:CX P num op (.a6 x' off)=true) : ∃ t x f fs fd i,op = .fieldAddr t x f/\DD x x'=true/\P.underlying t=some (.struct fs)/\fs[f]? = some fd/\fd.offset=off/\P.info? fd.type=some i/\i.size≠0:=by
 cases op with
 | fieldAddr t x f =>
  simp only[CX,Bool.and_eq_true]at h;obtain ⟨h1,h2⟩:=h;split at h2
  ·rename_i fs hfs
   split at h2
   ·rename_i fd Ag
    simp only[Bool.and_eq_true,beq_iff_eq]at h2;obtain ⟨h3,h4⟩:=h2;split at h4
    ·rename_i i hi
     exact ⟨t,x,f,fs,fd,i,rfl,h1,hfs,Ag,h3,hi,by simpa using h4⟩
    ·cases h4
   ·cases h2
  ·cases h2
 | _=>exact Bool.noConfusion h
theorem AjB {x':B8} {off n:Nat} {agg:Bool} (h:CX P num op (.gj x' off n agg)=true) : ∃ t x f fs fd i,op = .field t x f/\DD x x'=true/\P.underlying t=some (.struct fs)/\fs[f]? = some fd/\fd.offset=off/\P.info? fd.type=some i/\i.size=n/\(∀ w,(isAgg fd.type).run P w = .ok agg w)/\n≠0:=by
 cases op with
 | field t x f =>
  simp only[CX,Bool.and_eq_true]at h;obtain ⟨⟨h1,h2⟩,h3⟩:=h;unfold zD at h2;unfold zG at h3;split at h2
  ·rename_i fs hfs
   split at h2
   ·rename_i fd Ag
    simp only[Bool.and_eq_true,beq_iff_eq,bne_iff_ne]at h2;obtain ⟨⟨h4,h5⟩,h6⟩:=h2;obtain ⟨i,hi,hs⟩:=MP h5;rw[hfs]at h3;simp only[Ag]at h3;exact ⟨t,x,f,fs,fd,i,rfl,h1,hfs,Ag,h4,hi,hs,fR h3,h6⟩
   ·cases h2
  ·cases h2
 | _=>exact Bool.noConfusion h
theorem iL {arr:Option Nat} {a5:Nat} {x' i':B8} (h:CX P num op (.a4 arr a5 x' i')=true) : ∃ t x i e inf,op = .indexAddr t x i/\DD x x'=true/\DD i i'=true/\P.info? e=some inf/\inf.size=a5 /\
  ((∃ len,arr=some len/\P.underlying t=some (.array len e)/\1<len)\/(arr=none/\P.underlying t=some (.slice e)/\a5≠0)):=by
 cases op with
 | indexAddr t x i =>
  simp only[CX,Bool.and_eq_true]at h;obtain ⟨⟨h1,h2⟩,h3⟩:=h;split at h3
  ·rename_i len e eo hu
   simp only[Bool.and_eq_true,beq_iff_eq,decide_eq_true_eq]at h3;obtain ⟨⟨h4,h5⟩,h6⟩:=h3;obtain ⟨inf,hi,hs⟩:=MP h5;exact ⟨t,x,i,e,inf,rfl,h1,h2,hi,hs,.inl ⟨len,by rw[h4],hu,h6⟩⟩
  ·rename_i e hu
   simp only[Bool.and_eq_true,bne_iff_ne]at h3;obtain ⟨inf,hi,hs⟩:=MP h3.1;exact ⟨t,x,i,e,inf,rfl,h1,h2,hi,hs,.inr ⟨rfl,hu,h3.2⟩⟩
  ·cases h3
 | _=>exact Bool.noConfusion h
theorem AjC {len a5:Nat} {agg:Bool} {x' i':B8} (h:CX P num op (.idx len a5 agg x' i')=true) : ∃ t x i e inf,op = .index t x i/\DD x x'=true/\DD i i'=true/\P.underlying t=some (.array len e)/\P.info? e=some inf/\inf.size=a5/\(∀ w,(isAgg e).run P w = .ok agg w):=by
 cases op with
 | index t x i =>
  simp only[CX,Bool.and_eq_true]at h;obtain ⟨⟨h1,h2⟩,h3⟩:=h;split at h3
  ·rename_i eo e hu
   simp only[Bool.and_eq_true,beq_iff_eq]at h3;obtain ⟨⟨h4,h5⟩,h6⟩:=h3;obtain ⟨inf,hi,hs⟩:=MP h5;exact ⟨t,x,i,e,inf,rfl,h1,h2,by rw[h4];exact hu,hi,hs,fR (by simpa using h6)⟩
  ·cases h3
 | _=>exact Bool.noConfusion h
theorem Ki {agg:Bool} {n:Nat} {x':B8} (h:CX P num op (.ld agg n x')=true) : ∃ t x,op = .load t x/\DD x x'=true/\(∀ w,(isAgg t).run P w = .ok agg w)/\(if agg then ∃ i,P.info? t=some i/\i.size=n else n=1):=by
 cases op with
 | load t x =>
  simp only[CX,Bool.and_eq_true]at h;obtain ⟨⟨h1,h2⟩,h3⟩:=h;refine ⟨t,x,rfl,h1,fR h2,?_⟩;cases agg
  ·simpa using h3
  ·exact MP (by simpa using h3)
 | _=>exact Bool.noConfusion h
theorem AjP {n:Nat} {x' v':B8} (h:CX P num op (.st n x' v')=true) : ∃ t x v i,op = .store t x v/\DD x x'=true/\DD v v'=true/\P.info? t=some i/\i.size=n:=by
 cases op with
 | store t x v =>
  simp only[CX,Bool.and_eq_true]at h;obtain ⟨⟨h1,h2⟩,h3⟩:=h;obtain ⟨i,hi,hs⟩:=MP h3;exact ⟨t,x,v,i,rfl,h1,h2,hi,hs⟩
 | _=>exact Bool.noConfusion h
theorem AjG {s a5 bytes:Nat} {zero:List AV} {l' c':B8} (h:CX P num op (.mk s a5 bytes zero l' c')=true) : ∃ t l c e i z,op = .makeSlice t l c/\DD l l'=true/\DD c c'=true/\P.underlying t=some (.slice e)/\P.info? e=some i/\i.size=a5/\i.bytes=bytes/\i.zero=some z/\U3 z.cells.toList zero=true/\a5≠0:=by
 cases op with
 | makeSlice t l c =>
  simp only[CX,Bool.and_eq_true,bne_iff_ne]at h;obtain ⟨⟨⟨h1,h2⟩,h3⟩,h4⟩:=h;obtain ⟨e,he,h3⟩:=OP h3;simp only[Bool.and_eq_true]at h3;obtain ⟨⟨h5,h6⟩,h7⟩:=h3;obtain ⟨i,hi,hs⟩:=MP h5;obtain ⟨i2,hi2,lh⟩:=fY h6;obtain ⟨i3,z,ku,hz,z8⟩:=sE h7;rw[hi]at hi2 ku;obtain rfl:i=i2:=by simpa using hi2
  obtain rfl:i=i3:=by simpa using ku
  exact ⟨t,l,c,e,i,z,rfl,h1,h2,he,hi,hs,lh,hz,z8,h4⟩
 | _=>exact Bool.noConfusion h
theorem oK {a5:Nat} {x':B8} {gq i5:Option B8} (h:CX P num op (.ae a5 x' gq i5)=true) : ∃ t x lo hi e i,op = .slice t x lo hi none/\DD x x'=true/\T9 lo gq=true/\T9 hi i5=true/\P.underlying t=some (.slice e)/\P.info? e=some i/\i.size=a5/\a5≠0:=by
 cases op with
 | slice t x lo hi mx =>
  cases mx with
  | some _=>exact Bool.noConfusion h
  | none =>
   simp only[CX,Bool.and_eq_true,bne_iff_ne]at h;obtain ⟨⟨⟨⟨h1,h2⟩,h3⟩,h4⟩,h5⟩:=h;obtain ⟨e,he,h4⟩:=OP h4;obtain ⟨i,i5,hs⟩:=MP h4;exact ⟨t,x,lo,hi,e,i,rfl,h1,h2,h3,he,i5,hs,h5⟩
 | _=>exact Bool.noConfusion h
theorem AjA {x':B8} {i:Nat} (h:CX P num op (.ext x' i)=true) : ∃ x,op = .extract x i/\DD x x'=true:=by
 cases op with
 | extract x j =>
  simp only[CX,Bool.and_eq_true,beq_iff_eq]at h;exact ⟨x,by rw[h.2],h.1⟩
 | _=>exact Bool.noConfusion h
theorem WY {α:Type} {xs:Array α} {x y:α} (h:xs.toList=[x,y]):xs = #[x,y]:=by cases xs;simp_all
theorem kH {α:Type} {xs:Array α} {x:α} (h:xs.toList=[x]):xs = #[x]:=by cases xs;simp_all
theorem AjF {x':B8} (h:CX P num op (.len x')=true) : ∃ x t e,op = .call ⟨.builtin .len,#[x],#[t]⟩/\DD x x'=true/\P.underlying t=some (.slice e):=by
 cases op with
 | call c =>
  obtain ⟨cl,xs,ts⟩:=c;cases cl with
  | builtin b =>
   cases b<;>first|exact Bool.noConfusion h|skip
   simp only[CX]at h;split at h
   ·rename_i x t hx ht
    simp only[Bool.and_eq_true]at h;obtain ⟨e,he,_⟩:=OP h.2;exact ⟨x,t,e,by rw[kH hx,kH ht],h.1,he⟩
   ·cases h
  | value f=>cases f<;>exact Bool.noConfusion h
  | invoke=>exact Bool.noConfusion h
 | _=>exact Bool.noConfusion h
theorem Kj {mx:Bool} {l6:List B8} (h:CX P num op (.mm mx l6)=true) : ∃ xs ts,op = .call ⟨.builtin (if mx then .max else .min),xs,ts⟩/\G2 xs.toList l6=true:=by
 cases op with
 | call c =>
  obtain ⟨cl,xs,ts⟩:=c;cases cl with
  | builtin b =>
   cases b<;>first|exact Bool.noConfusion h|skip
   all_goals
    simp only[CX,Bool.and_eq_true]at h;refine ⟨xs,ts,?_,h.2⟩;cases mx<;>simp_all
  | value f=>cases f<;>exact Bool.noConfusion h
  | invoke=>exact Bool.noConfusion h
 | _=>exact Bool.noConfusion h
theorem Kf {s a5 bytes:Nat} {x' y':B8} (h:CX P num op (.app s a5 bytes x' y')=true) : ∃ x y t e i z tx ex,op = .call ⟨.builtin .append,#[x,y],#[t,tx]⟩/\DD x x'=true/\DD y y'=true/\P.underlying t=some (.slice e)/\P.info? e=some i/\i.size=a5/\i.bytes=bytes/\i.zero=some z/\z.cells.size=a5/\a5≠0/\P.underlying tx=some (.slice ex):=by
 cases op with
 | call c =>
  obtain ⟨cl,xs,ts⟩:=c;cases cl with
  | builtin b =>
   cases b<;>first|exact Bool.noConfusion h|skip
   simp only[CX]at h;split at h
   ·rename_i x y t u hx ht
    simp only[Bool.and_eq_true,beq_iff_eq,bne_iff_ne]at h;obtain ⟨⟨⟨⟨h1,h2⟩,h3⟩,h4⟩,h5⟩:=h;obtain ⟨e,he,h3⟩:=OP h3;simp only[Bool.and_eq_true]at h3;obtain ⟨⟨h6,h7⟩,h8⟩:=h3;obtain ⟨i,hi,hs⟩:=MP h6;obtain ⟨i2,hi2,lh⟩:=fY h7;obtain ⟨i3,z,ku,hz,z8⟩:=kN h8;rw[hi]at hi2 ku;obtain rfl:i=i2:=by simpa using hi2
    obtain rfl:i=i3:=by simpa using ku
    obtain ⟨ex,hex,_⟩:=OP h5;exact ⟨x,y,t,e,i,z,u,ex,by rw[WY hx,WY ht],h1,h2,he,hi,hs,lh,hz,z8,h4,hex⟩
   ·cases h
  | value f=>cases f<;>exact Bool.noConfusion h
  | invoke=>exact Bool.noConfusion h
 | _=>exact Bool.noConfusion h
theorem Ajl {s a5 bytes:Nat} {x' y':B8} (h:CX P num op (.gx s a5 bytes x' y')=true) : ∃ x y t e i z tx ex,op = .call ⟨.builtin .append,#[x,y],#[t,tx]⟩/\DD x x'=true/\DD y y'=true/\P.underlying t=some (.slice e)/\P.info? e=some i/\i.size=a5/\i.bytes=bytes/\i.zero=some z/\z.cells.size=a5/\a5≠0/\P.underlying tx=some (.slice ex):=by
 cases op with
 | call c =>
  obtain ⟨cl,xs,ts⟩:=c;cases cl with
  | builtin b =>
   cases b<;>first|exact Bool.noConfusion h|skip
   simp only[CX]at h;split at h
   ·rename_i x y t u hx ht
    simp only[Bool.and_eq_true,beq_iff_eq,bne_iff_ne]at h;obtain ⟨⟨⟨⟨h1,h2⟩,h3⟩,h4⟩,h5⟩:=h;obtain ⟨e,he,h3⟩:=OP h3;simp only[Bool.and_eq_true]at h3;obtain ⟨⟨h6,h7⟩,h8⟩:=h3;obtain ⟨i,hi,hs⟩:=MP h6;obtain ⟨i2,hi2,lh⟩:=fY h7;obtain ⟨i3,z,ku,hz,z8⟩:=kN h8;rw[hi]at hi2 ku;obtain rfl:i=i2:=by simpa using hi2
    obtain rfl:i=i3:=by simpa using ku
    obtain ⟨ex,hex,_⟩:=OP h5;exact ⟨x,y,t,e,i,z,u,ex,by rw[WY hx,WY ht],h1,h2,he,hi,hs,lh,hz,z8,h4,hex⟩
   ·cases h
  | value f=>cases f<;>exact Bool.noConfusion h
  | invoke=>exact Bool.noConfusion h
 | _=>exact Bool.noConfusion h
theorem Ajz {a5:Nat} {x' y':B8} (h:CX P num op (.ia a5 x' y')=true) : ∃ x y t e i,op = .call ⟨.builtin .copy,#[x,y],#[t,t]⟩/\DD x x'=true/\DD y y'=true/\P.underlying t=some (.slice e)/\P.info? e=some i/\i.size=a5/\a5≠0:=by
 cases op with
 | call c =>
  obtain ⟨cl,xs,ts⟩:=c;cases cl with
  | builtin b =>
   cases b<;>first|exact Bool.noConfusion h|skip
   simp only[CX]at h;split at h
   ·rename_i x y t u hx ht
    simp only[Bool.and_eq_true,beq_iff_eq,bne_iff_ne]at h;obtain ⟨⟨⟨⟨h1,h2⟩,h3⟩,h4⟩,h5⟩:=h;obtain ⟨e,he,h3⟩:=OP h3;obtain ⟨i,hi,hs⟩:=MP h3;exact ⟨x,y,t,e,i,by rw[WY hx,WY ht,h5],h1,h2,he,hi,hs,h4⟩
   ·cases h
  | value f=>cases f<;>exact Bool.noConfusion h
  | invoke=>exact Bool.noConfusion h
 | _=>exact Bool.noConfusion h
theorem oI {f:Nat} {l6:List B8} (h:CX P num op (.call f l6)=true) : ∃ xs ts,op = .call ⟨.value (.func (num f)),xs,ts⟩/\G2 xs.toList l6=true:=by
 cases op with
 | call c =>
  obtain ⟨cl,xs,ts⟩:=c;cases cl with
  | builtin b=>cases b<;>exact Bool.noConfusion h
  | value g =>
   cases g with
   | func g =>
    simp only[CX,Bool.and_eq_true,beq_iff_eq]at h;exact ⟨xs,ts,by rw[h.1],h.2⟩
   | _=>exact Bool.noConfusion h
  | invoke=>exact Bool.noConfusion h
 | _=>exact Bool.noConfusion h
theorem Ajt {f:Nat} {l6:List B8} (h:CX P num op (.c5 f l6)=true) : ∃ xs ts,op = .call ⟨.value (.func (num f)),xs,ts⟩/\G2 xs.toList l6=true:=by
 cases op with
 | call c =>
  obtain ⟨cl,xs,ts⟩:=c;cases cl with
  | builtin b=>cases b<;>exact Bool.noConfusion h
  | value g =>
   cases g with
   | func g =>
    simp only[CX,Bool.and_eq_true,beq_iff_eq]at h;exact ⟨xs,ts,by rw[h.1],h.2⟩
   | _=>exact Bool.noConfusion h
  | invoke=>exact Bool.noConfusion h
 | _=>exact Bool.noConfusion h
theorem Aju {f:Nat} {l6:List B8} (h:CX P num op (.g8 f l6)=true):CX P num op (.call f l6)=true:=by
 cases op<;>exact h
theorem Ajj {ne:Bool} {n:Nat} {x' y':B8} (h:CX P num op (.jt ne n x' y')=true) : ∃ t x y u,op = .binOp (if ne then .neq else .eql) t x y u/\nV P t n=true/\DD x x'=true/\DD y y'=true:=by
 cases op with
 | binOp f' t x y u =>
  simp only[CX,Bool.and_eq_true]at h;obtain ⟨⟨⟨h1,h2⟩,h3⟩,h4⟩:=h;refine ⟨t,x,y,u,?_,h2,h3,h4⟩;cases ne<;>simp_all
 | _=>exact Bool.noConfusion h
theorem AjJ {x':B8} (h:CX P num op (.jz x')=true) : ∃ x,op = .nilCheck x/\DD x x'=true:=by
 cases op with
 | nilCheck x=>exact ⟨x,rfl,h⟩
 | _=>exact Bool.noConfusion h
theorem Ajx {x':B8} (h:CX P num op (.ak x')=true) : ∃ x t e,op = .call ⟨.builtin .cap,#[x],#[t]⟩/\DD x x'=true/\P.underlying t=some (.slice e):=by
 cases op with
 | call c =>
  obtain ⟨cl,xs,ts⟩:=c;cases cl with
  | builtin b =>
   cases b<;>first|exact Bool.noConfusion h|skip
   simp only[CX]at h;split at h
   ·rename_i x t hx ht
    simp only[Bool.and_eq_true]at h;obtain ⟨e,he,_⟩:=OP h.2;exact ⟨x,t,e,by rw[kH hx,kH ht],h.1,he⟩
   ·cases h
  | value f=>cases f<;>exact Bool.noConfusion h
  | invoke=>exact Bool.noConfusion h
 | _=>exact Bool.noConfusion h
theorem Ajn {s a5 bytes:Nat} {x' y':B8} (h:CX P num op (.gi s a5 bytes x' y')=true) : ∃ x y t e i z tx k,op = .call ⟨.builtin .append,#[x,y],#[t,tx]⟩/\DD x x'=true/\DD y y'=true/\P.underlying t=some (.slice e)/\P.info? e=some i/\i.size=a5/\i.bytes=bytes/\i.zero=some z/\z.cells.size=a5/\a5≠0/\P.underlying tx=some (.int k):=by
 cases op with
 | call c =>
  obtain ⟨cl,xs,ts⟩:=c;cases cl with
  | builtin b =>
   cases b<;>first|exact Bool.noConfusion h|skip
   simp only[CX]at h;split at h
   ·rename_i x y t u hx ht
    simp only[Bool.and_eq_true,bne_iff_ne]at h;obtain ⟨⟨⟨⟨h1,h2⟩,h3⟩,h4⟩,h5⟩:=h;obtain ⟨e,he,h3⟩:=OP h3;simp only[Bool.and_eq_true]at h3;obtain ⟨⟨h6,h7⟩,h8⟩:=h3;obtain ⟨i,hi,hs⟩:=MP h6;obtain ⟨i2,hi2,lh⟩:=fY h7;obtain ⟨i3,z,ku,hz,z8⟩:=kN h8;rw[hi]at hi2 ku;obtain rfl:i=i2:=by simpa using hi2
    obtain rfl:i=i3:=by simpa using ku
    split at h5
    ·rename_i k hk
     exact ⟨x,y,t,e,i,z,u,k,by rw[WY hx,WY ht],h1,h2,he,hi,hs,lh,hz,z8,h4,hk⟩
    ·cases h5
   ·cases h
  | value f=>cases f<;>exact Bool.noConfusion h
  | invoke=>exact Bool.noConfusion h
 | _=>exact Bool.noConfusion h
theorem Ajw {s f:Nat} {l6:List B8} (h:CX P num op (.w3 s f l6)=true):CX P num op (.c5 f l6)=true:=by
 cases op<;>exact h
theorem Ajv {s f:Nat} {l6:List B8} (h:CX P num op (.m5 s f l6)=true):CX P num op (.call f l6)=true:=by
 cases op<;>exact h
theorem AjQ {s n:Nat} {x' v':B8} (h:CX P num op (.gf s n x' v')=true):CX P num op (.st n x' v')=true:=by
 cases op<;>exact h
theorem Ajm {s a5 bytes:Nat} {x' y':B8} (h:CX P num op (.y9 s a5 bytes x' y')=true):CX P num op (.app s a5 bytes x' y')=true:=by
 cases op<;>exact h
theorem AjD {ne:Bool} {x':B8} (h:CX P num op (.jo ne x')=true) : ∃ t x u e,op = .binOp (if ne then .neq else .eql) t x (.const (.slice none 0 0)) u/\P.underlying t=some (.slice e)/\DD x x'=true:=by
 cases op with
 | binOp f' t x y u =>
  simp only[CX]at h;split at h
  ·rename_i heq
   simp only[Op.binOp.injEq]at heq;obtain ⟨rfl,rfl,rfl,rfl,rfl⟩:=heq;simp only[Bool.and_eq_true]at h;obtain ⟨⟨h1,h2⟩,h3⟩:=h;unfold KG at h2;split at h2
   ·rename_i e he
    refine ⟨t,x,u,e,?_,he,h3⟩;cases ne
    ·simp only[Bool.false_eq_true,if_false,beq_iff_eq]at h1;rw[h1];rfl
    ·simp only[if_true,beq_iff_eq]at h1;rw[h1];rfl
   ·cases h2
  ·cases h
 | _=>exact Bool.noConfusion h
theorem AjM {tb:List Nat} {i':B8} (h:CX P num op (.bn tb i')=true) : ∃ t s i,op = .index t (.const (.string s)) i/\P.underlying t=some .string/\s.data.toList.map (λ b=>b.toNat)=tb/\DD i i'=true:=by
 cases op with
 | index t x i =>
  simp only[CX]at h;split at h
  ·rename_i heq
   simp only[Op.index.injEq]at heq;obtain ⟨rfl,rfl,rfl⟩:=heq;simp only[Bool.and_eq_true,beq_iff_eq]at h;obtain ⟨⟨h1,h2⟩,h3⟩:=h;exact ⟨_,_,_,rfl,by split at h1<;>simp_all,h2,h3⟩
  ·cases h
 | _=>exact Bool.noConfusion h
theorem AjH {p:Bool} {f:Nat} {l6:List B8} (h:CX P num op (.iu p f l6)=true) : ∃ first xs,op = .makeFunc (.func (num f)) first xs/\first = #[]/\G2 xs.toList l6=true:=by
 cases op with
 | makeFunc g first xs =>
  cases g with
  | func g =>
   simp only[CX,Bool.and_eq_true,beq_iff_eq]at h;obtain ⟨⟨rfl,h2⟩,h3⟩:=h;refine ⟨first,xs,rfl,?_,h3⟩;obtain ⟨l⟩:=first;simp at h2;rw[h2]
  | _=>exact Bool.noConfusion h
 | _=>exact Bool.noConfusion h
theorem Kg {x':B8} {l6:List B8} (h:CX P num op (.l9 x' l6)=true) : ∃ x xs ts,op = .call ⟨.value x,xs,ts⟩/\DD x x'=true/\G2 xs.toList l6=true:=by
 cases op with
 | call c =>
  obtain ⟨cl,xs,ts⟩:=c;cases cl with
  | builtin b=>cases b<;>exact Bool.noConfusion h
  | value g =>
   simp only[CX,Bool.and_eq_true]at h;exact ⟨g,xs,ts,rfl,h.1,h.2⟩
  | invoke=>exact Bool.noConfusion h
 | _=>exact Bool.noConfusion h
end
end Go.Eng

namespace Go.Eng
open Go.RowKit
def EB.o6:EB->BT->BT
 | .val _,o=>o
 | .new s b _,o=>o.put s ((o s).new b)
 | .mu s b _,o=>o.put s ((o s).new b)
 | .w8 _ o',_=>o'
 | .l8 s x,o=>o.put s x
 | .js s x _,o=>o.put s x
def EB.valOf:EB->BT->AV
 | .val v,_=>v
 | .new s _ v,o=>v (o.c8 s)
 | .mu s _ v,o=>v (o.c8 s)
 | .w8 v _,_=>v
 | .l8 _ _,_ => .tup []
 | .js _ _ v,_=>v
section
variable {B:Nat} {S:Nat->Prop} {w0:World} {m:M}
theorem J6 {k:IntKind} {n:Int} {v:Value} (h:CV B S m (.int k n) v):v = .int k n:=by
 cases h with
 | ca h=>cases h with
  | one h=>cases h with
   | rd h=>cases h;rfl
theorem XN {b:Bool} {v:Value} (h:CV B S m (.bool b) v):v = .bool b:=by
 cases h with
 | ca h=>cases h with
  | one h=>cases h with
   | rd h=>cases h;rfl
theorem gO {cs:List AV} {v:Value} (h:CV B S m (.agg cs) v) : ∃ vs:List Value,v = .agg vs.toArray/\CL B S m cs vs:=by
 cases h with
 | ca h=>cases h with
  | one h=>cases h with
   | rd h=>cases h
  | agg _ vs h=>exact ⟨vs,rfl,h⟩
theorem lZ {cs:List AV} {v:Value} (h:CV B S m (.tup cs) v) : ∃ vs:List Value,v = .tuple vs.toArray/\cs.length=vs.length /\ ∀ (j:Nat) (c:AV) (u:Value),cs[j]? = some c->vs[j]? = some u->CA B S m c u:=by
 cases h with
 | ca h=>cases h with
  | one h=>cases h with
   | rd h=>cases h
 | tup _ vs hl h=>exact ⟨vs,rfl,hl,h⟩
theorem PP (k:IntKind) (n:Int):CV B S m (.int k n) (.int k n):= .ca (.one (.rd (.int k n)))
theorem dB (b:Bool):CV B S m (.bool b) (.bool b):= .ca (.one (.rd (.bool b)))
theorem Jb:CV B S m (.tup []) undef := .tup [] [] rfl (λ j c v h=>by simp at h)
theorem gQ {a:AV} {cs:List AV} {v:Value} (h:CV B S m a v) (hc:cellsOf a=some cs):CL B S m cs v.cells.toList:=by
 cases h with
 | any v=>simp [cellsOf]at hc
 | tup=>simp [cellsOf]at hc
 | ca h=>cases h with
  | agg af vs h =>
   obtain rfl:af=cs:=by simpa [cellsOf] using hc
   simpa [Value.cells] using h
  | fn=>simp [cellsOf]at hc
  | one h =>
   have h1:v.cells.toList=[v]:=by
    cases h with
    | rd h=>cases h<;>rfl
    | _=>rfl
   have h2:cs=[a]:=by
    cases h with
    | rd h=>cases h<;>simp [cellsOf]at hc<;>exact hc.symm
    | _=>simp [cellsOf]at hc;exact hc.symm
   rw[h1,h2];refine ⟨rfl,λ j c u hj hu => ?_⟩;cases j with
   | zero=>simp at hj hu;subst hj hu;exact h
   | succ j=>simp at hj
theorem Wg {cs:List AV} {vs:List Value} (h:CL B S m cs vs) : ∀ v∈vs,v.oneCell'=true:=by
 intro v hv;obtain ⟨j,hj,rfl⟩:=List.getElem_of_mem hv;have ta:j<cs.length:=by rw[h.1];exact hj
 exact (h.2 j cs[j] vs[j] (zE ta) (zE hj)).one
theorem uS {cs:List AV} {vs:List Value} (h:CL B S m cs vs) (off n:Nat):CL B S m ((cs.drop off).take n) ((vs.drop off).take n):=by
 refine ⟨by simp [h.1],λ j c v hj hv => ?_⟩;rw[List.getElem?_take]at hj hv;split at hj
 ·rename_i e9
  rw[if_pos e9]at hv;rw[List.getElem?_drop]at hj hv;exact h.2 _ c v hj hv
 ·cases hj
theorem xN {v:Value} {a:AV} (h:gY v a=true):CC B S m a v:=by
 unfold gY at h;split at h
 ·simp only[Bool.and_eq_true,beq_iff_eq]at h
  obtain ⟨rfl,rfl⟩:=h;exact .rd (.int _ _)
 ·obtain rfl:_=_:=by simpa using h
  exact .rd (.bool _)
 ·exact .nil
 ·rename_i s s'
  obtain rfl:s=s':=by
   have h':s.data.toList=s'.data.toList:=by simpa using h
   obtain ⟨⟨l⟩⟩:=s;obtain ⟨⟨l'⟩⟩:=s';simp only at h';rw[h']
  exact .rd (.str _)
 ·cases h
theorem ZV : ∀ {vs:List Value} {cs:List AV},U3 vs cs=true->CL B S m cs vs
 | [],[],_=>⟨rfl,λ j c v h=>by simp at h⟩
 | v::r,c::l,h=>by
  simp only[U3,Bool.and_eq_true]at h;have ih:=ZV (vs:=r) (cs:=l) h.2;refine ⟨by simp [ih.1],λ j c' v' hj hv => ?_⟩;cases j with
  | zero=>simp at hj hv;subst hj hv;exact xN h.1
  | succ j=>exact ih.2 j c' v' (by simpa using hj) (by simpa using hv)
 | [],_::_,h=>by simp [U3]at h
 | _::_,[],h=>by simp [U3]at h
theorem Ahe {v:Value} {a:AV} (h:mR v a=true):CV B S m a v:=by
 unfold mR at h;split at h
 ·rename_i cs l
  have:=ZV (B:=B) (S:=S) (m:=m) h
  exact .ca (by simpa using CA.agg l cs.toList this)
 ·exact .ca (.one (xN h))
def EM (B:Nat) (S:Nat->Prop) (m:M) (ρ:B8->AV) (e:Operand->Value):Prop := ∀ x y,DD x y=true->CV B S m (ρ y) (e x)
theorem Ak3 {T:Nat->AV} {a:Act} {ρ:B8->AV} (hρt : ∀ n,ρ (.t n)=T n) (Qx : ∀ v,ρ (.c v)=v) (h : ∀ i,CV B S m (T i) (a.tmps.getD i undef)):EM B S m ρ a.eval:=by
 intro x y fw;unfold DD at fw;split at fw
 ·obtain rfl:_=_:=by simpa using fw
  rw[hρt];exact h _
 ·rw[Qx]
  exact Ahe fw
 ·obtain rfl:_=_:=by simpa using fw
  rw[Qx];exact .ca (.fn _ _ _ [] [] ⟨rfl,λ j c v h=>by simp at h⟩)
 ·cases fw
variable {P:Program} {num:Nat->Nat} {o:Oper} {a:Act} {ρ:B8->AV} {K:Act->World->Prop} {Q:Exit->Act->World->Prop}
theorem NR {w w':World} {u:Value} (h:(execOp a.eval o).run P w = .ok (.value u) w') (hk:K (a.put o.dst u) w'):o.wp P a w K Q:=by
 unfold Oper.wp;rw[h];exact hk
theorem AlZ {w w':World} (h:(execOp a.eval o).run P w = .ok .skip w') (hk:K (a.put o.dst undef) w'):o.wp P a w K Q:=by
 unfold Oper.wp;rw[h];exact hk
def EP (B:Nat) (S:Nat->Prop) (w0:World) (P:Program) (o:Oper) (a:Act) (m:M) (E:EB):Prop :=
 ∀ (K:Act->World->Prop) (Q:Exit->Act->World->Prop),(∀ u m',m'.own=E.o6 m.own->DJ B S w0 m'->FY B S m m'->CV B S m' (E.valOf m.own) u->K (a.put o.dst u) m'.w)->o.wp P a m.w K Q
theorem GX (hm:DJ B S w0 m) {v:AV} {u:Value} (h:(execOp a.eval o).run P m.w = .ok (.value u) m.w) (hc:CV B S m v u):EP B S w0 P o a m (.val v) :=
 λ K Q hK=>NR h (hK u m rfl hm (FY.refl m) hc)
theorem Zd (hm:DJ B S w0 m) (hs:EM B S m ρ a.eval) {y:B8} (h:CX P num o.op (.a7 y)=true):EP B S w0 P o a m (.val (ρ y)):=by
 obtain ⟨x,hx,he⟩:=AjI h;refine GX hm (u:=a.eval x) ?_ (hs x y he);rcases hx with hx|hx<;>simp [execOp,hx]
theorem Zk (hm:DJ B S w0 m) {s z:Nat} (h:CX P num o.op (.o3 s z)=true):EP B S w0 P o a m (.mu s ⟨z,[]⟩ (λ t => .row s t z 0 0)):=by
 obtain ⟨hx,hz⟩:=AjT h;intro K Q hK;obtain ⟨h1,h2⟩:=Ov hm s z;refine NR (u := .slice none 0 0) (w':=m.w) ?_ (hK _ ⟨c9 m s none,m.own.put s ((m.own s).new ⟨z,[]⟩),m.w⟩ rfl h1 h2 ?_)
 ·rcases hx with hx|hx<;>simp [execOp,hx,Act.eval]
 ·refine .ca (.one (.row s (m.own.c8 s) z 0 0 none 0 ?_ (by omega) (Nat.le_refl _) (λ h=>by omega) λ b hb => ?_))
  ·show _<BT.c8 _ s
   rw[O1];simp
  ·change BT.get _ s _=some b at hb
   rw[JB,if_pos ⟨rfl,rfl⟩]at hb;obtain rfl:(⟨z,[]⟩:GJ)=b:=by simpa using hb
   exact ⟨rfl,.inl ⟨rfl,rfl⟩⟩
theorem wO (hm:DJ B S w0 m) (hs:EM B S m ρ a.eval) {c' a' b':B8} (h:CX P num o.op (.pick c' a' b')=true) {t:Bool} (hc:ρ c' = .bool t) :
  EP B S w0 P o a m (.val (if t then ρ a' else ρ b')):=by
 obtain ⟨c,x,y,e6,h1,h2,h3⟩:=AjK h;have n8:=XN (hc ▸ hs c c' h1);refine GX hm (u:=if t then a.eval x else a.eval y) ?_ ?_
 ·cases t<;>simp [execOp,e6,n8,asBool]
 ·cases t
  ·exact hs y b' h3
  ·exact hs x a' h2
theorem AkZ (f:BinOp) (t:TypeId) (k k':IntKind) (x y:Int) (v:AV) (h:F4 f k x k' y=some v) (w:World) : ∃ u,(binOp f t (.int k x) (.int k' y)).run P w = .ok u w/\((∃ n,v = .int k n/\u = .int k n) \/ ∃ b,v = .bool b/\u = .bool b):=by
 cases f<;>simp only[F4]at h;case shl =>
  split at h
  ·cases h
  ·rename_i hy;simp at h;subst h
   exact ⟨_,by simp [binOp,Op.shift,hy],.inl ⟨_,rfl,rfl⟩⟩
 case shr =>
  split at h
  ·cases h
  ·rename_i hy;simp at h;subst h
   exact ⟨_,by simp [binOp,Op.shift,hy],.inl ⟨_,rfl,rfl⟩⟩
 case quo =>
  split at h
  ·rename_i hy;obtain ⟨rfl,hy⟩:=hy;simp at h;subst h
   exact ⟨_,by simp [binOp,Op.intDiv,hy],.inl ⟨_,rfl,rfl⟩⟩
  ·cases h
 case rem =>
  split at h
  ·rename_i hy;obtain ⟨rfl,hy⟩:=hy;simp at h;subst h
   exact ⟨_,by simp [binOp,Op.intDiv,hy],.inl ⟨_,rfl,rfl⟩⟩
  ·cases h
 case and|or|xor|andNot =>
  all_goals
   split at h
   ·rename_i hk;subst hk;obtain rfl:=Option.some.inj h
    exact ⟨_,by simp only[binOp,ne_eq,not_true_eq_false,if_false];rfl,.inl ⟨_,rfl,rfl⟩⟩
   ·cases h
 case add|sub|mul =>
  all_goals
   split at h
   ·rename_i hk;subst hk;obtain rfl:=Option.some.inj h
    exact ⟨_,by simp [binOp,Op.intArith],.inl ⟨_,rfl,rfl⟩⟩
   ·cases h
 all_goals
  split at h
  ·rename_i hk;subst hk;obtain rfl:=Option.some.inj h
   exact ⟨_,by simp [binOp,Op.intCmp],.inr ⟨_,rfl,rfl⟩⟩
  ·cases h
theorem AkU (f:BinOp) (t:TypeId) (x y:Operand) (k k':IntKind) (n n':Int) (w:World):(eqGuard f t x y (.int k n) (.int k' n')).run P w = .ok () w:=by
 unfold eqGuard;cases f<;>simp
theorem AkV (f:BinOp) (t:TypeId) (x y:Operand) (b b':Bool) (w:World):(eqGuard f t x y (.bool b) (.bool b')).run P w = .ok () w:=by
 unfold eqGuard;cases f<;>simp
theorem Agl (hm:DJ B S w0 m) (hs:EM B S m ρ a.eval) {f:BinOp} {x' y':B8} (h:CX P num o.op (.bin f x' y')=true) {k k':IntKind} {n n':Int} {v:AV} (hx:ρ x' = .int k n) (hy:ρ y' = .int k' n') (hv:F4 f k n k' n'=some v) :
  EP B S w0 P o a m (.val v):=by
 obtain ⟨t,x,y,u,e6,h1,h2⟩:=Ajp h;have ex:=J6 (hx ▸ hs x x' h1);have ey:=J6 (hy ▸ hs y y' h2);obtain ⟨r,hr,hor⟩:=AkZ (P:=P) f t k k' n n' v hv m.w;refine GX hm (u:=r) ?_ ?_
 ·simp [execOp,e6,ex,ey,AkU,hr]
 ·rcases hor with ⟨q,rfl,rfl⟩|⟨q,rfl,rfl⟩
  ·exact PP _ _
  ·exact dB _
theorem AkX (t:TypeId) (b b':Bool) (hu:P.underlying t=some .bool) (w:World):(Op.equal t (.bool b) (.bool b')).run P w = .ok (b == b') w:=by
 have h : ∀ d:Nat,(Op.equalIn (d+1) t (.bool b) (.bool b')).run P w = .ok (b == b') w:=λ d=>by
  unfold Op.equalIn;rw[Sem.run_bind,run_underlying hu];rfl
 exact h 9999
theorem Agk (hm:DJ B S w0 m) (hs:EM B S m ρ a.eval) {ne:Bool} {x' y':B8} (h:CX P num o.op (.beq ne x' y')=true) {b b':Bool} (hx:ρ x' = .bool b) (hy:ρ y' = .bool b') :
  EP B S w0 P o a m (.val (.bool (if ne then !(b == b') else b == b'))):=by
 obtain ⟨t,x,y,u,e6,hu,h1,h2⟩:=Ajo h;have ex:=XN (hx ▸ hs x x' h1);have ey:=XN (hy ▸ hs y y' h2);refine GX hm (u := .bool (if ne then !(b == b') else b == b')) ?_ (dB _);cases ne<;>simp [execOp,e6,ex,ey,AkV,binOp,AkX t b b' hu]
theorem zH : ∀ {fs:List Field} {k n:Nat},fieldsI P k fs n=true->k<=n
 | [],k,n,h=>by simp only[fieldsI,beq_iff_eq]at h;omega
 | f::fs,k,n,h=>by
  simp only[fieldsI,Bool.and_eq_true]at h;have:=zH h.2;omega
theorem Np (d:Nat) (a b:List Int) (w:World) : ∀ {fs:List Field} {k:Nat},fieldsI P k fs a.length=true->b.length=a.length ->
  (Op.eqFields (d+1) (a.map (Value.int .i64)).toArray (b.map (Value.int .i64)).toArray fs).run P w = .ok (decide (a.drop k=b.drop k)) w
 | [],k,h,hl=>by
  simp only[fieldsI,beq_iff_eq]at h;rw[List.drop_of_length_le (by omega),List.drop_of_length_le (by omega)];simp [Op.eqFields]
 | f::fs,k,h,hl=>by
  simp only[fieldsI,Bool.and_eq_true,bne_iff_ne,beq_iff_eq]at h;obtain ⟨⟨⟨h1,h2⟩,h3⟩,h4⟩:=h;have hk:=zH h4;have hp:P.plainKey f.type=true:=by unfold Program.plainKey;split at h3<;>simp_all
  obtain ⟨kd,hu⟩ : ∃ kd,P.underlying f.type=some (.int kd):=by split at h3<;>simp_all
  have e1:(a.map (Value.int .i64)).toArray[f.offset]? = some (.int .i64 (a[k]'(by omega))):=by rw[h2];simp [zE (show k<a.length by omega)]
  have e2:(b.map (Value.int .i64)).toArray[f.offset]? = some (.int .i64 (b[k]'(by omega))):=by rw[h2];simp [zE (show k<b.length by omega)]
  have ih:=Np d a b w h4 hl;have hd:(a.drop k=b.drop k)↔(a[k]'(by omega)=b[k]'(by omega)/\a.drop (k+1)=b.drop (k+1)):=by
   rw[List.drop_eq_getElem_cons (show k<a.length by omega),List.drop_eq_getElem_cons (show k<b.length by omega),List.cons.injEq]
  simp only[Op.eqFields,ne_eq,h1,not_false_eq_true,if_true,Sem.run_bind,run_part_plain w hp e1,run_part_plain w hp e2,Result.andThen_ok,run_equalIn_int w d f.type .i64 kd _ _ hu,Sem.run_ite];by_cases hab:a[k]'(by omega)=b[k]'(by omega)
  ·simp [hab,ih,hd]
  ·simp [hab,hd]
theorem oG : ∀ {cs:List AV} {a:List Int} {vs:List Value},KV cs=some a->CL B S m cs vs->vs=a.map (Value.int .i64)
 | [],a,vs,h,hc=>by
  simp only[KV,Option.some.injEq]at h;subst h;have:=hc.1;exact List.eq_nil_of_length_eq_zero (by simpa using this.symm)
 | c::r,a,vs,h,hc=>by
  cases vs with
  | nil=>have:=hc.1;simp at this
  | cons v vs =>
   cases c with
   | int k n =>
    cases k<;>simp only[KV]at h<;>first|cases h|skip
    cases hr:KV r with
    | none=>rw[hr]at h;cases h
    | some b =>
     rw[hr]at h;simp only[Option.map_some,Option.some.injEq]at h;subst h;have h0:=J6 (.ca (.one (hc.2 0 _ v rfl rfl)));have ih:=oG (vs:=vs) hr ⟨by have:=hc.1;simpa using this,λ j c v h1 h2=>hc.2 (j+1) c v h1 h2⟩;rw[h0,ih];rfl
   | _=>simp only[KV]at h;cases h
theorem Zv (hm:DJ B S w0 m) (hs:EM B S m ρ a.eval) {ne:Bool} {n:Nat} {x' y':B8} (h:CX P num o.op (.jt ne n x' y')=true) {cs ds:List AV} (hx:ρ x' = .agg cs) (hy:ρ y' = .agg ds) {p q:List Int} (hp:KV cs=some p) (hq:KV ds=some q) (hn:p.length=n/\q.length=n) :
  EP B S w0 P o a m (.val (.bool (if ne then !(decide (p=q)) else decide (p=q)))):=by
 obtain ⟨t,x,y,u,e6,hfl,h1,h2⟩:=Ajj h;obtain ⟨vx,ex,cx⟩:=gO (hx ▸ hs x x' h1);obtain ⟨vy,ey,cy⟩:=gO (hy ▸ hs y y' h2);obtain rfl:=oG hp cx;obtain rfl:=oG hq cy;obtain ⟨rfl,hql⟩:=hn;simp only[nV,Bool.and_eq_true,Bool.not_eq_true']at hfl;obtain ⟨⟨hf,hst⟩,hg⟩:=hfl;obtain ⟨fs,hu,hfs⟩ : ∃ fs,P.underlying t=some (.struct fs)/\fieldsI P 0 fs.toList p.length=true:=by
  split at hf
  ·exact ⟨_,by assumption,hf⟩
  ·cases hf
 have Qa:P.fieldsOf t=fs:=by simp [Program.fieldsOf,hu]
 have hr:=run_equalIn_struct m.w 9999 t (p.map (Value.int .i64)).toArray (q.map (Value.int .i64)).toArray (by rw[Qa];exact hu) hst;rw[Qa,Np 9998 p q m.w hfs hql,List.drop_zero,List.drop_zero]at hr;refine GX hm (u := .bool (if ne then !(decide (p=q)) else decide (p=q))) ?_ (dB _);cases ne
 ·simp [execOp,e6,ex,ey,run_eqGuard_agg m.w _ t x y _ _ hg,run_eql_struct,hr]
 ·simp [execOp,e6,ex,ey,run_eqGuard_agg m.w _ t x y _ _ hg,run_neq_struct,hr]
theorem Zj (hm:DJ B S w0 m) (hs:EM B S m ρ a.eval) {f:UnOp} {x':B8} (h:CX P num o.op (.un f x')=true) {v:AV} (hv:W3 f (ρ x')=some v):EP B S w0 P o a m (.val v):=by
 obtain ⟨t,x,e6,h1⟩:=AjR h;have hx:=hs x x' h1;unfold W3 at hv;split at hv
 ·rename_i k n hk
  have ex:=J6 (hk ▸ hx);split at hv
  ·obtain rfl:_=v:=by simpa using hv
   exact GX hm (by simp [execOp,e6,ex,Op.unary,Op.intArith]) (PP _ _)
  ·obtain rfl:_=v:=by simpa using hv
   exact GX hm (by simp only[execOp,e6,ex,Op.unary];rfl) (PP _ _)
  ·cases hv
 ·rename_i b hk
  have ex:=XN (hk ▸ hx);split at hv
  ·obtain rfl:_=v:=by simpa using hv
   exact GX hm (by simp [execOp,e6,ex,Op.unary]) (dB _)
  ·cases hv
 ·cases hv
theorem Agv (hm:DJ B S w0 m) (hs:EM B S m ρ a.eval) {k:IntKind} {x':B8} (h:CX P num o.op (.conv k x')=true) {k':IntKind} {n:Int} (hx:ρ x' = .int k' n):EP B S w0 P o a m (.val (.int k (k.wrap n))):=by
 obtain ⟨s,d,x,ds,e6,qt,hd,h1⟩:=Ajy h;have ex:=J6 (hx ▸ hs x x' h1);refine GX hm (u := .int k (k.wrap n)) ?_ (PP _ _);simp [execOp,e6,ex,convert,run_underlying qt,run_underlying hd,Conv.intToInt]
theorem AkY (t:TypeId) (a:Option Addr) (n c:Nat) {e:TypeId} (hu:P.underlying t=some (.slice e)) (w:World):(Op.equal t (.slice a n c) (.slice none 0 0)).run P w = .ok a.isNone w:=by
 have h : ∀ d:Nat,(Op.equalIn (d+1) t (.slice a n c) (.slice none 0 0)).run P w = .ok a.isNone w:=λ d=>by
  unfold Op.equalIn;rw[Sem.run_bind,run_underlying hu];cases a<;>rfl
 exact h 9999
theorem AkW (f:BinOp) (t:TypeId) (x y:Operand) (a b:Option Addr) (n c n' c':Nat) (w:World):(eqGuard f t x y (.slice a n c) (.slice b n' c')).run P w = .ok () w:=by
 unfold eqGuard;cases f<;>simp
theorem gX (hm:DJ B S w0 m) (hs:EM B S m ρ a.eval) {ne:Bool} {x':B8} (h:CX P num o.op (.jo ne x')=true) {b:Bool} (hx : ∀ v,CV B S m (ρ x') v -> ∃ ad n c,v = .slice ad n c/\ad.isNone=b) :
  EP B S w0 P o a m (.val (.bool (xor b ne))):=by
 obtain ⟨t,x,u,e,e6,hu,h1⟩:=AjD h;obtain ⟨ad,n,c,ex,hb⟩:=hx _ (hs x x' h1);refine GX hm (u := .bool (xor b ne)) ?_ (dB _);have e0:a.eval (.const (.slice none 0 0)) = .slice none 0 0:=rfl;cases ne<;>cases b<;>simp [execOp,e6,ex,e0,AkW,binOp,AkY t ad n c hu,hb]
theorem U0 {v:Value} (h:CV B S m .nil v):v = .slice none 0 0:=by
 cases h with
 | ca h=>cases h with
  | one h=>cases h with
   | rd h=>cases h
   | nil=>rfl
theorem vR {b:Bool} {v:Value} (h:CV B S m (.w7 (.bool b)) v) : ∃ ad c,v = .slice ad 0 c/\ad.isNone=b:=by
 cases h with
 | ca h=>cases h with
  | one h=>cases h with
   | rd h=>cases h with
    | emp b a cap h=>exact ⟨a,cap,rfl,h⟩
theorem Xa {l:Bool} {e:List AV} {es:List (List AV)} {v:Value} (h:CV B S m (.sl l (e::es)) v) : ∃ ad n c,v = .slice ad n c/\ad.isNone=false:=by
 cases h with
 | ca h=>cases h with
  | one h=>cases h with
   | rd h=>cases h with
    | sl=>exact ⟨_,_,_,rfl,rfl⟩
theorem Wz {s t z off n:Nat} {v:Value} (h:CV B S m (.row s t z off (n+1)) v) : ∃ ad n c,v = .slice ad n c/\ad.isNone=false:=by
 cases h with
 | ca h=>cases h with
  | one h=>cases h with
   | rd h=>cases h
   | row _ _ _ _ _ a cap _ _ _ ha=>exact ⟨_,_,_,rfl,by have:=ha (by omega);cases a<;>simp_all⟩
theorem Zf (hm:DJ B S w0 m) (hs:EM B S m ρ a.eval) {tb:List Nat} {x':B8} (h:CX P num o.op (.bn tb x')=true) {k:IntKind} {n:Int} {v:Nat} (hx:ρ x' = .int k n) (h0:0<=n) (hv:tb[n.toNat]? = some v) :
  EP B S w0 P o a m (.val (.int .u8 v)):=by
 obtain ⟨t,s,i,e6,hu,htb,h1⟩:=AjM h;have ex:=J6 (hx ▸ hs i x' h1);have hb : ∃ b:UInt8,s[n.toNat]? = some b/\b.toNat=v:=by
  rw[<-htb,List.getElem?_map]at hv;cases hg:s.data.toList[n.toNat]? with
  | none=>simp [hg]at hv
  | some b =>
   simp only[hg,Option.map_some,Option.some.injEq]at hv;refine ⟨b,?_,hv⟩;have e9:n.toNat<s.size:=by
    have:=(zS hg).1
    simpa using this
   rw[getElem?_pos s n.toNat e9];congr 1;have:=(zS hg).2;rw[<-this];rfl
 obtain ⟨b,ji,m7⟩:=hb;refine GX hm (u := .int .u8 v) ?_ (PP _ _);have e0:a.eval (.const (.string s)) = .string s:=rfl;simp [execOp,e6,ex,e0,Instr.index,asIntOf,run_underlying hu,h0,ji,m7]
theorem Akv {x c:AV} {v:Value} (h:CV B S m x v) (hc:KD x=some c):CC B S m c v:=by
 cases h with
 | any=>simp [KD]at hc
 | tup=>simp [KD]at hc
 | ca h=>cases h with
  | agg=>simp [KD]at hc
  | fn=>simp [KD]at hc
  | one h =>
   have:c=x:=by
    cases h with
    | rd h=>cases h<;>simp [KD]at hc<;>exact hc.symm
    | _=>simp [KD]at hc;exact hc.symm
   subst this;exact h
theorem xM (hs:EM B S m ρ a.eval) : ∀ {xs:List Operand} {l6:List B8} {cs:List AV},G2 xs l6=true->l6.mapM (λ x=>KD (ρ x))=some cs->CL B S m cs (xs.map a.eval)
 | [],[],cs,_,h=>by
  simp at h;subst h;exact ⟨rfl,λ j c v h=>by simp at h⟩
 | x::r,y::l,cs,h,hc=>by
  simp only[G2,Bool.and_eq_true]at h;simp only[List.mapM_cons,Option.bind_eq_bind,Option.pure_def]at hc;cases h1:KD (ρ y) with
  | none=>simp [h1]at hc
  | some c =>
   cases h2:l.mapM (λ x=>KD (ρ x)) with
   | none=>simp [h1,h2]at hc
   | some af =>
    simp [h1,h2]at hc;subst hc;have ih:=xM hs h.2 h2;refine ⟨by simpa using ih.1,λ j c' v hj hv => ?_⟩;cases j with
    | zero =>
     simp at hj hv;subst hj hv;exact Akv (hs x y h.1) h1
    | succ j=>exact ih.2 j c' v (by simpa using hj) (by simpa using hv)
 | [],_::_,_,h,_=>by simp [G2]at h
 | _::_,[],_,h,_=>by simp [G2]at h
theorem Za (hm:DJ B S w0 m) (hs:EM B S m ρ a.eval) {p:Bool} {f:Nat} {l6:List B8} (h:CX P num o.op (.iu p f l6)=true) {cs:List AV} (hc:l6.mapM (λ x=>KD (ρ x))=some cs) :
  EP B S w0 P o a m (.val (.fn p f (num f) cs)):=by
 obtain ⟨first,xs,e6,rfl,he⟩:=AjH h;have hcl:=xM hs he hc;have da:(xs.map a.eval)=(xs.toList.map a.eval).toArray:=by cases xs;simp
 refine GX hm (u := .func (.func (num f)) #[] (xs.toList.map a.eval).toArray) ?_ (.ca (.fn p f (num f) cs _ hcl));simp [execOp,e6,Instr.makeFunc,da]
end
end Go.Eng

namespace Go.Eng
open Go.RowKit
section
variable {B:Nat} {S:Nat->Prop} {w0:World} {m:M}
variable {P:Program} {num:Nat->Nat} {o:Oper} {a:Act} {ρ:B8->AV}
theorem ZO {cs:List AV} {vs:List Value} (h:CL B S m cs vs) {j:Nat} {c:AV} (hj:cs[j]? = some c) : ∃ u,vs[j]? = some u/\CC B S m c u:=by
 have e9:j<cs.length:=(zS hj).1;have kz:j<vs.length:=by rw[<-h.1];exact e9
 exact ⟨vs[j],zE kz,h.2 j c _ hj (zE kz)⟩
theorem Akt {s:Nat} {b:GJ} {w':World} {g:Nat}:CV B S ⟨c9 m s (some g),m.own.put s ((m.own s).new b),w'⟩ (.ptr s (m.own.c8 s) 0 0) (.pointer (some ⟨g,0,none⟩)):=by
 refine .ca (.one (.ptr s (m.own.c8 s) 0 0 ⟨g,0,none⟩ ?_ λ b' e7=>⟨g,?_,by simp⟩))
 ·show _<BT.c8 _ s
  rw[O1];simp
 ·simp [c9]
theorem wN (hm:DJ B S w0 m) (s:Nat) (cs:List AV) (vs:Array Value) (e:TypeId) (hc:CL B S m cs vs.toList) (h:(execOp a.eval o).run P m.w = .ok (.value (.pointer (some ⟨m.w.heap.size,0,none⟩))) (m.w.alloc (.cells vs e))) :
  EP B S w0 P o a m (.new s ⟨cs.length,[cs]⟩ (λ t => .ptr s t 0 0)):=by
 intro K Q hK;obtain ⟨h1,h2⟩:=bM hm s ⟨cs.length,[cs]⟩ vs e (by simp) (λ i af hi j c hj=>by
  cases i with
  | zero =>
   obtain rfl:cs=af:=by simpa using hi
   obtain ⟨u,hu,hcc⟩:=ZO hc hj;exact ⟨u,by simpa using hu,hcc⟩
  | succ i=>simp at hi)
 exact NR h (hK _ ⟨c9 m s (some m.w.heap.size),m.own.put s ((m.own s).new ⟨cs.length,[cs]⟩),m.w.alloc (.cells vs e)⟩ rfl h1 h2 Akt)
theorem Agm (hm:DJ B S w0 m) (hs:EM B S m ρ a.eval) {s:Nat} {x':B8} (h:CX P num o.op (.box s x')=true) {cs:List AV} (hc:cellsOf (ρ x')=some cs) :
  EP B S w0 P o a m (.new s ⟨cs.length,[cs]⟩ (λ t => .ptr s t 0 0)):=by
 obtain ⟨t,x,e6,h1⟩:=Ajq h;exact wN hm s cs (a.eval x).cells t (gQ (hs x x' h1) hc) (by simp [execOp,e6,Instr.box,newVar,newRow])
theorem Zw (hm:DJ B S w0 m) {s:Nat} {z:List AV} (h:CX P num o.op (.alloc s z)=true):EP B S w0 P o a m (.new s ⟨z.length,[z]⟩ (λ t => .ptr s t 0 0)):=by
 obtain ⟨t,e6,h1⟩:=Ajk h;obtain ⟨i,v,hi,hz,he⟩:=sE h1;exact wN hm s z v.cells t (ZV he) (by simp [execOp,e6,Instr.alloc,zeroValue,typeInfo,hi,hz,newVar,newRow])
theorem nZ (off:Nat) : ∀ (vs:List Value) (k:Nat) (cells:Array Value),off+k+vs.length<=cells.size ->
  ((vs.zipIdx k).foldl (λ cs (x:Value × Nat)=>cs.setIfInBounds (off+x.2) x.1) cells).toList=cells.toList.take (off+k)++vs++cells.toList.drop (off+k+vs.length)
 | [],k,cells,_=>by simp
 | v::r,k,cells,h=>by
  simp only[List.length_cons]at h;rw[List.zipIdx_cons,List.foldl_cons,nZ off r (k+1) _ (by simp;omega)];simp only[Array.toList_setIfInBounds,List.length_cons];apply List.ext_getElem?;intro q;have e1:(cells.toList.set (off+k) v).drop (off+(k+1)+r.length)=cells.toList.drop (off+k+(r.length+1)):=by
   rw[show off+(k+1)+r.length=off+k+(r.length+1) by omega];exact List.drop_set_of_lt (by omega)
  have e2:(cells.toList.set (off+k) v).take (off+(k+1))=cells.toList.take (off+k)++[v]:=by
   rw[show off+(k+1)=off+k+1 by omega,List.take_succ_eq_append_getElem (by simp;omega)];simp [List.take_set_of_le]
  rw[e1,e2];simp
theorem nQ (place:Nat->Option (Nat × Nat)) (hs:EM B S m ρ a.eval) : ∀ (ps:List (Nat × Operand)) (z9:List (Nat × Nat × B8)) (cs af:List AV) (vs:Array Value),YJ place ps z9=true->CL B S m cs vs.toList ->
  fill cs (z9.map λ p=>(p.1,p.2.1,ρ p.2.2))=some af -> ∃ u7,Instr.fill place vs (ps.map λ p=>(p.1,a.eval p.2))=some u7/\CL B S m af u7.toList
 | [],[],cs,af,vs,_,hc,hf=>by
  simp [fill]at hf;subst hf;exact ⟨vs,rfl,hc⟩
 | (i,x)::r,(off,n,y)::l,cs,af,vs,hp,hc,hf=>by
  simp only[YJ,Bool.and_eq_true,beq_iff_eq]at hp;obtain ⟨⟨Gp,tc⟩,hp3⟩:=hp;simp only[List.map_cons,fill]at hf;cases hcell:cellsOf (ρ y) with
  | none=>simp [hcell]at hf
  | some us =>
   simp only[hcell]at hf;split at hf
   ·rename_i hn
    obtain ⟨hn1,Al⟩:=hn;have w6:=gQ (hs x y tc) hcell;have m9:(a.eval x).cells.size=n:=by rw[<-hn1,w6.1];simp
    have re:off+(a.eval x).cells.size<=vs.size:=by rw[m9];have:=hc.1;simp at this;omega
    have ko:=nZ off (a.eval x).cells.toList 0 vs (by simpa using re);have ln:Instr.fill place vs (((i,x)::r).map λ p=>(p.1,a.eval p.2))=Instr.fill place ((a.eval x).cells.zipIdx.foldl (λ cs (c,j)=>cs.setIfInBounds (off+j) c) vs) (r.map λ p=>(p.1,a.eval p.2)):=by
     simp only[List.map_cons,Instr.fill,Gp];rw[if_neg (by simp;omega)]
    rw[ln];refine nQ place hs r l (splice cs off us) af _ hp3 ?_ hf;have hz:((a.eval x).cells.zipIdx.foldl (λ cs (c,j)=>cs.setIfInBounds (off+j) c) vs).toList=vs.toList.take off++(a.eval x).cells.toList++vs.toList.drop (off+(a.eval x).cells.toList.length):=by
     rw[<-Array.foldl_toList];simpa using ko
    rw[hz];unfold splice;refine ⟨?_,λ j c v hj hv => ?_⟩
    ·have:=hc.1;have:=w6.1;simp at *;omega
    ·have hl1:=hc.1
     have hl2:=w6.1;simp only[Array.length_toList]at hl1 hl2;rw[List.getElem?_append]at hj hv;simp only[List.length_append,List.length_take,Array.length_toList]at hj hv;rw[List.getElem?_append]at hj hv;simp only[List.length_take,Array.length_toList]at hj hv;have cu:min off cs.length=off:=by omega
     have hm2:min off vs.size=off:=by omega
     rw[cu]at hj;rw[hm2]at hv;rw[<-hl2]at hv;split at hj
     ·rename_i h1
      rw[if_pos h1]at hv;split at hj
      ·rename_i h2
       rw[if_pos h2]at hv;rw[List.getElem?_take]at hj hv;rw[if_pos h2]at hj hv;exact hc.2 j c v hj hv
      ·rename_i h2
       rw[if_neg h2]at hv;exact w6.2 _ c v hj hv
     ·rename_i h1
      rw[if_neg h1]at hv;rw[List.getElem?_drop]at hj hv;exact hc.2 _ c v hj hv
   ·cases hf
 | [],_::_,_,_,_,hp,_,_=>by simp [YJ]at hp
 | _::_,[],_,_,_,hp,_,_=>by simp [YJ]at hp
theorem Ago (hm:DJ B S w0 m) (hs:EM B S m ρ a.eval) {z:List AV} {z9:List (Nat × Nat × B8)} (h:CX P num o.op (.build z z9)=true) {cs:List AV} (hf:fill z (z9.map λ p=>(p.1,p.2.1,ρ p.2.2))=some cs) :
  EP B S w0 P o a m (.val (.agg cs)):=by
 obtain ⟨t,ps,e6,h1,h2⟩:=Ajs h;obtain ⟨i,v,hi,hz,he⟩:=sE h1;have key : ∃ u7,P.built t (ps.map λ p=>(p.1,a.eval p.2)).toList=some u7/\CL B S m cs u7.toList:=by
  unfold lL at h2;unfold Program.built;split at h2
  ·rename_i fs hu
   split at h2
   ·rename_i places hp
    obtain ⟨u7,h3,h4⟩:=nQ _ hs ps.toList z9 z cs v.cells h2 (ZV he) hf;refine ⟨u7,?_,h4⟩;simp only[hi,hu,hz,hp,Array.toList_map];exact h3
   ·cases h2
  ·rename_i n e hu
   split at h2
   ·rename_i ie Gb
    obtain ⟨u7,h3,h4⟩:=nQ _ hs ps.toList z9 z cs v.cells h2 (ZV he) hf;refine ⟨u7,?_,h4⟩;simp only[hi,hu,hz,Gb,Array.toList_map];exact h3
   ·cases h2
  ·cases h2
 obtain ⟨u7,h3,h4⟩:=key;refine GX hm (u := .agg u7) ?_ (.ca (by simpa using CA.agg cs u7.toList h4));simp only[execOp,e6,Sem.run_bind];rw[run_build m.w t _ u7 h3];rfl
theorem zI (size:Nat) (hs:EM B S m ρ a.eval) : ∀ (ps:List (Nat × Operand)) (z9:List B8) (k:Nat) (es:List (List AV)) (vs:Array Value),XU k ps z9=true->z9.mapM (λ x=>cellsOf (ρ x))=some es->(∀ e∈es,e.length=size)->vs.size=(k+z9.length)*size ->
  ∃ u7,Instr.fill (λ i=>some (i*size,size)) vs (ps.map λ p=>(p.1,a.eval p.2))=some u7/\u7.size=vs.size/\(∀ q,q<k*size->u7[q]? = vs[q]?) /\ ∀ i cs,es[i]? = some cs -> ∀ j c,cs[j]? = some c -> ∃ u,u7[(k+i)*size+j]? = some u/\CC B S m c u
 | [],[],k,es,vs,_,ct,_,_=>by
  simp at ct;subst ct;exact ⟨vs,rfl,rfl,λ_ _=>rfl,λ i cs hi=>by simp at hi⟩
 | (i,x)::r,y::l,k,es,vs,he,ct,hz,hv=>by
  simp only[XU,Bool.and_eq_true,beq_iff_eq]at he;obtain ⟨⟨rfl,h1⟩,h2⟩:=he;simp only[List.mapM_cons,Option.bind_eq_bind,Option.pure_def]at ct;cases hcell:cellsOf (ρ y) with
  | none=>simp [hcell]at ct
  | some us =>
   cases y7:l.mapM (λ x=>cellsOf (ρ x)) with
   | none=>simp [hcell,y7]at ct
   | some es' =>
    simp [hcell,y7]at ct;subst ct;have w6:=gQ (hs x y h1) hcell;have Qs:us.length=size:=hz us (by simp);have m9:(a.eval x).cells.size=size:=by rw[<-Qs,w6.1];simp
    simp only[List.length_cons]at hv;have hle:i*size+size<=vs.size:=by rw[hv,show i+(l.length+1)=i+1+l.length by omega,Nat.add_mul,Nat.add_mul];omega
    have ko:=nZ (i*size) (a.eval x).cells.toList 0 vs (by simp [m9];omega);generalize wj:(a.eval x).cells.zipIdx.foldl (λ cs (c,j)=>cs.setIfInBounds (i*size+j) c) vs=tt;have hz1:tt.toList=vs.toList.take (i*size)++(a.eval x).cells.toList++vs.toList.drop (i*size+size):=by
     rw[<-wj,<-Array.foldl_toList];simpa [m9] using ko
    have Ap:tt.size=vs.size:=by
     have:=congrArg List.length hz1
     simp [m9]at this;omega
    obtain ⟨u7,h3,h4,h5,h6⟩:=zI size hs r l (i+1) es' tt h2 y7 (λ e he=>hz e (by simp [he])) (by rw[Ap,hv];congr 1;omega);refine ⟨u7,?_,h4.trans Ap,λ q hq => ?_,λ i' cs i5 j c hj => ?_⟩
    ·simp only[List.map_cons,Instr.fill]
     rw[if_neg (by simp [m9];omega),wj];exact h3
    ·rw[h5 q (by rw[Nat.add_mul];omega)]
     have:tt.toList[q]? = vs.toList[q]? := by
      rw[hz1,List.append_assoc,List.getElem?_append_left (by simp;omega),List.getElem?_take,if_pos hq]
     simpa using this
    ·cases i' with
     | zero =>
      obtain rfl:us=cs:=by simpa using i5
      obtain ⟨u,hu,hcc⟩:=ZO w6 hj;have hjl:j<size:=by rw[<-Qs];exact (zS hj).1
      refine ⟨u,?_,hcc⟩;rw[Nat.add_zero,h5 _ (by rw[Nat.add_mul];omega)];have:tt.toList[i*size+j]? = some u:=by
       rw[hz1,List.append_assoc,List.getElem?_append_right (by simp;omega)];simp only[List.length_take,Array.length_toList,show min (i*size) vs.size=i*size by omega,show i*size+j-i*size=j by omega];rw[List.getElem?_append_left (by simp [m9];omega)];exact hu
      simpa using this
     | succ i' =>
      obtain ⟨u,hu,hcc⟩:=h6 i' cs (by simpa using i5) j c hj;exact ⟨u,by rw[show i+(i'+1)=i+1+i' by omega];exact hu,hcc⟩
 | [],_::_,_,_,_,he,_,_,_=>by simp [XU]at he
 | _::_,[],_,_,_,he,_,_,_=>by simp [XU]at he
theorem iV {s z n cap:Nat} {es:List (List AV)} {w':World} {g:Nat} {arr:Array Value} {e:TypeId} (hz:0<z) (hn:n<=cap) (hg:w'.heap[g]? = some (.cells arr e (0,0))) (hc:cap*z<=arr.size) :
  CV B S ⟨c9 m s (some g),m.own.put s ((m.own s).new ⟨z,es⟩),w'⟩ (.row s (m.own.c8 s) z 0 n) (.slice (some ⟨g,0,none⟩) n cap):=by
 refine .ca (.one (.row s (m.own.c8 s) z 0 n _ cap ?_ hz hn (λ_=>rfl) λ b' e7=>⟨?_,.inr ⟨g,arr,e,?_,by simp,hg,by simpa using hc⟩⟩))
 ·show _<BT.c8 _ s
  rw[O1];simp
 ·change BT.get _ s _=some b' at e7
  rw[JB,if_pos ⟨rfl,rfl⟩]at e7;obtain rfl:(⟨z,es⟩:GJ)=b':=by simpa using e7
  rfl
 ·simp [c9]
theorem wR (hm:DJ B S w0 m) (s z n cap:Nat) (es:List (List AV)) (vs:Array Value) (e:TypeId) (w4:0<z) (hn:n<=cap) (m9:cap*z<=vs.size) (hz : ∀ x∈es,x.length=z)
  (hc : ∀ i cs,es[i]? = some cs -> ∀ j c,cs[j]? = some c -> ∃ u,vs[i*z+j]? = some u/\CC B S m c u)
  (h:(execOp a.eval o).run P m.w = .ok (.value (.slice (some ⟨m.w.heap.size,0,none⟩) n cap)) (m.w.alloc (.cells vs e))) :
  EP B S w0 P o a m (.new s ⟨z,es⟩ (λ t => .row s t z 0 n)):=by
 intro K Q hK;obtain ⟨h1,h2⟩:=bM hm s ⟨z,es⟩ vs e hz hc;exact NR h (hK _ ⟨c9 m s (some m.w.heap.size),m.own.put s ((m.own s).new ⟨z,es⟩),m.w.alloc (.cells vs e)⟩ rfl h1 h2 (iV w4 hn (heap_alloc_new _ _) m9))
theorem Agn (hm:DJ B S w0 m) (hs:EM B S m ρ a.eval) {s a5:Nat} {z9:List B8} (h:CX P num o.op (.b8 s a5 z9)=true) {es:List (List AV)} (ct:z9.mapM (λ x=>cellsOf (ρ x))=some es) (hz : ∀ e∈es,e.length=a5) :
  EP B S w0 P o a m (.new s ⟨a5,es⟩ (λ t => .row s t a5 0 es.length)):=by
 obtain ⟨t,n,ps,e,i,e6,hu,hi,m9,h0,hn,Hc,u6,hzero⟩:=Ajr h;have hlen:es.length=n:=by
  rw[hn];clear h u6 hzero hn;induction z9 generalizing es with
  | nil=>simp at ct;subst ct;rfl
  | cons y l ih =>
   simp only[List.mapM_cons,Option.bind_eq_bind,Option.pure_def]at ct;cases hcell:cellsOf (ρ y) with
   | none=>simp [hcell]at ct
   | some us =>
    cases y7:l.mapM (λ x=>cellsOf (ρ x)) with
    | none=>simp [hcell,y7]at ct
    | some es' =>
     simp [hcell,y7]at ct;subst ct;simp [ih y7 (λ e he=>hz e (by simp [he]))]
 obtain ⟨zc,ml⟩ : ∃ zc:Array Value,(n*a5=0/\zc = #[])\/(¬ n*a5=0 /\ ∃ z,i.zero=some z/\zc=z.cells):=by
  by_cases hne:n*a5=0
  ·exact ⟨#[],.inl ⟨hne,rfl⟩⟩
  ·rcases hzero with mv|⟨z,hz1,hz2⟩
   ·simp [mv]at hne
   ·exact ⟨z.cells,.inr ⟨hne,z,hz1,rfl⟩⟩
 have wv:((Array.range (n*a5)).map (zc[· % zc.size]!)).size=n*a5:=by simp
 obtain ⟨u7,h3,h4,_,h6⟩:=zI a5 hs ps.toList z9 0 es _ u6 ct hz (by rw[wv,hn];simp);have i7:(execOp a.eval o).run P m.w = .ok (.value (.slice (some ⟨m.w.heap.size,0,none⟩) n n)) (m.w.alloc (.cells u7 e)):=by
  simp only[execOp,e6,Instr.buildSlice,Sem.run_bind,run_underlying hu,Result.andThen_ok,sizeOf,typeInfo,run_program,hi,Sem.run_pure,m9];simp only[show ¬ (n*a5>2^24) from by omega,if_false,Sem.run_bind,Sem.run_pure,Result.andThen_ok];rcases ml with ⟨mv,rfl⟩|⟨mv,z,hz1,rfl⟩
  ·simp only[mv,if_true,Sem.run_bind,Sem.run_pure,Result.andThen_ok,Array.toList_map]
   rw[mv]at h3;rw[h3];rfl
  ·simp only[mv,if_false,Sem.run_bind,Sem.run_pure,Result.andThen_ok,Array.toList_map,zeroValue,typeInfo,run_program,hi,hz1]
   rw[h3];rfl
 rw[hlen];exact wR hm s a5 n n es u7 e (Nat.pos_of_ne_zero h0) (Nat.le_refl _) (by rw[h4,wv];exact Nat.le_refl _) hz (λ i cs i5 j c hj=>by simpa using h6 i cs i5 j c hj) i7
end
end Go.Eng
