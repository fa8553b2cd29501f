/-
  The abstract machine: data without memory. AV: a value; slices that are only read are lists ('sl'), rows and boxes of the call's own are named by a site and a stamp.
  Nothing here speaks of a program; EngSound ties it to the model.
-/
import Derived.Calls
import Derived.Below
import Derived.Laws.CopyRow
import Derived.Laws.Cells
import Derived.Laws.MakeOwn
import Derived.Laws.AppendOwn
import Derived.Deep.AppendSrc
import Derived.Deep.Draws
import Derived.ArgAppend
import Derived.Laws.StructEq
import Derived.ChangeKeysEq
set_option linter.unusedSimpArgs false
set_option linter.unusedVariables false
set_option linter.unnecessarySimpa false
namespace Go.c5
theorem zE {α : Type} {l : List α} {i : Nat} (h : i < l.length) : l[i]? = some l[i] :=
 List.getElem?_eq_getElem h
theorem zS {α : Type} {l : List α} {i : Nat} {a : α} (h : l[i]? = some a) : ∃ h : i < l.length, l[i] = a :=
 List.getElem?_eq_some_iff.1 h
theorem zM {α : Type} {l : List α} {i : Nat} {a : α} (h : l[i]? = some a) : a ∈ l :=
 List.mem_of_getElem? h
end Go.c5
namespace Go.c5
inductive AV where
 | int (k:IntKind) (n:Int)
 | bool (b:Bool)
 | sl (l:Bool) (es:List (List AV))
 | row (s t z off len:Nat)
 | nil
 | ptr (s t i j:Nat)
 | o7 (cs:List AV)
 | agg (cs:List AV)
 | g7 (vs:List AV)
 | cj (v:Value)
 | fn (p:Bool) (f g:Nat) (cs:List AV)
 | any
 deriving Inhabited
inductive AP where
 | t (n:Nat)
 | c (v:AV)
 deriving Inhabited
structure DT where
 a7:Nat
 es:List (List AV)
structure CD where
 g9:Nat
 e8:Nat->Option DT
def AH:=Nat->CD
def AH.emp:AH:=λ_=>⟨0,λ_=>none⟩
def AH.put (o:AH) (s:Nat) (x:CD):AH:=λ s'=>if s'=s then x else o s'
def AH.get (o:AH) (s t:Nat):Option DT:=(o s).e8 t
def AH.g9 (o:AH) (s:Nat):Nat:=(o s).g9
def CD.n6 (x:CD) (t:Nat) (b:Option DT):CD:=⟨x.g9,λ t'=>if t'=t then b else x.e8 t'⟩
def CD.new (x:CD) (b:DT):CD:=⟨x.g9+1,λ t'=>if t'=x.g9 then some b else x.e8 t'⟩
theorem AH.j5 (o:AH) (s:Nat) (x:CD):o.put s x s=x:=by simp [AH.put]
theorem AH.fx (o:AH) (s s':Nat) (x:CD) (h:s'≠s):o.put s x s'=o s':=by simp [AH.put,h]
theorem AH.ik (o:AH) (s:Nat) (x y:CD):(o.put s x).put s y=o.put s y:=by
 funext s';by_cases h:s'=s<;>simp [AH.put,h]
inductive DY where
 | b7 (x:AP)
 | s9 (s a7:Nat)
 | pick (c a b:AP)
 | bin (op:BinOp) (x y:AP)
 | beq (ne:Bool) (x y:AP)
 | un (op:UnOp) (x:AP)
 | conv (k:IntKind) (x:AP)
 | box (s:Nat) (x:AP)
 | alloc (s:Nat) (zero:List AV)
 | build (zero:List AV) (parts:List (Nat × Nat × AP))
 | c7 (s a7:Nat) (parts:List AP)
 | a6 (x:AP) (off:Nat)
 | nc (x:AP) (off n:Nat) (agg:Bool)
 | a5 (arr:Option Nat) (a7:Nat) (x i:AP)
 | idx (len a7:Nat) (agg:Bool) (x i:AP)
 | ld (agg:Bool) (n:Nat) (x:AP)
 | st (n:Nat) (x v:AP)
 | mk (s a7 bytes:Nat) (zero:List AV) (l c:AP)
 | fg (a7:Nat) (x:AP) (lo hi:Option AP)
 | ext (x:AP) (i:Nat)
 | len (x:AP)
 | mm (max:Bool) (xs:List AP)
 | app (s a7 bytes:Nat) (x y:AP)
 | oa (a7:Nat) (x y:AP)
 | call (f:Nat) (xs:List AP)
 | e9 (f:Nat) (xs:List AP)
 | rh (ne:Bool) (x:AP)
 | fy (tb:List Nat) (x:AP)
 | pd (p:Bool) (f:Nat) (xs:List AP)
 | m9 (x:AP) (xs:List AP)
 | sn (agg:Bool) (n:Nat) (x:AP)
 | qg (f:Nat) (x:AP)
 | l9 (f:Nat) (xs:List AP)
 | na (s n:Nat) (x v:AP)
 | o9 (s f:Nat) (xs:List AP)
 | qh (ne:Bool) (n:Nat) (x y:AP)
 | dj (s a7 bytes:Nat) (x y:AP)
 | er (x:AP)
 | nb (s a7 bytes:Nat) (x y:AP)
 | nw (s a7 bytes:Nat) (x y:AP)
 | bg (s f:Nat) (xs:List AP)
 | bad
 | su (x:AP)
 deriving Inhabited
structure AI where
 dst:Option Nat
 op:DY
 guard:Option (Nat × Bool):=none
 b9:List Nat:=[]
 deriving Inhabited
inductive BI where
 | skip
 | ops (l:List AI) (draw:Bool)
 | dr (c:BI) (ts ss:List Nat)
 | scope (c:BI)
 | seq (a b:BI)
 | cond (c:AP) (a b:BI)
 | block (id:Nat) (c:BI)
 | loop (c:BI)
 | exit (id:Nat)
 | ret
 deriving Inhabited
inductive IY where
 | tmp (t:Nat)
 | cell (t:Nat) (agg:Bool) (n:Nat)
 deriving Inhabited
structure AFn where
 z8:Nat
 body:BI
 res:List IY
 pf:Bool
abbrev Tm:=List (Nat × AV)
def g6:Tm->Nat->AV
 | [],_ => .any
 | (i,v)::r,j=>if j=i then v else g6 r j
def je:Tm->Nat->AV->Tm
 | [],j,u=>[(j,u)]
 | (i,v)::r,j,u=>if j=i then (i,u)::r else if j<i then (j,u)::(i,v)::r else (i,v)::je r j u
def y7:Tm->List Nat->Tm
 | [],_=>[]
 | (i,v)::r,l=>if l.contains i then y7 r l else (i,v)::y7 r l
theorem WT (m:Tm) (i:Nat) (v:AV) (j:Nat):g6 (je m i v) j=if j=i then v else g6 m j:=by
 induction m with
 | nil=>by_cases h:j=i<;>simp [je,g6,h]
 | cons x r ih =>
  obtain ⟨a,u⟩:=x;by_cases h:i=a
  ·subst h
   by_cases h2:j=i<;>simp [je,g6,h2]
  ·by_cases k7:i<a
   ·by_cases h2:j=i<;>simp [je,g6,h,k7,h2]
   ·by_cases h2:j=a
    ·subst h2
     have : ¬ j=i:=λ e=>h e.symm
     simp [je,g6,h,k7,this]
    ·simp [je,g6,h,k7,h2,ih]
structure St where
 tm:Tm
 own:AH
def St.ev (st:St):AP->AV
 | .t n=>g6 st.tm n
 | .c v=>v
inductive CB where
 | val (v:AV)
 | new (s:Nat) (b:DT) (v:Nat->AV)
 | ye (s:Nat) (b:DT) (v:Nat->AV)
 | bu (v:AV) (own:AH)
 | n6 (s:Nat) (x:CD)
 | sv (s:Nat) (x:CD) (v:AV)
def cellsOf:AV->Option (List AV)
 | .agg cs=>some cs
 | .fn _ _ _ _=>none
 | .g7 _=>none
 | .any=>none
 | v=>some [v]
def H4 (agg:Bool) (cs:List AV):Option AV :=
 if agg then some (.agg cs) else match cs with|[c]=>some c|_=>none
def part (cs:List AV) (off n:Nat):Option (List AV) :=
 if off+n<=cs.length then some ((cs.drop off).take n) else none
def splice (cs:List AV) (off:Nat) (vs:List AV):List AV:=cs.take off++vs++cs.drop (off+vs.length)
def fill (cells:List AV):List (Nat × Nat × AV)->Option (List AV)
 | []=>some cells
 | (off,n,v)::r=>match cellsOf v with
  | some vs=>if vs.length=n/\off+n<=cells.length then fill (splice cells off vs) r else none
  | none=>none
def DI (op:BinOp) (k:IntKind) (a:Int) (k':IntKind) (b:Int):Option AV :=
 match op with
 | .shl=>if b<0 then none else some (.int k (k.wrap (a*2^(min b.toNat k.bits))))
 | .shr=>if b<0 then none else some (.int k (a.fdiv (2^(min b.toNat k.bits))))
 | .add=>if k=k' then some (.int k (k.wrap (a+b))) else none
 | .sub=>if k=k' then some (.int k (k.wrap (a-b))) else none
 | .mul=>if k=k' then some (.int k (k.wrap (a*b))) else none
 | .quo=>if k=k'/\b≠0 then some (.int k (k.wrap (a.tdiv b))) else none
 | .rem=>if k=k'/\b≠0 then some (.int k (a.tmod b)) else none
 | .and=>if k=k' then some (.int k (k.wrap (BitVec.ofInt k.bits a &&& BitVec.ofInt k.bits b).toNat)) else none
 | .or=>if k=k' then some (.int k (k.wrap (BitVec.ofInt k.bits a ||| BitVec.ofInt k.bits b).toNat)) else none
 | .xor=>if k=k' then some (.int k (k.wrap (BitVec.ofInt k.bits a ^^^ BitVec.ofInt k.bits b).toNat)) else none
 | .andNot=>if k=k' then some (.int k (k.wrap (BitVec.ofInt k.bits a &&& ~~~ BitVec.ofInt k.bits b).toNat)) else none
 | .eql=>if k=k' then some (.bool (a == b)) else none
 | .neq=>if k=k' then some (.bool (a != b)) else none
 | .lss=>if k=k' then some (.bool (decide (a<b))) else none
 | .leq=>if k=k' then some (.bool (decide (a<=b))) else none
 | .gtr=>if k=k' then some (.bool (decide (a>b))) else none
 | .geq=>if k=k' then some (.bool (decide (a≥b))) else none
def Q0 (op:UnOp):AV->Option AV
 | .int k n=>match op with
  | .neg=>some (.int k (k.wrap (0-n)))
  | .xor=>some (.int k (k.wrap (BitVec.ofInt k.bits (if k.signed then -1 else k.max) ^^^ BitVec.ofInt k.bits n).toNat))
  | _=>none
 | .bool b=>match op with
  | .not=>some (.bool (!b))
  | _=>none
 | _=>none
def PN (max:Bool):AV->AV->Option AV
 | .int k a,.int _ b=>some (.int k (if max then (if b>a then b else a) else (if b<a then b else a)))
 | _,_=>none
def J4 (max:Bool):AV->List AV->Option AV
 | v,[]=>some v
 | v,u::r=>match PN max v u with|some x=>J4 max x r|none=>none
def AH.m4 (o:AH):List Nat->AH
 | []=>o
 | s::r=>λ s'=>if s'=s then ⟨0,λ_=>none⟩ else o.m4 r s'
def AH.pc (own:AH) (s t i j n:Nat):Option (List AV) :=
 match own.get s t with
 | some b=>match b.es[i]? with
  | some cs=>part cs j n
  | none=>none
 | none=>none
def AH.kz (own:AH) (s t i j:Nat) (vs:List AV):Option AH :=
 match own.get s t with
 | some b=>match b.es[i]? with
  | some cs=>if j+vs.length<=cs.length then some (own.put s ((own s).n6 t (some ⟨b.a7,b.es.set i (splice cs j vs)⟩))) else none
  | none=>none
 | none=>none
def EA (own:AH):AV->Option (List (List AV))
 | .sl _ es=>some es
 | .nil=>some []
 | .cj (.bool _)=>some []
 | .row s t z off len=>match own.get s t with
  | some b=>if off+len<=b.es.length/\b.a7=z then some ((b.es.drop off).take len) else none
  | none=>none
 | _=>none
def lenOf:AV->Option Nat
 | .sl _ es=>some es.length
 | .nil=>some 0
 | .row _ _ _ _ len=>some len
 | _=>none
def snap (own:AH) (l:Bool):Nat->AV->Option AV
 | _,.int k n=>some (.int k n)
 | _,.bool b=>some (.bool b)
 | _,.sl l' es=>some (.sl l' es)
 | _,.nil=>some (.sl false [])
 | _,.cj v=>some (.cj v)
 | d+1,.row s t z off len=>match EA own (.row s t z off len) with
  | some es=>(es.mapM (λ cs:List AV=>cs.mapM (snap own l d))).map (AV.sl l)
  | none=>none
 | _,_=>none
def C7 (own:AH) (l:Bool):AV->Option AV
 | .agg cs=>(cs.mapM (snap own l 6)).map AV.agg
 | v=>snap own l 6 v
def OZ (own:AH) (l:Bool):AV->Option AV
 | .nil=>some .nil
 | v=>C7 own l v
def QW (own:AH) (l:Bool):AV->Option AV
 | .g7 cs=>(cs.mapM (C7 own l)).map AV.g7
 | v=>C7 own l v
mutual
def A4:AV->Prop
 | .int _ _=>True
 | .bool _=>True
 | .cj _=>True
 | .sl l es=>l=false/\F5 es
 | .agg cs=>CW cs
 | .g7 cs=>CW cs
 | _=>False
def CW:List AV->Prop
 | []=>True
 | c::r=>A4 c/\CW r
def F5:List (List AV)->Prop
 | []=>True
 | c::r=>CW c/\F5 r
end
def DP:Nat:=140737488355328
structure Cl where
 pure:Nat->List AV->Option AV
 gp:Nat->List AV->AH->Option (AV × AH)
 num:Nat->Nat
noncomputable def XW (C:Cl) (f:Nat) (vs:List AV) (s:Nat) (q:CD):Option (AV × CD) :=
 open Classical in if h : ∃ p : AV × CD, ∀ o : AH, o s = q -> C.gp f vs o = some (p.1, o.put s p.2) then some h.choose else none
theorem XX {C:Cl} {f:Nat} {vs:List AV} {s:Nat} {q:CD} {p:AV × CD}:XW C f vs s q=some p ↔ ∀ o:AH,o s=q->C.gp f vs o=some (p.1,o.put s p.2):=by
 unfold XW;constructor
 ·intro h
  split at h
  ·rename_i hx
   obtain rfl:=Option.some.inj h;exact hx.choose_spec
  ·cases h
 ·intro h
  rw[dif_pos ⟨p,h⟩];have h1:=(⟨p,h⟩ : ∃ p:AV × CD,∀ o:AH,o s=q->C.gp f vs o=some (p.1,o.put s p.2)).choose_spec (λ_=>q) rfl;have h2:=h (λ_=>q) rfl;have h3:=Option.some.inj (h2.symm.trans h1);refine congrArg some ?_;generalize (Exists.choose _:AV × CD)=p' at h3;obtain ⟨a,b⟩:=p;obtain ⟨a',b'⟩:=p';simp only[Prod.mk.injEq]at h3;obtain ⟨h4,h5⟩:=h3;have h6:b=b':=by
   have:=congrFun h5 s
   simpa [AH.put] using this
  rw[h4,h6]
def UC:AV->AV
 | .sl _ es => .sl false es
 | .nil => .sl false []
 | v=>v
def wc:AV->AV
 | .agg cs => .agg (cs.map UC)
 | v=>UC v
def VX:AV->AV
 | .sl _ es => .sl true es
 | v=>v
def xv:AV->AV
 | .agg cs => .agg (cs.map VX)
 | v=>VX v
mutual
def HC:AV->AV
 | .sl _ es => .sl true (VV es)
 | v=>v
def K6:List AV->List AV
 | []=>[]
 | c::r=>HC c::K6 r
def VV:List (List AV)->List (List AV)
 | []=>[]
 | c::r=>K6 c::VV r
end
def OS:AV->AV
 | .agg cs => .agg (K6 cs)
 | v=>HC v
def SJ:AV->Prop
 | .g7 _=>False
 | .fn _ _ _ _=>False
 | _=>True
def GI:AV->Bool
 | .int _ _=>true | .bool _=>true | .sl _ _=>true | .nil=>true
 | _=>false
def dq:AV->Bool
 | .agg cs=>cs.all GI
 | v=>GI v
def qT:AV->Bool
 | .int _ _=>true | .bool _=>true
 | _=>false
def UI:AV->Prop
 | .int _ _=>True
 | .bool _=>True
 | .sl _ es => ∀ e∈es,∀ c∈e,qT c=true
 | _=>False
def JS:AV->Prop
 | .agg cs => ∀ c∈cs,UI c
 | v=>UI v
open Classical in
noncomputable def K7 (r:AV):AV:=if JS r then xv r else OS r
theorem dO {r:AV} (h:JS r):K7 r=xv r:=if_pos h
theorem qB {r:AV} (h : ¬ JS r):K7 r=OS r:=if_neg h
def HO:List AV->Option (List Int)
 | []=>some []
 | .int .i64 n::r=>(HO r).map (n :: ·)
 | _=>none
def GM:AV->Option AV
 | .agg _=>none
 | .fn _ _ _ _=>none
 | .g7 _=>none
 | .any=>none
 | v=>some v
open Classical in
noncomputable def OH (x:Option (AV × AH)):Option (Nat × List (List AV)):=match x with
 | some (.row s t z 0 n,o)=>match o.get s t with
  | some b=>if b.es.length=n/\F5 b.es then some (z,b.es) else none
  | none=>none
 | _=>none
theorem zG {x:Option (AV × AH)} {z:Nat} {es:List (List AV)} (h:OH x=some (z,es)) : ∃ s t o b,x=some (.row s t z 0 es.length,o)/\o.get s t=some b/\b.es=es/\F5 es:=by
 unfold OH at h;split at h
 ·split at h
  ·rename_i s t z' n o b hb
   split at h
   ·rename_i hc
    obtain ⟨rfl,hc⟩:=hc;simp only[Option.some.injEq,Prod.mk.injEq]at h;obtain ⟨rfl,rfl⟩:=h;exact ⟨_,_,_,_,rfl,hb,rfl,hc⟩
   ·cases h
  ·cases h
 ·cases h
open Classical in
noncomputable def c9 (C:Cl) (b9:List Nat) (ρ:AP->AV) (own:AH):DY->Option CB
 | .b7 x=>some (.val (ρ x))
 | .s9 s a7=>some (.ye s ⟨a7,[]⟩ (λ t => .row s t a7 0 0))
 | .pick c a b=>match ρ c with
  | .bool true=>some (.val (ρ a))
  | .bool false=>some (.val (ρ b))
  | _=>none
 | .bin op x y=>match ρ x,ρ y with
  | .int k a,.int k' b=>(DI op k a k' b).map .val
  | _,_=>none
 | .beq ne x y=>match ρ x,ρ y with
  | .bool a,.bool b=>some (.val (.bool (if ne then !(a == b) else a == b)))
  | _,_=>none
 | .un op x=>(Q0 op (ρ x)).map .val
 | .conv k x=>match ρ x with
  | .int _ n=>some (.val (.int k (k.wrap n)))
  | _=>none
 | .box s x=>match cellsOf (ρ x) with
  | some cs=>some (.new s ⟨cs.length,[cs]⟩ (λ t => .ptr s t 0 0))
  | none=>none
 | .alloc s zero=>some (.new s ⟨zero.length,[zero]⟩ (λ t => .ptr s t 0 0))
 | .build zero parts=>(fill zero (parts.map λ p=>(p.1,p.2.1,ρ p.2.2))).map (λ cs => .val (.agg cs))
 | .c7 s a7 parts=>match parts.mapM (λ x=>cellsOf (ρ x)) with
  | some es=>if ∀ e∈es,e.length=a7 then some (.new s ⟨a7,es⟩ (λ t => .row s t a7 0 es.length)) else none
  | none=>none
 | .a6 x off=>match ρ x with
  | .ptr s t i j=>some (.val (.ptr s t i (j+off)))
  | .o7 cs=>some (.val (.o7 (cs.drop off)))
  | _=>none
 | .nc x off n agg=>match ρ x with
  | .agg cs=>match part cs off n with
   | some ds=>(H4 agg ds).map .val
   | none=>none
  | _=>none
 | .a5 arr a7 x i=>match ρ i with
  | .int _ n=>match arr,ρ x with
   | some len,.ptr s t i' j=>if 0<=n/\n<len then some (.val (.ptr s t i' (j+n.toNat*a7))) else none
   | some len,.o7 cs=>if 0<=n/\n<len then some (.val (.o7 (cs.drop (n.toNat*a7)))) else none
   | none,.row s t z off len=>if 0<=n/\n<len/\z=a7 then some (.val (.ptr s t (off+n.toNat) 0)) else none
   | none,.sl _ es=>if 0<=n then match es[n.toNat]? with
     | some cs=>if cs.length=a7 then some (.val (.o7 cs)) else none
     | none=>none
    else none
   | _,_=>none
  | _=>none
 | .idx len a7 agg x i=>match ρ i,ρ x with
  | .int _ n,.agg cs=>if 0<=n/\n<len then match part cs (n.toNat*a7) a7 with
    | some ds=>(H4 agg ds).map .val
    | none=>none
   else none
  | _,_=>none
 | .ld agg n x=>match ρ x with
  | .ptr s t i j=>match (own.m4 b9).pc s t i j n with
   | some cs=>(H4 agg cs).map .val
   | none=>none
  | .o7 cs=>match part cs 0 n with
   | some ds=>(H4 agg ds).map .val
   | none=>none
  | _=>none
 | .sn agg n x=>match ρ x with
  | .o7 cs=>match part cs 0 n with
   | some ds=>(H4 agg ds).map .val
   | none=>none
  | _=>none
 | .st n x v=>match ρ x,cellsOf (ρ v) with
  | .ptr s t i j,some vs=>if vs.length=n then (own.kz s t i j vs).map (CB.bu (.g7 [])) else none
  | _,_=>none
 | .mk s a7 bytes zero l c=>match ρ l,ρ c with
  | .int _ a,.int _ b=>if 0<=a/\a<=b/\b*bytes<=DP/\b<=9223372036854775807/\zero.length=a7 then some (.new s ⟨a7,List.replicate a.toNat zero⟩ (λ t => .row s t a7 0 a.toNat)) else none
  | _,_=>none
 | .fg a7 x lo hi=>match ρ x with
  | .sl l es =>
   let h:Option Nat:=match hi with|none=>some es.length|some o=>match ρ o with | .int _ n=>if 0<=n/\n<=es.length then some n.toNat else none|_=>none
   let a:Option Nat:=match lo with|none=>some 0|some o=>match ρ o with | .int _ n=>if 0<=n then some n.toNat else none|_=>none
   match a,h with
   | some a,some h=>if a<=h /\ ∀ e∈es,e.length=a7 then some (.val (.sl l ((es.take h).drop a))) else none
   | _,_=>none
  | .nil =>
   let h:Option Nat:=match hi with|none=>some 0|some o=>match ρ o with | .int _ n=>if n=0 then some 0 else none|_=>none
   let a:Option Nat:=match lo with|none=>some 0|some o=>match ρ o with | .int _ n=>if n=0 then some 0 else none|_=>none
   match a,h with
   | some _,some _=>some (.val .nil)
   | _,_=>none
  | .row s t z off len =>
   let h:Option Nat:=match hi with|none=>some len|some o=>match ρ o with | .int _ n=>if 0<=n/\n<=len then some n.toNat else none|_=>none
   let a:Option Nat:=match lo with|none=>some 0|some o=>match ρ o with | .int _ n=>if 0<=n then some n.toNat else none|_=>none
   match a,h with
   | some a,some h=>if a<=h/\z=a7 then some (.val (.row s t z (off+a) (h-a))) else none
   | _,_=>none
  | _=>none
 | .ext x i=>match ρ x with
  | .g7 vs=>(vs[i]?).map .val
  | _=>none
 | .len x=>match lenOf (ρ x) with
  | some n=>some (.val (.int .i64 (n:Int)))
  | none=>none
 | .mm max xs=>match xs.map ρ with
  | []=>none
  | v::r=>(J4 max v r).map .val
 | .app s a7 bytes x y=>match EA own (ρ y) with
  | some ys=>if ∀ e∈ys,e.length=a7 then match ρ x with
    | .row s' t z 0 len=>match own.get s' t with
     | some b=>if b.a7=a7/\z=a7/\len<=b.es.length/\(len+ys.length)*bytes<=DP/\len+ys.length<=9223372036854775807 then
       some (.bu (.row s' (own.g9 s') a7 0 (len+ys.length)) (own.put s' (((own s').n6 t none).new ⟨a7,b.es.take len++ys⟩)))
      else none
     | none=>none
    | .nil=>if ys.length*bytes<=DP/\ys.length<=9223372036854775807 then
       some (.bu (.row s (own.g9 s) a7 0 ys.length) (own.put s ((own s).new ⟨a7,ys⟩))) else none
    | _=>none
   else none
  | none=>none
 | .dj s a7 bytes x y=>match ρ y,ρ x with
  | .sl _ ys,.row s' t z 0 len=>match own.get s t with
   | some b=>if s'=s/\(∀ e∈ys,e.length=a7)/\b.a7=a7/\z=a7/\len<=b.es.length/\(len+ys.length)*bytes<=DP/\len+ys.length<=9223372036854775807 then
     some (.sv s (((own s).n6 t none).new ⟨a7,b.es.take len++ys⟩) (.row s (own.g9 s) a7 0 (len+ys.length)))
    else none
   | none=>none
  | _,_=>none
 | .oa a7 x y=>match ρ x,EA own (ρ y) with
  | .row s t z off len,some ys=>match own.get s t with
   | some b=>if b.a7=a7/\z=a7/\off+len<=b.es.length/\(∀ e∈ys,e.length=a7) then
     some (.bu (.int .i64 (min ys.length len:Nat)) (own.put s ((own s).n6 t (some ⟨a7,b.es.take off++ys.take len++b.es.drop (off+min ys.length len)⟩))))
    else none
   | none=>none
  | _,_=>none
 | .call f xs=>match (xs.map ρ).mapM (C7 (own.m4 b9) true) with
  | some vs=>(C.pure f vs).map .val
  | none=>none
 | .e9 f xs=>(C.gp f (xs.map ρ) own).map (λ r => .bu r.1 r.2)
 | .rh ne x=>match ρ x with
  | .nil=>some (.val (.bool (xor true ne)))
  | .cj (.bool b)=>some (.val (.bool (xor b ne)))
  | .sl _ (_::_)=>some (.val (.bool (xor false ne)))
  | .row _ _ _ _ (_+1)=>some (.val (.bool (xor false ne)))
  | _=>none
 | .bad=>none
 | .su x=>match ρ x with
  | .ptr s t i j=>some (.val (.ptr s t i j))
  | _=>none
 | .er x=>match ρ x with
  | .nil=>some (.val (.int .i64 0))
  | _=>none
 | .nb s a7 bytes x y=>match ρ x,ρ y with
  | .nil,.int _ n=>if 0<n/\n*bytes<=DP/\n<=9223372036854775807 then some (.new s ⟨a7,[]⟩ (λ t => .row s t a7 0 n.toNat)) else none
  | _,_=>none
 | .bg s f xs=>(XW C f (xs.map ρ) s (own s)).map λ p => .sv s p.2 p.1
 | .nw s a7 bytes x y=>match ρ x,ρ y with
  | .nil,.sl _ ys=>if (∀ e∈ys,e.length=a7)/\0<ys.length/\ys.length*bytes<=DP/\ys.length<=9223372036854775807 then some (.new s ⟨a7,ys⟩ (λ t => .row s t a7 0 ys.length)) else none
  | _,_=>none
 | .fy tb x=>match ρ x with
  | .int _ n=>if 0<=n then (match tb[n.toNat]? with
   | some v=>some (.val (.int .u8 v))
   | none=>none) else none
  | _=>none
 | .pd p f xs=>(xs.mapM (λ x=>GM (ρ x))).map (λ cs => .val (.fn (p&&cs.isEmpty) f (C.num f) cs))
 | .qg f x=>match ρ x with
  | .agg (c::cs)=>some (.val (.fn true f (C.num f) (c::cs)))
  | _=>none
 | .l9 f xs=>if (xs.map ρ).all dq=true then (match C.pure f ((xs.map ρ).map wc) with
   | some r=>if JS r\/SJ r then some (.val (K7 r)) else none
   | none=>none) else none
 | .na s n x v=>match ρ x,cellsOf (ρ v) with
  | .ptr s' t i j,some vs=>if s'=s/\vs.length=n then (own.kz s t i j vs).map (λ o'=>CB.n6 s (o' s)) else none
  | _,_=>none
 | .qh ne n x y=>match ρ x,ρ y with
  | .agg cs,.agg ds=>match HO cs,HO ds with
   | some a,some b=>if a.length=n/\b.length=n then some (.val (.bool (if ne then !(decide (a=b)) else decide (a=b)))) else none
   | _,_=>none
  | _,_=>none
 | .o9 s f xs=>match (xs.map ρ).mapM (OZ (own.m4 b9) true) with
  | some vs=>(OH (C.gp f vs AH.emp)).map (λ r => .new s ⟨r.1,r.2⟩ (λ t => .row s t r.1 0 r.2.length))
  | none=>none
 | .m9 x xs=>match ρ x with
  | .fn p f g cs=>if g=C.num f then (match p,cs with
   | true,[]=>(match (xs.map ρ).mapM (C7 own true) with
    | some vs=>(C.pure f vs).map .val
    | none=>none)
   | false,cs=>(C.gp f (xs.map ρ++cs) own).map (λ r => .bu r.1 r.2)
   | true,c::cs=>(match (AV.agg (c::cs)::xs.map ρ).mapM (C7 own true) with
    | some vs=>(C.pure f vs).map .val
    | none=>none)) else none
  | _=>none
def St.dst (st:St) (d:Option Nat) (v:AV):St :=
 match d with
 | some d=>{ st with tm:=je st.tm d v }
 | none=>st
def St.app (st:St) (d:Option Nat):CB->St
 | .val v=>st.dst d v
 | .new s b v=>{ (st.dst d (v (st.own.g9 s))) with own:=st.own.put s ((st.own s).new b) }
 | .ye s b v=>{ (st.dst d (v (st.own.g9 s))) with own:=st.own.put s ((st.own s).new b) }
 | .bu v o=>{ (st.dst d v) with own:=o }
 | .n6 s x=>{ (st.dst d (.g7 [])) with own:=st.own.put s x }
 | .sv s x v=>{ (st.dst d v) with own:=st.own.put s x }
def FE (st:St):Option (Nat × Bool)->Option Bool
 | none=>some true
 | some (g,want)=>match g6 st.tm g with
  | .bool b=>some (b == want)
  | .g7 []=>some false
  | _=>none
noncomputable def C8 (C:Cl) (o:AI) (st:St):Option St :=
 match FE st o.guard with
 | some true=>(c9 C o.b9 st.ev st.own o.op).map (st.app o.dst)
 | some false=>some (st.dst o.dst (.g7 []))
 | none=>none
noncomputable def DB (C:Cl):List AI->St->Option St
 | [],st=>some st
 | o::r,st=>match C8 C o st with
  | some j7=>DB C r j7
  | none=>none
def EH:DY->Option Nat
 | .s9 s _=>some s
 | .box s _=>some s
 | .alloc s _=>some s
 | .c7 s _ _=>some s
 | .mk s _ _ _ _ _=>some s
 | .na s _ _ _=>some s
 | .o9 s _ _=>some s
 | .dj s _ _ _ _=>some s
 | .nb s _ _ _ _=>some s
 | .nw s _ _ _ _=>some s
 | .bg s _ _=>some s
 | _=>none
inductive It where
 | code (c:BI)
 | jx (ts ss:List Nat)
 | e8 (id:Nat)
 | lp (c:BI)
def DW (id:Nat):List It->Option (List It)
 | .e8 Hz::k=>if Hz=id then some k else DW id k
 | _::k=>DW id k
 | []=>none
def AH.drop (o:AH):List Nat->AH
 | []=>o
 | s::r=>(o.drop r).put s ⟨(o s).g9,λ_=>none⟩
noncomputable def run (C:Cl):Nat->List It->St->Option St
 | 0,_,_=>none
 | _+1,[],st=>some st
 | n+1,.e8 _::k,st=>run C n k st
 | n+1,.jx ts ss::k,st=>run C n k ⟨y7 st.tm ts,st.own.drop ss⟩
 | n+1,.lp c::k,st=>run C n (.code c :: .lp c::k) st
 | n+1,.code c::k,st=>match c with
  | .skip=>run C n k st
  | .ops l _=>match DB C l st with
   | some j7=>run C n k j7
   | none=>none
  | .dr c ts ss=>run C n (.code c :: .jx ts ss::k) st
  | .scope c=>run C n (.code c::k) st
  | .seq a b=>run C n (.code a :: .code b::k) st
  | .cond c a b=>match st.ev c with
   | .bool true=>run C n (.code a::k) st
   | .bool false=>run C n (.code b::k) st
   | _=>none
  | .block id c=>run C n (.code c :: .e8 id::k) st
  | .loop c=>run C n (.code c :: .lp c::k) st
  | .exit id=>match DW id k with
   | some k'=>run C n k' st
   | none=>none
  | .ret=>some st
def CY (i:Nat):List AV->Tm
 | []=>[]
 | v::r=>(i,v)::CY (i+1) r
def IG:AV->Option AV
 | .any=>none
 | .g7 _=>none
 | v=>some v
def E5 (st:St):IY->Option AV
 | .tmp t=>IG (g6 st.tm t)
 | .cell t agg n=>match g6 st.tm t with
  | .ptr s u i j=>match st.own.pc s u i j n with
   | some cs=>H4 agg cs
   | none=>none
  | _=>none
def HP:List AV->AV
 | [v]=>v
 | vs => .g7 vs
structure Lib where
 fn:Nat->Option AFn
 num:Nat->Nat
instance : CoeFun Lib (λ_ => Nat -> Option AFn) := ⟨Lib.fn⟩
open Classical in
noncomputable def H7 (I:List AV->Option (AV × AH)) (vs:List AV):Option AV :=
 match I vs with
 | some (r,o)=>match QW o false r with
  | some r'=>if A4 r' then some r' else none
  | none=>none
 | none=>none
def Lib.pf (L:Lib) (f:Nat):Bool:=match L f with
 | some fn=>fn.pf
 | none=>false
open Classical in
noncomputable def J8 (b:Bool) (I:List AV->Option (AV × AH)) (vs:List AV):Option AV:=match b,vs with
 | true,.sl _ []::vs=>match H7 I (.cj (.bool true)::vs),H7 I (.cj (.bool false)::vs) with
  | some r,some r'=>if r=r' then some r else none
  | _,_=>none
 | _,vs=>H7 I vs
noncomputable def DN (L:Lib):Nat->Nat->List AV->AH->Option (AV × AH)
 | 0,_,_,_=>none
 | n+1,f,args,own=>match L f with
  | none=>none
  | some fn=>if args.length=fn.z8 then
    match run ⟨λ f vs=>J8 (L.pf f) (λ vs=>DN L n f vs AH.emp) vs,DN L n,L.num⟩ n [.code fn.body] ⟨CY 0 args,own⟩ with
    | some st=>match fn.res.mapM (E5 st) with
     | some vs=>some (HP vs,st.own)
     | none=>none
    | none=>none
   else none
noncomputable def GX (L:Lib) (n f:Nat) (vs:List AV):Option AV:=J8 (L.pf f) (λ vs=>DN L n f vs AH.emp) vs
noncomputable def C3 (L:Lib) (n:Nat):Cl:=⟨GX L n,DN L n,L.num⟩
theorem U7 (L:Lib) (n f:Nat) (args:List AV) (own:AH):DN L (n+1) f args own =
  match L f with
  | none=>none
  | some fn=>if args.length=fn.z8 then
    match run (C3 L n) n [.code fn.body] ⟨CY 0 args,own⟩ with
    | some st=>match fn.res.mapM (E5 st) with
     | some vs=>some (HP vs,st.own)
     | none=>none
    | none=>none
   else none:=rfl
namespace C
abbrev o (d:Nat) (op:DY):AI:=⟨some d,op,none,[]⟩
abbrev n (op:DY):AI:=⟨none,op,none,[]⟩
abbrev g (d i:Nat) (b:Bool) (op:DY):AI:=⟨some d,op,some (i,b),[]⟩
abbrev m (d s:Nat):AI:=⟨some d,.b7 (.t s),none,[]⟩
abbrev k (v:Int):AP := .c (.int .i64 v)
abbrev z:AV := .int .i64 0
abbrev q (d:Nat) (b9:List Nat) (op:DY):AI:=⟨some d,op,none,b9⟩
abbrev u (b9:List Nat) (op:DY):AI:=⟨none,op,none,b9⟩
abbrev v (d i:Nat) (b:Bool) (b9:List Nat) (op:DY):AI:=⟨some d,op,some (i,b),b9⟩
abbrev p (l:List AI):BI := .ops l false
abbrev P (l:List AI):BI := .ops l true
abbrev d (l:List AI) (ts:List Nat):BI := .dr (.ops l false) ts []
abbrev e (l:List AI) (ts:List Nat):BI := .dr (.ops l true) ts []
abbrev s (a b:BI):BI := .seq a b
abbrev i (c:AP) (a b:BI):BI := .cond c a b
abbrev b (id:Nat) (c:BI):BI := .block id c
abbrev w (c:BI):BI := .loop c
abbrev x (id:Nat):BI := .exit id
instance (i : Nat) : OfNat AP i := ⟨.t i⟩
end C
end Go.c5
namespace Go.c5
def YF:Value->AV->Bool
 | .int k n,.int k' n'=>k == k'&&n == n'
 | .bool b,.bool b'=>b == b'
 | .slice none 0 0,.nil=>true
 | .string s,.cj (.string s')=>s.data.toList == s'.data.toList
 | _,_=>false
def PF:List Value->List AV->Bool
 | [],[]=>true
 | v::r,a::l=>YF v a&&PF r l
 | _,_=>false
def cD:Value->AV->Bool
 | .agg cs,.agg l=>PF cs.toList l
 | v,a=>YF v a
def BL:Operand->AP->Bool
 | .tmp t,.t n=>t == n
 | .const v,.c a=>cD v a
 | .func g,.c (.fn _ _ g' [])=>g == g'
 | _,_=>false
def ED:List Operand->List AP->Bool
 | [],[]=>true
 | v::r,a::l=>BL v a&&ED r l
 | _,_=>false
def OP:Option Operand->Option AP->Bool
 | none,none=>true
 | some x,some y=>BL x y
 | _,_=>false
section
variable (P:Program)
def P6 (t:TypeId):Option Bool :=
 match P.underlying t with
 | some (.struct _)=>some true
 | some (.array _ _)=>some true
 | some _=>some false
 | none=>none
def GS (t:TypeId) (n:Nat):Bool:=match P.info? t with|some i=>i.size == n|none=>false
def RC (t:TypeId) (n:Nat):Bool:=match P.info? t with|some i=>i.bytes == n|none=>false
def SF (t:TypeId) (l:List AV):Bool:=match P.info? t with|some i=>(match i.zero with|some z=>PF z.cells.toList l|none=>false)|none=>false
def G3 (t:TypeId) (f:TypeId->Bool):Bool:=match P.underlying t with|some (.slice e)=>f e|_=>false
def oE (t:TypeId) (i off n:Nat):Bool:=match P.underlying t with
 | some (.struct fs)=>(match fs[i]? with|some f=>f.offset == off&&GS P f.type n&&n != 0|none=>false)
 | _=>false
def oF (t:TypeId) (i:Nat) (agg:Bool):Bool:=match P.underlying t with
 | some (.struct fs)=>(match fs[i]? with|some f=>P6 P f.type == some agg|none=>false)
 | _=>false
def RW (place:Nat->Option (Nat × Nat)):List (Nat × Operand)->List (Nat × Nat × AP)->Bool
 | [],[]=>true
 | (i,x)::r,(off,n,y)::l=>place i == some (off,n)&&BL x y&&RW place r l
 | _,_=>false
def aT (t:TypeId) (ps:List (Nat × Operand)) (dv:List (Nat × Nat × AP)):Bool:=match P.underlying t with
 | some (.struct fs)=>(match fs.toList.mapM (λ f=>(P.info? f.type).map λ i=>(f.offset,i.size)) with|some places=>RW (places.toArray[·]?) ps dv|none=>false)
 | some (.array _ e)=>(match P.info? e with|some ie=>RW (λ i=>some (i*ie.size,ie.size)) ps dv|none=>false)
 | _=>false
def RK (k:Nat):List (Nat × Operand)->List AP->Bool
 | [],[]=>true
 | (i,x)::r,y::l=>i == k&&BL x y&&RK (k+1) r l
 | _,_=>false
def fieldsI:Nat->List Field->Nat->Bool
 | k,[],n=>k == n
 | k, f :: fs, n => f.name != "_" && f.offset == k && (match P.underlying f.type with | some (.int _) => true | _ => false) && fieldsI (k + 1) fs n
def cT (t:TypeId) (n:Nat):Bool:=(match P.underlying t with|some (.struct fs)=>fieldsI P 0 fs.toList n|_=>false) && !P.stoodInHeld t && !P.eqGuardType P.depth t
def A8 (num:Nat->Nat) (op:Op):DY->Bool
 | .b7 y=>match op with | .move x=>BL x y | .assign x=>BL x y|_=>false
 | .s9 _ z=>z != 0&&(match op with | .move (.const (.slice none 0 0))=>true | .assign (.const (.slice none 0 0))=>true|_=>false)
 | .pick c' a' b'=>match op with | .pick c a b=>BL c c'&&BL a a'&&BL b b'|_=>false
 | .bin Bx x' y'=>match op with | .binOp op _ x y _=>op == Bx&&BL x x'&&BL y y'|_=>false
 | .beq ne x' y'=>match op with | .binOp op t x y _=>(if ne then op == .neq else op == .eql)&&(match P.underlying t with|some .bool=>true|_=>false)&&BL x x'&&BL y y'|_=>false
 | .un Bx x'=>match op with | .unOp op _ x=>op == Bx&&BL x x'|_=>false
 | .conv k x'=>match op with | .convert s d x=>(P.underlying s).isSome&&(match P.underlying d with|some (.int k')=>k == k'|_=>false)&&BL x x'|_=>false
 | .box _ x'=>match op with | .box _ x=>BL x x'|_=>false
 | .alloc _ z=>match op with | .alloc t=>SF P t z|_=>false
 | .build z dv=>match op with | .build t ps=>SF P t z&&aT P t ps.toList dv|_=>false
 | .c7 _ a7 dv=>match op with
  | .buildSlice t n ps=>G3 P t (λ e=>GS P e a7)&&a7 != 0&&n == dv.length&&decide (n*a7<=16777216)&&RK 0 ps.toList dv&&(n == 0||G3 P t (λ e=>match P.info? e with|some i=>(match i.zero with|some z=>z.cells.size == a7|none=>false)|none=>false))
  | _=>false
 | .a6 x' off=>match op with
  | .fieldAddr s x f=>BL x x'&&(match P.underlying s with|some (.struct fs)=>(match fs[f]? with|some fd=>fd.offset == off&&(match P.info? fd.type with|some i=>i.size != 0|none=>false)|none=>false)|_=>false)
  | _=>false
 | .nc x' off n agg=>match op with | .field t x f=>BL x x'&&oE P t f off n&&oF P t f agg|_=>false
 | .a5 arr a7 x' i'=>match op with
  | .indexAddr t x i=>BL x x'&&BL i i'&&(match P.underlying t,arr with|some (.array len e),some kv=>len == kv&&GS P e a7&&decide (1<len)|some (.slice e),none=>GS P e a7&&a7 != 0|_,_=>false)
  | _=>false
 | .idx len a7 agg x' i'=>match op with
  | .index t x i=>BL x x'&&BL i i'&&(match P.underlying t with|some (.array kv e)=>len == kv&&GS P e a7&&P6 P e == some agg|_=>false)
  | _=>false
 | .ld agg n x'=>match op with | .load t x=>BL x x'&&P6 P t == some agg&&(if agg then GS P t n else n == 1)|_=>false
 | .sn agg n x'=>match op with | .load t x=>BL x x'&&P6 P t == some agg&&(if agg then GS P t n else n == 1)|_=>false
 | .st n x' v'=>match op with | .store t x v=>BL x x'&&BL v v'&&GS P t n|_=>false
 | .mk _ a7 bytes z l' c'=>match op with
  | .makeSlice t l c=>BL l l'&&BL c c'&&G3 P t (λ e=>GS P e a7&&RC P e bytes&&SF P e z)&&a7 != 0
  | _=>false
 | .fg a7 x' nu m5=>match op with
  | .slice t x lo hi none=>BL x x'&&OP lo nu&&OP hi m5&&G3 P t (λ e=>GS P e a7)&&a7 != 0
  | _=>false
 | .ext x' i'=>match op with | .extract x i=>BL x x'&&i == i'|_=>false
 | .len x'=>match op with
  | .call ⟨.builtin .len,xs,ts⟩=>(match xs.toList,ts.toList with|[x],[t]=>BL x x'&&G3 P t (λ_=>true)|_,_=>false)
  | _=>false
 | .mm max n0=>match op with
  | .call ⟨.builtin .min,xs,_⟩ => !max&&ED xs.toList n0
  | .call ⟨.builtin .max,xs,_⟩=>max&&ED xs.toList n0
  | _=>false
 | .app _ a7 bytes x' y'=>match op with
  | .call ⟨.builtin .append,xs,ts⟩=>(match xs.toList,ts.toList with
   | [x,y],[t,u]=>BL x x'&&BL y y'&&G3 P t (λ e=>GS P e a7&&RC P e bytes&&(match P.info? e with|some i=>(match i.zero with|some z=>z.cells.size == a7|none=>false)|none=>false))&&a7 != 0&&G3 P u (λ_=>true)
   | _,_=>false)
  | _=>false
 | .dj _ a7 bytes x' y'=>match op with
  | .call ⟨.builtin .append,xs,ts⟩=>(match xs.toList,ts.toList with
   | [x,y],[t,u]=>BL x x'&&BL y y'&&G3 P t (λ e=>GS P e a7&&RC P e bytes&&(match P.info? e with|some i=>(match i.zero with|some z=>z.cells.size == a7|none=>false)|none=>false))&&a7 != 0&&G3 P u (λ_=>true)
   | _,_=>false)
  | _=>false
 | .oa a7 x' y'=>match op with
  | .call ⟨.builtin .copy,xs,ts⟩=>(match xs.toList,ts.toList with
   | [x,y],[t,u]=>BL x x'&&BL y y'&&G3 P t (λ e=>GS P e a7)&&a7 != 0&&u == t
   | _,_=>false)
  | _=>false
 | .call f' n0=>match op with
  | .call ⟨.value (.func f),xs,_⟩=>f == num f'&&ED xs.toList n0
  | _=>false
 | .e9 f' n0=>match op with
  | .call ⟨.value (.func f),xs,_⟩=>f == num f'&&ED xs.toList n0
  | _=>false
 | .bg _ f' n0=>match op with
  | .call ⟨.value (.func f),xs,_⟩=>f == num f'&&ED xs.toList n0
  | _=>false
 | .rh ne x'=>match op with
  | .binOp op t x (.const (.slice none 0 0)) _=>(if ne then op == .neq else op == .eql)&&G3 P t (λ_=>true)&&BL x x'
  | _=>false
 | .bad=>true
 | .su x'=>match op with
  | .nilCheck x=>BL x x'
  | _=>false
 | .er x'=>match op with
  | .call ⟨.builtin .cap,xs,ts⟩=>(match xs.toList,ts.toList with|[x],[t]=>BL x x'&&G3 P t (λ_=>true)|_,_=>false)
  | _=>false
 | .nw _ a7 bytes x' y'=>match op with
  | .call ⟨.builtin .append,xs,ts⟩=>(match xs.toList,ts.toList with
   | [x,y],[t,u]=>BL x x'&&BL y y'&&G3 P t (λ e=>GS P e a7&&RC P e bytes&&(match P.info? e with|some i=>(match i.zero with|some z=>z.cells.size == a7|none=>false)|none=>false))&&a7 != 0&&G3 P u (λ_=>true)
   | _,_=>false)
  | _=>false
 | .nb _ a7 bytes x' y'=>match op with
  | .call ⟨.builtin .append,xs,ts⟩=>(match xs.toList,ts.toList with
   | [x,y],[t,u]=>BL x x'&&BL y y'&&G3 P t (λ e=>GS P e a7&&RC P e bytes&&(match P.info? e with|some i=>(match i.zero with|some z=>z.cells.size == a7|none=>false)|none=>false))&&a7 != 0&&(match P.underlying u with|some (.int _)=>true|_=>false)
   | _,_=>false)
  | _=>false
 | .fy tb i'=>match op with
  | .index t (.const (.string s)) i=>(match P.underlying t with|some .string=>true|_=>false)&&s.data.toList.map (λ b=>b.toNat) == tb&&BL i i'
  | _=>false
 | .pd _ f' n0=>match op with
  | .makeFunc (.func f) first xs=>f == num f'&&first.toList.isEmpty&&ED xs.toList n0
  | _=>false
 | .qg f' x'=>match op with
  | .makeFunc (.func f) first xs=>f == num f'&&(match first.toList with|[x]=>BL x x'|_=>false)&&xs.toList.isEmpty
  | _=>false
 | .l9 f' n0=>match op with
  | .call ⟨.value (.func f),xs,_⟩=>f == num f'&&ED xs.toList n0
  | _=>false
 | .qh ne n x' y'=>match op with | .binOp op t x y _=>(if ne then op == .neq else op == .eql)&&cT P t n&&BL x x'&&BL y y'|_=>false
 | .o9 _ f' n0=>match op with
  | .call ⟨.value (.func f),xs,_⟩=>f == num f'&&ED xs.toList n0
  | _=>false
 | .na _ n x' v'=>match op with | .store t x v=>BL x x'&&BL v v'&&GS P t n|_=>false
 | .m9 x' n0=>match op with
  | .call ⟨.value x,xs,_⟩=>BL x x'&&ED xs.toList n0
  | _=>false
def V1 (ops:Array Oper):Option (Nat × Bool)->Option (Nat × Bool)->Bool
 | none,none=>true
 | some (j,b),some (t,b')=>b == b'&&(match ops[j]? with|some o=>o.dst == some t|none=>false)
 | _,_=>false
def Y4 (num:Nat->Nat) (N:Nat) (ops:Array Oper) (o:Oper) (a:AI):Bool :=
 o.dst == a.dst&&(match a.dst with|some d=>decide (d<N)|none=>true)&&V1 ops o.guard a.guard&&A8 P num o.op a.op
def PP (num:Nat->Nat) (N:Nat) (ops:Array Oper):List Oper->List AI->Bool
 | [],[]=>true
 | o::r,a::l=>Y4 P num N ops o a&&PP num N ops r l
 | _,_=>false
def GD:DY->Bool
 | .st .. | .app .. | .oa .. | .e9 .. | .m9 .. => true
 | _=>false
def WB:DY->Bool
 | .ld .. | .call .. | .o9 .. => true
 | _=>false
def J3 (a:DY):Bool:=GD a||WB a||(EH a).isSome
def CJ:AP->List Nat
 | .t n=>[n]
 | .c _=>[]
def eR:Option AP->List Nat
 | some x=>CJ x
 | none=>[]
def FR:DY->List Nat
 | .b7 x=>CJ x
 | .s9 _ _=>[]
 | .pick c a b=>CJ c++CJ a++CJ b
 | .bin _ x y=>CJ x++CJ y
 | .beq _ x y=>CJ x++CJ y
 | .un _ x=>CJ x
 | .conv _ x=>CJ x
 | .box _ x=>CJ x
 | .alloc _ _=>[]
 | .build _ ps=>ps.flatMap (λ p=>CJ p.2.2)
 | .c7 _ _ ps=>ps.flatMap CJ
 | .a6 x _=>CJ x
 | .nc x _ _ _=>CJ x
 | .a5 _ _ x i=>CJ x++CJ i
 | .idx _ _ _ x i=>CJ x++CJ i
 | .ld _ _ x=>CJ x
 | .sn _ _ x=>CJ x
 | .st _ x v=>CJ x++CJ v
 | .mk _ _ _ _ l c=>CJ l++CJ c
 | .fg _ x lo hi=>CJ x++eR lo++eR hi
 | .ext x _=>CJ x
 | .len x=>CJ x
 | .mm _ xs=>xs.flatMap CJ
 | .app _ _ _ x y=>CJ x++CJ y
 | .dj _ _ _ x y=>CJ x++CJ y
 | .oa _ x y=>CJ x++CJ y
 | .call _ xs=>xs.flatMap CJ
 | .e9 _ xs=>xs.flatMap CJ
 | .rh _ x=>CJ x
 | .fy _ x=>CJ x
 | .pd _ _ xs=>xs.flatMap CJ
 | .qg _ x=>CJ x
 | .m9 x xs=>CJ x++xs.flatMap CJ
 | .l9 _ xs=>xs.flatMap CJ
 | .na _ _ x v=>CJ x++CJ v
 | .o9 _ _ xs=>xs.flatMap CJ
 | .bg _ _ xs=>xs.flatMap CJ
 | .qh _ _ x y=>CJ x++CJ y
 | .bad=>[]
 | .su x=>CJ x
 | .er x=>CJ x
 | .nb _ _ _ x y=>CJ x++CJ y
 | .nw _ _ _ x y=>CJ x++CJ y
def TQ (x:AI):List Nat:=FR x.op++(match x.guard with|some (g,_)=>[g]|none=>[])++x.dst.toList
def H5 (b:Array Nat) (i j:Nat):Bool:=(b.getD (max i j) 0).testBit (min i j)
def rM (b:Array Nat) (x:AI) (i:Nat) (y:AI) (j:Nat):Bool :=
 i == j||H5 b i j ||
  ((match y.dst with|some t => !(TQ x).contains t|none=>true) &&
   (!GD x.op || !J3 y.op) &&
   (!WB x.op||(match EH y.op with|some s=>x.b9.contains s|none=>true)) )
def RI (ops:Array Oper) (l:List AI):Bool :=
 let b:=Region.before ops
 (l.zipIdx.all λ(x,i)=>l.zipIdx.all λ(y,j)=>rM b x i y j&&(i == j||H5 b i j||(match EH x.op,EH y.op with|some s,some s'=>s != s'|_,_=>true))) &&
 (ops.toList.zipIdx.all λ(o,i)=>o.after.all λ e=>decide (e.on<i)||(match e.ground with | .gcOnly _=>true|_=>false)) &&
 (!Region.departs ops||(List.range ops.size).all (λ i=>(Region.linearise .gc ops 0).contains i))
def ET (num:Nat->Nat) (N:Nat):Code->BI->Bool
 | c,.dr a _ _=>ET num N c a
 | c',.skip=>match c' with | .skip=>true | .label _=>true|_=>false
 | c',.scope a=>match c' with | .scope c=>ET num N c a|_=>false
 | c',.ops l pn=>match c' with | .region _ ops draw=>draw == pn&&PP P num N ops ops.toList l&&(!draw||RI ops l)|_=>false
 | c',.seq a' b'=>match c' with | .seq a b=>ET num N a a'&&ET num N b b'|_=>false
 | c',.cond x' a' b'=>match c' with | .cond x a b=>BL x x'&&ET num N a a'&&ET num N b b'|_=>false
 | c',.block i' a=>match c' with | .block i c=>i == i'&&ET num N c a|_=>false
 | c',.loop a=>match c' with | .loop c=>ET num N c a|_=>false
 | c',.exit i'=>match c' with | .exit i=>i == i'|_=>false
 | c',.ret=>match c' with | .ret=>true|_=>false
def L0:List ResultVar->List IY->Bool
 | [],[]=>true
 | .tmp t::r,.tmp t'::l=>t == t'&&L0 r l
 | .cell a t::r,.cell a' agg n::l=>a == a'&&P6 P t == some agg&&(if agg then GS P t n else n == 1)&&L0 r l
 | _,_=>false
def okFn (num:Nat->Nat) (fn:Func) (a:AFn):Bool :=
 fn.params.size+fn.nfree == a.z8&&decide (a.z8<=fn.ntmps)&&L0 P fn.results.toList a.res&&(match fn.body with|some c=>ET P num fn.ntmps c a.body|none=>false)
end
end Go.c5

namespace Go.c5
open Go.RowKit
theorem G7 (b o n:Nat):(⟨b,o,none⟩:Addr).add n=⟨b,o+n,none⟩:=by
 unfold Addr.add;split<;>simp_all
inductive Rd (w:World) (R:Bool->Nat->Prop):AV->Value->Prop
 | int (k:IntKind) (n:Int):Rd w R (.int k n) (.int k n)
 | bool (b:Bool):Rd w R (.bool b) (.bool b)
 | str (s:ByteArray):Rd w R (.cj (.string s)) (.string s)
 | jc (l:Bool) (a:Option Addr) (cap:Nat):Rd w R (.sl l []) (.slice a 0 cap)
 | emp (b:Bool) (a:Option Addr) (cap:Nat) (h:a.isNone=b):Rd w R (.cj (.bool b)) (.slice a 0 cap)
 | sl (l:Bool) (es:List (List AV)) (b o a7 cap:Nat) (u:Nat->Nat->Value) (k9:es≠[]) (hp:0<a7) (hR:R l b) (v9:es.length<=cap) (hz : ∀ e∈es,e.length=a7)
   (hc : ∀ i e,es[i]? = some e -> ∀ j c,e[j]? = some c->w.cell? ⟨b,o+(i*a7+j),none⟩=some (u i j))
   (hr : ∀ i e,es[i]? = some e -> ∀ j c,e[j]? = some c->Rd w R c (u i j)) :
   Rd w R (.sl l es) (.slice (some ⟨b,o,none⟩) es.length cap)
theorem Rd.one {w:World} {R:Bool->Nat->Prop} {a:AV} {v:Value} (h:Rd w R a v):v.oneCell'=true:=by
 cases h<;>rfl
theorem RD {w:World} {a:Addr} {u:Value} (h:w.cell? a=some u):a.block<w.heap.size:=by
 unfold World.cell? at h;split at h
 ·rename_i hh
  exact (Array.getElem?_eq_some_iff.1 hh).1
 ·cases h
theorem VN {es:List (List AV)} {a7:Nat} (k9:es≠[]) (hp:0<a7) (hz : ∀ e∈es,e.length=a7) : ∃ e c,es[0]? = some e/\e[0]? = some c:=by
 cases es with
 | nil=>exact absurd rfl k9
 | cons e r =>
  have:=hz e (by simp)
  cases e with
  | nil=>simp at this;omega
  | cons c q=>exact ⟨c::q,c,rfl,rfl⟩
theorem Rd.mono {w w':World} {R R':Bool->Nat->Prop} (hR : ∀ l b,b<w.heap.size->R l b->R' l b)
  (hw : ∀ l b,b<w.heap.size->R l b->w'.heap[b]? = w.heap[b]?) {a:AV} {v:Value} (h:Rd w R a v):Rd w' R' a v:=by
 induction h with
 | int k n=>exact .int k n
 | bool b=>exact .bool b
 | str s=>exact .str s
 | jc l a cap=>exact .jc l a cap
 | emp b a cap h=>exact .emp b a cap h
 | sl l es b o a7 cap u k9 hp h1 v9 hz hc hr ih =>
  obtain ⟨e,c,he,gb⟩:=VN k9 hp hz;have hb:b<w.heap.size:=RD (hc 0 e he 0 c gb);refine .sl l es b o a7 cap u k9 hp (hR l b hb h1) v9 hz (λ i e he j c wx => ?_) ih;rw[World.cell?_of_block (w:=w) (hw l b hb h1)];exact hc i e he j c wx
structure M where
 ν:Nat->Nat->Option Nat
 own:AH
 w:World
section
variable (B:Nat) (S:Nat->Prop)
def safe (m:M) (l:Bool) (b:Nat):Prop :=
 (S b/\b<B)\/(B<=b /\ ∀ s t,(m.own.get s t).isSome=true->m.ν s t≠some b)\/(l=true/\b<B)
inductive CC (m:M):AV->Value->Prop
 | rd {a:AV} {v:Value} (h:Rd m.w (safe B S m) a v):CC m a v
 | nil:CC m .nil (.slice none 0 0)
 | row (s t z off len:Nat) (a:Option Addr) (cap:Nat) (ht:t<m.own.g9 s) (cp:0<z) (mi:len<=cap) (ha:0<len->a.isSome=true)
   (h : ∀ b,m.own.get s t=some b->b.a7=z/\((len=0/\cap=0) \/ ∃ g arr e,m.ν s t=some g/\a=some ⟨g,off*z,none⟩/\m.w.heap[g]? = some (.cells arr e (0,0))/\(off+cap)*z<=arr.size)) :
   CC m (.row s t z off len) (.slice a len cap)
 | ptr (s t i j:Nat) (a:Addr) (ht:t<m.own.g9 s) (h : ∀ b,m.own.get s t=some b -> ∃ g,m.ν s t=some g/\a=⟨g,i*b.a7+j,none⟩):CC m (.ptr s t i j) (.pointer (some a))
 | o7 (cs:List AV) (b o:Nat) (u:Nat->Value) (l:Bool) (hR:cs≠[]->safe B S m l b) (hc : ∀ j c,cs[j]? = some c->m.w.cell? ⟨b,o+j,none⟩=some (u j)) (hr : ∀ j c,cs[j]? = some c->Rd m.w (safe B S m) c (u j)) :
   CC m (.o7 cs) (.pointer (some ⟨b,o,none⟩))
def CL (m:M) (cs:List AV) (vs:List Value):Prop:=cs.length=vs.length /\ ∀ (j:Nat) (c:AV) (v:Value),cs[j]? = some c->vs[j]? = some v->CC B S m c v
inductive CA (m:M):AV->Value->Prop
 | one {a:AV} {v:Value} (h:CC B S m a v):CA m a v
 | agg (cs:List AV) (vs:List Value) (h:CL B S m cs vs):CA m (.agg cs) (.agg vs.toArray)
 | fn (p:Bool) (f g:Nat) (cs:List AV) (vs:List Value) (hp:p=true->cs=[]) (h:CL B S m cs vs):CA m (.fn p f g cs) (.func (.func g) #[] vs.toArray)
 | rj (f g:Nat) (cs:List AV) (vs:List Value) (hp:cs≠[]) (h:CL B S m cs vs):CA m (.fn true f g cs) (.func (.func g) #[.agg vs.toArray] #[])
inductive CV (m:M):AV->Value->Prop
 | any (v:Value):CV m .any v
 | ca {a:AV} {v:Value} (h:CA B S m a v):CV m a v
 | g7 (as:List AV) (vs:List Value) (hl:as.length=vs.length) (h : ∀ (j:Nat) (c:AV) (v:Value),as[j]? = some c->vs[j]? = some v->CA B S m c v):CV m (.g7 as) (.tuple vs.toArray)
def wO (m:M) (s t:Nat) (b:DT):Prop :=
 (∀ e∈b.es,e.length=b.a7)/\match m.ν s t with
  | none=>b.es=[]
  | some g=>B<=g /\ ∃ arr e,m.w.heap[g]? = some (.cells arr e (0,0)) /\
    ∀ i cs,b.es[i]? = some cs -> ∀ j c,cs[j]? = some c -> ∃ u,arr[i*b.a7+j]? = some u/\CC B S m c u
structure BP (w0:World) (m:M):Prop where
 below:Below B w0 m.w
 size:B<=m.w.heap.size
 fresh : ∀ s t,m.own.g9 s<=t->m.own.get s t=none
 e8 : ∀ s t b,m.own.get s t=some b->wO B S m s t b
 inj : ∀ s t s' t' b b' g,m.own.get s t=some b->m.own.get s' t'=some b'->m.ν s t=some g->m.ν s' t'=some g->s=s'/\t=t'
structure DG (m m':M):Prop where
 size:m.w.heap.size<=m'.w.heap.size
 ux : ∀ b,b<m.w.heap.size->safe B S m true b->m'.w.heap[b]? = m.w.heap[b]?
 zu : ∀ l b,b<m.w.heap.size->safe B S m l b->safe B S m' l b
 g9 : ∀ s,m.own.g9 s<=m'.own.g9 s
 name : ∀ s t b',t<m.own.g9 s->m'.own.get s t=some b' -> ∃ b,m.own.get s t=some b/\b'.a7=b.a7/\m'.ν s t=m.ν s t /\
   ∀ g arr e,m.ν s t=some g->m.w.heap[g]? = some (.cells arr e (0,0)) -> ∃ o0,m'.w.heap[g]? = some (.cells o0 e (0,0))/\o0.size=arr.size
end
section
variable {B:Nat} {S:Nat->Prop}
theorem gA {m:M} {l:Bool} {b:Nat} (h:safe B S m l b):safe B S m true b:=by
 rcases h with h|h|⟨_,h⟩
 ·exact .inl h
 ·exact .inr (.inl h)
 ·exact .inr (.inr ⟨rfl,h⟩)
theorem DG.rd {m m':M} (h:DG B S m m') {a:AV} {v:Value} (hr:Rd m.w (safe B S m) a v):Rd m'.w (safe B S m') a v :=
 hr.mono h.zu (λ_ b hb hs=>h.ux b hb (gA hs))
theorem DG.cc {m m':M} (h:DG B S m m') {a:AV} {v:Value} (hc:CC B S m a v):CC B S m' a v:=by
 cases hc with
 | rd hr=>exact .rd (h.rd hr)
 | nil=>exact .nil
 | row s t z off len a cap ht cp mi ha hb =>
  refine .row s t z off len a cap (Nat.lt_of_lt_of_le ht (h.g9 s)) cp mi ha λ b' k6 => ?_
  obtain ⟨b,h1,h2,h3,h4⟩:=h.name s t b' ht k6;obtain ⟨hz,z7⟩:=hb b h1;refine ⟨h2.trans hz,?_⟩;rcases z7 with h0|⟨g,arr,e,hg,jf,hh,hle⟩
  ·exact .inl h0
  ·obtain ⟨o0,Jt,qy⟩:=h4 g arr e hg hh
   exact .inr ⟨g,o0,e,h3.trans hg,jf,Jt,qy ▸ hle⟩
 | ptr s t i j a ht hb =>
  refine .ptr s t i j a (Nat.lt_of_lt_of_le ht (h.g9 s)) λ b' k6 => ?_
  obtain ⟨b,h1,h2,h3,_⟩:=h.name s t b' ht k6;obtain ⟨g,hg,jf⟩:=hb b h1;exact ⟨g,h3.trans hg,h2 ▸ jf⟩
 | o7 cs b o u l hR hc hr =>
  have k7:cs≠[]->b<m.w.heap.size:=λ k9=>by
   cases cs with
   | nil=>exact absurd rfl k9
   | cons c r=>exact RD (hc 0 c rfl)
  refine .o7 cs b o u l (λ k9=>h.zu l b (k7 k9) (hR k9)) (λ j c hj => ?_) (λ j c hj=>h.rd (hr j c hj));have k9:cs≠[]:=λ e=>by subst e;simp at hj
  rw[World.cell?_of_block (w:=m.w) (h.ux b (k7 k9) (gA (hR k9)))];exact hc j c hj
theorem DG.cl {m m':M} (h:DG B S m m') {cs:List AV} {vs:List Value} (hc:CL B S m cs vs):CL B S m' cs vs :=
 ⟨hc.1,λ j c v h1 h2=>h.cc (hc.2 j c v h1 h2)⟩
theorem DG.ca {m m':M} (h:DG B S m m') {a:AV} {v:Value} (hc:CA B S m a v):CA B S m' a v:=by
 cases hc with
 | one hc=>exact .one (h.cc hc)
 | agg cs vs hc=>exact .agg cs vs (h.cl hc)
 | fn p f g cs vs hp hc=>exact .fn p f g cs vs hp (h.cl hc)
 | rj f g cs vs hp hc=>exact .rj f g cs vs hp (h.cl hc)
theorem DG.cv {m m':M} (h:DG B S m m') {a:AV} {v:Value} (hc:CV B S m a v):CV B S m' a v:=by
 cases hc with
 | any v=>exact .any v
 | ca hc=>exact .ca (h.ca hc)
 | g7 as vs hl hc=>exact .g7 as vs hl λ j c v h1 h2=>h.ca (hc j c v h1 h2)
theorem DG.refl (m:M):DG B S m m :=
 ⟨Nat.le_refl _,λ_ _ _=>rfl,λ_ _ _ h=>h,λ_=>Nat.le_refl _,λ_ _ b' _ h=>⟨b',h,rfl,rfl,λ_ arr _ _ h=>⟨arr,h,rfl⟩⟩⟩
theorem DG.trans {m m' Qx:M} (h:DG B S m m') (k:DG B S m' Qx):DG B S m Qx where
 size:=Nat.le_trans h.size k.size
 ux b hb hs:=(k.ux b (Nat.lt_of_lt_of_le hb h.size) (h.zu true b hb hs)).trans (h.ux b hb hs)
 zu l b hb hs:=k.zu l b (Nat.lt_of_lt_of_le hb h.size) (h.zu l b hb hs)
 g9 s:=Nat.le_trans (h.g9 s) (k.g9 s)
 name s t b'' ht Jx:=by
  obtain ⟨b',h1,h2,h3,h4⟩:=k.name s t b'' (Nat.lt_of_lt_of_le ht (h.g9 s)) Jx;obtain ⟨b,g1,g2,g3,g4⟩:=h.name s t b' ht h1;refine ⟨b,g1,h2.trans g2,h3.trans g3,λ g arr e hg ha => ?_⟩;obtain ⟨o0,Jt,qy⟩:=g4 g arr e hg ha;obtain ⟨De,Ju,Mb⟩:=h4 g o0 e (g3.trans hg) Jt;exact ⟨De,Ju,Mb.trans qy⟩
theorem CC.one {m:M} {a:AV} {v:Value} (h:CC B S m a v):v.oneCell'=true:=by
 cases h with
 | rd h=>exact h.one
 | _=>rfl
end
end Go.c5

namespace Go.c5
open Go.RowKit
section
variable {B:Nat} {S:Nat->Prop} {w0:World}
def live (m:M) (s t:Nat):Prop := ∃ b,m.own.get s t=some b
theorem BP.ge {m:M} (h:BP B S w0 m) {s t g:Nat} (hl:live m s t) (hg:m.ν s t=some g):B<=g /\ ∃ arr e,m.w.heap[g]? = some (.cells arr e (0,0)):=by
 obtain ⟨b,hb⟩:=hl;obtain ⟨_,h2⟩:=h.e8 s t b hb;rw[hg]at h2;obtain ⟨h3,arr,e,h4,_⟩:=h2;exact ⟨h3,arr,e,h4⟩
theorem RN {m m':M} (hm:BP B S w0 m) (hs:m.w.heap.size<=m'.w.heap.size)
  (hk : ∀ b,b<m.w.heap.size->(∀ s t,live m s t->m.ν s t≠some b)->m'.w.heap[b]? = m.w.heap[b]?) (Ay : ∀ s,m.own.g9 s<=m'.own.g9 s)
  (Fh : ∀ s t b',t<m.own.g9 s->m'.own.get s t=some b' -> ∃ b,m.own.get s t=some b/\b'.a7=b.a7/\m'.ν s t=m.ν s t /\
   ∀ g arr e,m.ν s t=some g->m.w.heap[g]? = some (.cells arr e (0,0)) -> ∃ o0,m'.w.heap[g]? = some (.cells o0 e (0,0))/\o0.size=arr.size)
  (kt : ∀ s t g,live m' s t->m'.ν s t=some g->g<m.w.heap.size -> ∃ s0 t0,live m s0 t0/\m.ν s0 t0=some g):DG B S m m':=by
 have vm : ∀ b,safe B S m true b -> ∀ s t,live m s t->m.ν s t≠some b:=by
  intro b hb s t hl hg;have jq:=(hm.ge hl hg).1;rcases hb with ⟨_,h⟩|⟨_,h⟩|⟨_,h⟩
  ·omega
  ·obtain ⟨b',k6⟩:=hl
   exact h s t (by simp [k6]) hg
  ·omega
 refine ⟨hs,λ b hb uk=>hk b hb (vm b uk),λ l b hb uk => ?_,Ay,Fh⟩;rcases uk with h|⟨h,hn⟩|h
 ·exact .inl h
 ·refine .inr (.inl ⟨h,λ s t hl hg => ?_⟩)
  obtain ⟨b',k6⟩:=Option.isSome_iff_exists.1 hl;obtain ⟨s0,t0,⟨b0,yv⟩,Bd⟩:=kt s t b ⟨b',k6⟩ hg hb;exact hn s0 t0 (by simp [yv]) Bd
 ·exact .inr (.inr h)
theorem grow {m:M} (hm:BP B S w0 m) {w':World} (hb:Below m.w.heap.size m.w w') :
  BP B S w0 ⟨m.ν,m.own,w'⟩/\DG B S m ⟨m.ν,m.own,w'⟩:=by
 have he:DG B S m ⟨m.ν,m.own,w'⟩:=by
  refine RN hm hb.size (λ b k6 _=>hb.block b k6) (λ_=>Nat.le_refl _) (λ s t b' _ k6=>⟨b',k6,rfl,rfl,λ g arr e hg ha=>⟨arr,?_,rfl⟩⟩) (λ s t g hl hg _=>⟨s,t,hl,hg⟩);have:g<m.w.heap.size:=(Array.getElem?_eq_some_iff.1 ha).1
  exact (hb.block g this).trans ha
 refine ⟨⟨hm.below.trans (hb.mono hm.size),Nat.le_trans hm.size hb.size,hm.fresh,λ s t b hg => ?_,hm.inj⟩,he⟩;obtain ⟨h1,h2⟩:=hm.e8 s t b hg;refine ⟨h1,?_⟩;show match m.ν s t with|none=>_|some g=>_
 cases hν:m.ν s t with
 | none=>rw[hν]at h2;exact h2
 | some g =>
  rw[hν]at h2;obtain ⟨h3,arr,e,h4,h5⟩:=h2;refine ⟨h3,arr,e,?_,λ i cs hi j c hj => ?_⟩
  ·exact (hb.block g (Array.getElem?_eq_some_iff.1 h4).1).trans h4
  ·obtain ⟨u,hu,u6⟩:=h5 i cs hi j c hj
   exact ⟨u,hu,he.cc u6⟩
theorem FY (o:AH) (s s' t':Nat) (b:DT):(o.put s ((o s).new b)).get s' t'=if s'=s/\t'=o.g9 s then some b else o.get s' t':=by
 unfold AH.get AH.put CD.new AH.g9;by_cases h:s'=s
 ·subst h
  by_cases h2:t'=(o s').g9<;>simp [h2]
 ·simp [h]
theorem KM (o:AH) (s s':Nat) (b:DT):(o.put s ((o s).new b)).g9 s'=if s'=s then o.g9 s+1 else o.g9 s':=by
 unfold AH.g9 AH.put CD.new;by_cases h:s'=s<;>simp [h]
theorem VR (o:AH) (s t s' t':Nat) (b:Option DT):(o.put s ((o s).n6 t b)).get s' t'=if s'=s/\t'=t then b else o.get s' t':=by
 unfold AH.get AH.put CD.n6;by_cases h:s'=s
 ·subst h
  by_cases h2:t'=t<;>simp [h2]
 ·simp [h]
theorem kS (o:AH) (s t s':Nat) (b:Option DT):(o.put s ((o s).n6 t b)).g9 s'=o.g9 s':=by
 unfold AH.g9 AH.put CD.n6;by_cases h:s'=s<;>simp [h]
def j4 (m:M) (s:Nat) (g:Option Nat):Nat->Nat->Option Nat:=λ s' t'=>if s'=s/\t'=m.own.g9 s then g else m.ν s' t'
theorem Y2 {m:M} (hm:BP B S w0 m) (s:Nat) : ¬ live m s (m.own.g9 s):=λ⟨b,hb⟩=>by
 rw[hm.fresh s _ (Nat.le_refl _)]at hb;cases hb
theorem UR {m:M} (hm:BP B S w0 m) (s:Nat) (b:DT) (arr:Array Value) (e:TypeId) (hz : ∀ x∈b.es,x.length=b.a7)
  (hc : ∀ i cs,b.es[i]? = some cs -> ∀ j c,cs[j]? = some c -> ∃ u,arr[i*b.a7+j]? = some u/\CC B S m c u) :
  BP B S w0 ⟨j4 m s (some m.w.heap.size),m.own.put s ((m.own s).new b),m.w.alloc (.cells arr e)⟩ /\
  DG B S m ⟨j4 m s (some m.w.heap.size),m.own.put s ((m.own s).new b),m.w.alloc (.cells arr e)⟩:=by
 have q6:(m.w.alloc (.cells arr e)).heap.size=m.w.heap.size+1:=by simp
 have hν : ∀ s' t',live m s' t'->j4 m s (some m.w.heap.size) s' t'=m.ν s' t':=λ s' t' hl=>by
  unfold j4;rw[if_neg];rintro ⟨rfl,rfl⟩
  exact Y2 hm _ hl
 have he:DG B S m ⟨j4 m s (some m.w.heap.size),m.own.put s ((m.own s).new b),m.w.alloc (.cells arr e)⟩:=by
  refine RN hm (by rw[q6];omega) (λ k hk _=>Below.heap_alloc _ _ _ hk) (λ s' => ?_) (λ s' t' b' ht k6 => ?_) (λ s' t' g hl hg k7 => ?_)
  ·rw[KM];split
   ·rename_i h;subst h;omega
   ·exact Nat.le_refl _
  ·rw[FY]at k6
   rw[if_neg (by rintro ⟨rfl,rfl⟩;omega)]at k6;refine ⟨b',k6,rfl,hν s' t' ⟨b',k6⟩,λ g ar e' hg ha=>⟨ar,?_,rfl⟩⟩;exact (Below.heap_alloc _ _ _ (Array.getElem?_eq_some_iff.1 ha).1).trans ha
  ·obtain ⟨b',k6⟩:=hl
   have q5:=k6;rw[FY]at k6;by_cases h:s'=s/\t'=m.own.g9 s
   ·simp only[j4,if_pos h,Option.some.injEq]at hg
    omega
   ·rw[if_neg h]at k6
    exact ⟨s',t',⟨b',k6⟩,by rw[<-hν s' t' ⟨b',k6⟩];exact hg⟩
 refine ⟨⟨hm.below.alloc hm.size _,by rw[q6];have:=hm.size;omega,λ s' t' ht => ?_,λ s' t' b' k6 => ?_,λ s1 t1 s2 t2 b1 b2 g h1 h2 g1 g2 => ?_⟩,he⟩
 ·rw[KM]at ht
  rw[FY,if_neg]
  ·refine hm.fresh s' t' ?_
   split at ht
   ·rename_i h;subst h;omega
   ·exact ht
  ·rintro ⟨rfl,rfl⟩
   simp at ht;omega
 ·rw[FY]at k6
  by_cases h:s'=s/\t'=m.own.g9 s
  ·rw[if_pos h]at k6
   obtain rfl:b=b':=by simpa using k6
   refine ⟨hz,?_⟩;show match j4 m s (some m.w.heap.size) s' t' with|none=>_|some g=>_
   rw[show j4 m s (some m.w.heap.size) s' t'=some m.w.heap.size by simp [j4,h]];refine ⟨hm.size,arr,e,heap_alloc_new _ _,λ i cs hi j c hj => ?_⟩;obtain ⟨u,hu,u6⟩:=hc i cs hi j c hj;exact ⟨u,hu,he.cc u6⟩
  ·rw[if_neg h]at k6
   obtain ⟨h1,h2⟩:=hm.e8 s' t' b' k6;refine ⟨h1,?_⟩;show match j4 m s (some m.w.heap.size) s' t' with|none=>_|some g=>_
   rw[hν s' t' ⟨b',k6⟩];cases hv:m.ν s' t' with
   | none=>rw[hv]at h2;exact h2
   | some g =>
    rw[hv]at h2;obtain ⟨h3,ar,e',h4,h5⟩:=h2;refine ⟨h3,ar,e',(Below.heap_alloc _ _ _ (Array.getElem?_eq_some_iff.1 h4).1).trans h4,λ i cs hi j c hj => ?_⟩;obtain ⟨u,hu,u6⟩:=h5 i cs hi j c hj;exact ⟨u,hu,he.cc u6⟩
 ·rw[FY]at h1 h2
  have lt : ∀ s' t' b',m.own.get s' t'=some b'->j4 m s (some m.w.heap.size) s' t'=some g->g<m.w.heap.size:=λ s' t' b' hb hg=>by
   rw[hν s' t' ⟨b',hb⟩]at hg;obtain ⟨_,ar,e',h4⟩:=hm.ge ⟨b',hb⟩ hg;exact (Array.getElem?_eq_some_iff.1 h4).1
  have at_ : ∀ s' t',s'=s/\t'=m.own.g9 s->j4 m s (some m.w.heap.size) s' t'=some g->g=m.w.heap.size:=λ s' t' h hg=>by
   simp only[j4,if_pos h,Option.some.injEq]at hg;exact hg.symm
  by_cases p1:s1=s/\t1=m.own.g9 s<;>by_cases p2:s2=s/\t2=m.own.g9 s
  ·exact ⟨p1.1.trans p2.1.symm,p1.2.trans p2.2.symm⟩
  ·rw[if_neg p2]at h2
   have:=lt s2 t2 b2 h2 g2
   have:=at_ s1 t1 p1 g1
   omega
  ·rw[if_neg p1]at h1
   have:=lt s1 t1 b1 h1 g1
   have:=at_ s2 t2 p2 g2
   omega
  ·rw[if_neg p1]at h1
   rw[if_neg p2]at h2;exact hm.inj s1 t1 s2 t2 b1 b2 g h1 h2 (by rw[<-hν s1 t1 ⟨b1,h1⟩];exact g1) (by rw[<-hν s2 t2 ⟨b2,h2⟩];exact g2)
theorem uZ {m:M} (hm:BP B S w0 m) (s a7:Nat) :
  BP B S w0 ⟨j4 m s none,m.own.put s ((m.own s).new ⟨a7,[]⟩),m.w⟩/\DG B S m ⟨j4 m s none,m.own.put s ((m.own s).new ⟨a7,[]⟩),m.w⟩:=by
 have hν : ∀ s' t',live m s' t'->j4 m s none s' t'=m.ν s' t':=λ s' t' hl=>by
  unfold j4;rw[if_neg];rintro ⟨rfl,rfl⟩
  exact Y2 hm _ hl
 have he:DG B S m ⟨j4 m s none,m.own.put s ((m.own s).new ⟨a7,[]⟩),m.w⟩:=by
  refine RN hm (Nat.le_refl _) (λ k hk _=>rfl) (λ s' => ?_) (λ s' t' b' ht k6 => ?_) (λ s' t' g hl hg k7 => ?_)
  ·rw[KM];split
   ·rename_i h;subst h;omega
   ·exact Nat.le_refl _
  ·rw[FY]at k6
   rw[if_neg (by rintro ⟨rfl,rfl⟩;omega)]at k6;exact ⟨b',k6,rfl,hν s' t' ⟨b',k6⟩,λ g ar e' hg ha=>⟨ar,ha,rfl⟩⟩
  ·obtain ⟨b',k6⟩:=hl
   rw[FY]at k6;by_cases h:s'=s/\t'=m.own.g9 s
   ·simp [j4,if_pos h]at hg
   ·rw[if_neg h]at k6
    exact ⟨s',t',⟨b',k6⟩,by rw[<-hν s' t' ⟨b',k6⟩];exact hg⟩
 refine ⟨⟨hm.below,hm.size,λ s' t' ht => ?_,λ s' t' b' k6 => ?_,λ s1 t1 s2 t2 b1 b2 g h1 h2 g1 g2 => ?_⟩,he⟩
 ·rw[KM]at ht
  rw[FY,if_neg]
  ·refine hm.fresh s' t' ?_
   split at ht
   ·rename_i h;subst h;omega
   ·exact ht
  ·rintro ⟨rfl,rfl⟩
   simp at ht;omega
 ·rw[FY]at k6
  by_cases h:s'=s/\t'=m.own.g9 s
  ·rw[if_pos h]at k6
   obtain rfl:(⟨a7,[]⟩:DT)=b':=by simpa using k6
   refine ⟨by simp,?_⟩;show match j4 m s none s' t' with|none=>_|some g=>_
   rw[show j4 m s none s' t'=none by simp [j4,h]]
  ·rw[if_neg h]at k6
   obtain ⟨h1,h2⟩:=hm.e8 s' t' b' k6;refine ⟨h1,?_⟩;show match j4 m s none s' t' with|none=>_|some g=>_
   rw[hν s' t' ⟨b',k6⟩];cases hv:m.ν s' t' with
   | none=>rw[hv]at h2;exact h2
   | some g =>
    rw[hv]at h2;obtain ⟨h3,ar,e',h4,h5⟩:=h2;refine ⟨h3,ar,e',h4,λ i cs hi j c hj => ?_⟩;obtain ⟨u,hu,u6⟩:=h5 i cs hi j c hj;exact ⟨u,hu,he.cc u6⟩
 ·rw[FY]at h1 h2
  by_cases p1:s1=s/\t1=m.own.g9 s
  ·simp [j4,if_pos p1]at g1
  ·by_cases p2:s2=s/\t2=m.own.g9 s
   ·simp [j4,if_pos p2]at g2
   ·rw[if_neg p1]at h1
    rw[if_neg p2]at h2;exact hm.inj s1 t1 s2 t2 b1 b2 g h1 h2 (by rw[<-hν s1 t1 ⟨b1,h1⟩];exact g1) (by rw[<-hν s2 t2 ⟨b2,h2⟩];exact g2)
theorem uS {m:M} (hm:BP B S w0 m) (s t:Nat) (b b':DT) (hb:m.own.get s t=some b) (g:Nat) (hg:m.ν s t=some g) (arr o0:Array Value) (e:TypeId)
  (ha:m.w.heap[g]? = some (.cells arr e (0,0))) (hz':b'.a7=b.a7) (hz : ∀ x∈b'.es,x.length=b'.a7) (q6:o0.size=arr.size)
  (hc : ∀ i cs,b'.es[i]? = some cs -> ∀ j c,cs[j]? = some c -> ∃ u,o0[i*b'.a7+j]? = some u/\CC B S m c u) (w':World) (iu:Below B w0 w') (zi:w'.heap.size=m.w.heap.size)
  (hk : ∀ k,k≠g->w'.heap[k]? = m.w.heap[k]?) (Pk:w'.heap[g]? = some (.cells o0 e (0,0))) :
  BP B S w0 ⟨m.ν,m.own.put s ((m.own s).n6 t (some b')),w'⟩/\DG B S m ⟨m.ν,m.own.put s ((m.own s).n6 t (some b')),w'⟩:=by
 have k7:t<m.own.g9 s:=by
  rcases Nat.lt_or_ge t (m.own.g9 s) with h|h
  ·exact h
  ·rw[hm.fresh s t h]at hb;cases hb
 have he:DG B S m ⟨m.ν,m.own.put s ((m.own s).n6 t (some b')),w'⟩:=by
  refine RN hm (by rw[zi];exact Nat.le_refl _) (λ k gx hn=>hk k (λ e=>hn s t ⟨b,hb⟩ (e ▸ hg))) (λ s'=>by rw[kS];exact Nat.le_refl _) (λ s' t' b2 ht q5 => ?_) (λ s' t' g' hl ct _ => ?_)
  ·rw[VR]at q5
   by_cases h:s'=s/\t'=t
   ·obtain ⟨rfl,rfl⟩:=h
    rw[if_pos ⟨rfl,rfl⟩]at q5;obtain rfl:b'=b2:=by simpa using q5
    refine ⟨b,hb,hz',rfl,λ g2 ar e' jg Ap => ?_⟩;obtain rfl:g=g2:=by rw[hg]at jg;simpa using jg
    rw[ha]at Ap;obtain ⟨rfl,rfl⟩:arr=ar/\e=e':=by simpa using Ap
    exact ⟨o0,Pk,q6⟩
   ·rw[if_neg h]at q5
    refine ⟨b2,q5,rfl,rfl,λ g2 ar e' jg Ap=>⟨ar,?_,rfl⟩⟩;rw[<-Ap];exact hk g2 (λ e2=>h (by
     subst e2;exact hm.inj s' t' s t b2 b g2 q5 hb jg hg))
  ·obtain ⟨b2,q5⟩:=hl
   rw[VR]at q5;by_cases h:s'=s/\t'=t
   ·obtain ⟨rfl,rfl⟩:=h
    exact ⟨s',t',⟨b,hb⟩,ct⟩
   ·rw[if_neg h]at q5
    exact ⟨s',t',⟨b2,q5⟩,ct⟩
 refine ⟨⟨iu,by rw[zi];exact hm.size,λ s' t' ht => ?_,λ s' t' b2 q5 => ?_,λ s1 t1 s2 t2 b1 b2 g1 h1 h2 e1 e2 => ?_⟩,he⟩
 ·rw[kS]at ht
  rw[VR,if_neg (by rintro ⟨rfl,rfl⟩;omega)];exact hm.fresh s' t' ht
 ·rw[VR]at q5
  by_cases h:s'=s/\t'=t
  ·obtain ⟨rfl,rfl⟩:=h
   rw[if_pos ⟨rfl,rfl⟩]at q5;obtain rfl:b'=b2:=by simpa using q5
   refine ⟨hz,?_⟩;show match m.ν s' t' with|none=>_|some g=>_
   rw[hg];refine ⟨(hm.ge ⟨b,hb⟩ hg).1,o0,e,Pk,λ i cs hi j c hj => ?_⟩;obtain ⟨u,hu,u6⟩:=hc i cs hi j c hj;exact ⟨u,hu,he.cc u6⟩
  ·rw[if_neg h]at q5
   obtain ⟨h1,h2⟩:=hm.e8 s' t' b2 q5;refine ⟨h1,?_⟩;show match m.ν s' t' with|none=>_|some g=>_
   cases hv:m.ν s' t' with
   | none=>rw[hv]at h2;exact h2
   | some g2 =>
    rw[hv]at h2;obtain ⟨h3,ar,e',h4,h5⟩:=h2;refine ⟨h3,ar,e',?_,λ i cs hi j c hj => ?_⟩
    ·rw[<-h4]
     exact hk g2 (λ e2=>h (by
      subst e2;exact hm.inj s' t' s t b2 b g2 q5 hb hv hg))
    ·obtain ⟨u,hu,u6⟩:=h5 i cs hi j c hj
     exact ⟨u,hu,he.cc u6⟩
 ·have old : ∀ s' t' b2,(m.own.put s ((m.own s).n6 t (some b'))).get s' t'=some b2 -> ∃ b3,m.own.get s' t'=some b3:=λ s' t' b2 h=>by
   rw[VR]at h;by_cases h':s'=s/\t'=t
   ·obtain ⟨rfl,rfl⟩:=h';exact ⟨b,hb⟩
   ·rw[if_neg h']at h;exact ⟨b2,h⟩
  obtain ⟨c1,k1⟩:=old s1 t1 b1 h1;obtain ⟨c2,k2⟩:=old s2 t2 b2 h2;exact hm.inj s1 t1 s2 t2 c1 c2 g1 k1 k2 e1 e2
theorem RP (o:AH) (s t s' t':Nat) (b:DT):(o.put s (((o s).n6 t none).new b)).get s' t'=if s'=s/\t'=o.g9 s then some b else if s'=s/\t'=t then none else o.get s' t':=by
 unfold AH.get AH.put CD.new CD.n6 AH.g9;by_cases h:s'=s
 ·subst h
  by_cases h2:t'=(o s').g9<;>by_cases h3:t'=t<;>simp [h2,h3]
 ·simp [h]
theorem X3 (o:AH) (s t s':Nat) (b:DT):(o.put s (((o s).n6 t none).new b)).g9 s'=if s'=s then o.g9 s+1 else o.g9 s':=by
 unfold AH.g9 AH.put CD.new CD.n6;by_cases h:s'=s<;>simp [h]
theorem dZ {m:M} (hm:BP B S w0 m) (s t:Nat) (b b':DT) (hb:m.own.get s t=some b) (dk:Option Nat) (w':World) (iu:Below B w0 w') (q6:m.w.heap.size<=w'.heap.size)
  (hk : ∀ k,k<m.w.heap.size->m.ν s t≠some k->w'.heap[k]? = m.w.heap[k]?) (hz : ∀ x∈b'.es,x.length=b'.a7)
  (mj:dk=none->b'.es=[])
  (um : ∀ g,dk=some g->B<=g/\(m.w.heap.size<=g\/m.ν s t=some g) /\ ∃ arr e,w'.heap[g]? = some (.cells arr e (0,0)) /\
   ∀ i cs,b'.es[i]? = some cs -> ∀ j c,cs[j]? = some c -> ∃ u,arr[i*b'.a7+j]? = some u/\CC B S m c u) :
  BP B S w0 ⟨j4 m s dk,m.own.put s (((m.own s).n6 t none).new b'),w'⟩/\DG B S m ⟨j4 m s dk,m.own.put s (((m.own s).n6 t none).new b'),w'⟩:=by
 have k7:t<m.own.g9 s:=by
  rcases Nat.lt_or_ge t (m.own.g9 s) with h|h
  ·exact h
  ·rw[hm.fresh s t h]at hb;cases hb
 have hν : ∀ s' t',live m s' t'->j4 m s dk s' t'=m.ν s' t':=λ s' t' hl=>by
  unfold j4;rw[if_neg];rintro ⟨rfl,rfl⟩
  exact Y2 hm _ hl
 have he:DG B S m ⟨j4 m s dk,m.own.put s (((m.own s).n6 t none).new b'),w'⟩:=by
  refine RN hm q6 (λ k gx hn=>hk k gx (hn s t ⟨b,hb⟩)) (λ s' => ?_) (λ s' t' b2 ht q5 => ?_) (λ s' t' g' hl ct ub => ?_)
  ·rw[X3];split
   ·rename_i h;subst h;omega
   ·exact Nat.le_refl _
  ·rw[RP]at q5
   rw[if_neg (by rintro ⟨rfl,rfl⟩;omega)]at q5;by_cases h:s'=s/\t'=t
   ·rw[if_pos h]at q5;cases q5
   ·rw[if_neg h]at q5
    refine ⟨b2,q5,rfl,hν s' t' ⟨b2,q5⟩,λ g2 ar e' jg Ap=>⟨ar,?_,rfl⟩⟩;rw[<-Ap];exact hk g2 (Array.getElem?_eq_some_iff.1 Ap).1 (λ e2=>h (hm.inj s' t' s t b2 b g2 q5 hb jg e2))
  ·obtain ⟨b2,q5⟩:=hl
   rw[RP]at q5;by_cases h0:s'=s/\t'=m.own.g9 s
   ·simp only[j4,if_pos h0]at ct
    obtain ⟨_,h2,_⟩:=um g' ct;rcases h2 with h2|h2
    ·omega
    ·exact ⟨s,t,⟨b,hb⟩,h2⟩
   ·rw[if_neg h0]at q5
    by_cases h:s'=s/\t'=t
    ·rw[if_pos h]at q5;cases q5
    ·rw[if_neg h]at q5
     exact ⟨s',t',⟨b2,q5⟩,by rw[<-hν s' t' ⟨b2,q5⟩];exact ct⟩
 refine ⟨⟨iu,Nat.le_trans hm.size q6,λ s' t' ht => ?_,λ s' t' b2 q5 => ?_,λ s1 t1 s2 t2 b1 b2 g1 h1 h2 e1 e2 => ?_⟩,he⟩
 ·rw[X3]at ht
  have nm:m.own.g9 s'<=t' /\ ¬ (s'=s/\t'=m.own.g9 s):=by
   by_cases h:s'=s
   ·subst h
    simp at ht;exact ⟨by omega,by omega⟩
   ·simp [h]at ht
    exact ⟨ht,λ h'=>h h'.1⟩
  rw[RP,if_neg nm.2];split
  ·rfl
  ·exact hm.fresh s' t' nm.1
 ·rw[RP]at q5
  by_cases h0:s'=s/\t'=m.own.g9 s
  ·rw[if_pos h0]at q5
   obtain rfl:b'=b2:=by simpa using q5
   refine ⟨hz,?_⟩;show match j4 m s dk s' t' with|none=>_|some g=>_
   rw[show j4 m s dk s' t'=dk by simp [j4,h0]];cases dk with
   | none=>exact mj rfl
   | some g =>
    obtain ⟨h1,_,arr,e,h4,h5⟩:=um g rfl;refine ⟨h1,arr,e,h4,λ i cs hi j c hj => ?_⟩;obtain ⟨u,hu,u6⟩:=h5 i cs hi j c hj;exact ⟨u,hu,he.cc u6⟩
  ·rw[if_neg h0]at q5
   by_cases h:s'=s/\t'=t
   ·rw[if_pos h]at q5;cases q5
   ·rw[if_neg h]at q5
    obtain ⟨h1,h2⟩:=hm.e8 s' t' b2 q5;refine ⟨h1,?_⟩;show match j4 m s dk s' t' with|none=>_|some g=>_
    rw[hν s' t' ⟨b2,q5⟩];cases hv:m.ν s' t' with
    | none=>rw[hv]at h2;exact h2
    | some g2 =>
     rw[hv]at h2;obtain ⟨h3,ar,e',h4,h5⟩:=h2;refine ⟨h3,ar,e',?_,λ i cs hi j c hj => ?_⟩
     ·rw[<-h4]
      exact hk g2 (Array.getElem?_eq_some_iff.1 h4).1 (λ e2=>h (hm.inj s' t' s t b2 b g2 q5 hb hv e2))
     ·obtain ⟨u,hu,u6⟩:=h5 i cs hi j c hj
      exact ⟨u,hu,he.cc u6⟩
 ·rw[RP]at h1 h2
  have old : ∀ s' t' b2,(if s'=s/\t'=t then none else m.own.get s' t')=some b2->m.own.get s' t'=some b2 /\ ¬ (s'=s/\t'=t):=λ s' t' b2 h=>by
   by_cases h':s'=s/\t'=t
   ·rw[if_pos h']at h;cases h
   ·rw[if_neg h']at h;exact ⟨h,h'⟩
  have ma : ∀ s' t' b2,m.own.get s' t'=some b2 -> ¬ (s'=s/\t'=t)->j4 m s dk s' t'=some g1->dk=some g1->False:=λ s' t' b2 q5 k9 e1 e2=>by
   rw[hν s' t' ⟨b2,q5⟩]at e1;obtain ⟨_,h2,_⟩:=um g1 e2;obtain ⟨_,ar,e',h4⟩:=hm.ge ⟨b2,q5⟩ e1;have:=(Array.getElem?_eq_some_iff.1 h4).1
   rcases h2 with h2|h2
   ·omega
   ·exact k9 (hm.inj s' t' s t b2 b g1 q5 hb e1 h2)
  have at_ : ∀ s' t',s'=s/\t'=m.own.g9 s->j4 m s dk s' t'=some g1->dk=some g1:=λ s' t' h hg=>by simpa [j4,if_pos h] using hg
  by_cases p1:s1=s/\t1=m.own.g9 s<;>by_cases p2:s2=s/\t2=m.own.g9 s
  ·exact ⟨p1.1.trans p2.1.symm,p1.2.trans p2.2.symm⟩
  ·rw[if_neg p2]at h2
   obtain ⟨k2,n2⟩:=old s2 t2 b2 h2;exact (ma s2 t2 b2 k2 n2 e2 (at_ s1 t1 p1 e1)).elim
  ·rw[if_neg p1]at h1
   obtain ⟨k1,n1⟩:=old s1 t1 b1 h1;exact (ma s1 t1 b1 k1 n1 e1 (at_ s2 t2 p2 e2)).elim
  ·rw[if_neg p1]at h1
   rw[if_neg p2]at h2;obtain ⟨k1,n1⟩:=old s1 t1 b1 h1;obtain ⟨k2,n2⟩:=old s2 t2 b2 h2;exact hm.inj s1 t1 s2 t2 b1 b2 g1 k1 k2 (by rw[<-hν s1 t1 ⟨b1,k1⟩];exact e1) (by rw[<-hν s2 t2 ⟨b2,k2⟩];exact e2)
theorem oS (o:AH) (l:List Nat) (s t:Nat):(o.drop l).get s t=if s∈l then none else o.get s t:=by
 induction l with
 | nil=>simp [AH.drop]
 | cons x r ih =>
  unfold AH.get at *;by_cases h:s=x
  ·subst h;simp [AH.drop,AH.put]
  ·simp only[AH.drop,AH.put,if_neg h,List.mem_cons]
   rw[ih];by_cases h2:s∈r<;>simp [h,h2]
theorem kR (o:AH) (l:List Nat) (s:Nat):(o.drop l).g9 s=o.g9 s:=by
 induction l with
 | nil=>simp [AH.drop]
 | cons x r ih =>
  unfold AH.g9 at *;by_cases h:s=x
  ·subst h;simp [AH.drop,AH.put]
  ·simp [AH.drop,AH.put,h,ih]
theorem Vl {m:M} (hm:BP B S w0 m) (l:List Nat):BP B S w0 ⟨m.ν,m.own.drop l,m.w⟩/\DG B S m ⟨m.ν,m.own.drop l,m.w⟩:=by
 have old : ∀ s t b,(m.own.drop l).get s t=some b->m.own.get s t=some b:=λ s t b h=>by
  rw[oS]at h;split at h
  ·cases h
  ·exact h
 have he:DG B S m ⟨m.ν,m.own.drop l,m.w⟩:=by
  refine RN hm (Nat.le_refl _) (λ_ _ _=>rfl) (λ s=>by rw[kR];exact Nat.le_refl _) (λ s t b' _ k6=>⟨b',old s t b' k6,rfl,rfl,λ_ ar _ _ ha=>⟨ar,ha,rfl⟩⟩) (λ s t g hl hg _ => ?_);obtain ⟨b,hb⟩:=hl;exact ⟨s,t,⟨b,old s t b hb⟩,hg⟩
 refine ⟨⟨hm.below,hm.size,λ s t ht => ?_,λ s t b hb => ?_,λ s1 t1 s2 t2 b1 b2 g h1 h2=>hm.inj s1 t1 s2 t2 b1 b2 g (old _ _ _ h1) (old _ _ _ h2)⟩,he⟩
 ·rw[kR]at ht
  rw[oS];split
  ·rfl
  ·exact hm.fresh s t ht
 ·obtain ⟨h1,h2⟩:=hm.e8 s t b (old s t b hb)
  refine ⟨h1,?_⟩;show match m.ν s t with|none=>_|some g=>_
  cases hv:m.ν s t with
  | none=>rw[hv]at h2;exact h2
  | some g =>
   rw[hv]at h2;obtain ⟨h3,ar,e',h4,h5⟩:=h2;refine ⟨h3,ar,e',h4,λ i cs hi j c hj => ?_⟩;obtain ⟨u,hu,u6⟩:=h5 i cs hi j c hj;exact ⟨u,hu,he.cc u6⟩
end
end Go.c5

namespace Go.c5
section
variable {P:Program} {num:Nat->Nat} {op:Op}
theorem Aez {y:AP} (h:A8 P num op (.b7 y)=true) : ∃ x,(op = .move x\/op = .assign x)/\BL x y=true:=by
 cases op with
 | move x=>exact ⟨x,.inl rfl,h⟩
 | assign x=>exact ⟨x,.inr rfl,h⟩
 | _=>exact Bool.noConfusion h
theorem AeG {s z:Nat} (h:A8 P num op (.s9 s z)=true):(op = .move (.const (.slice none 0 0))\/op = .assign (.const (.slice none 0 0)))/\z≠0:=by
 simp only[A8,Bool.and_eq_true,bne_iff_ne]at h;refine ⟨?_,h.1⟩;have h2:=h.2;split at h2<;>simp_all
theorem AeB {c' a' b':AP} (h:A8 P num op (.pick c' a' b')=true) : ∃ c a b,op = .pick c a b/\BL c c'=true/\BL a a'=true/\BL b b'=true:=by
 cases op with
 | pick c a b=>simp only[A8,Bool.and_eq_true]at h;exact ⟨c,a,b,rfl,h.1.1,h.1.2,h.2⟩
 | _=>exact Bool.noConfusion h
theorem Aeg {f:BinOp} {x' y':AP} (h:A8 P num op (.bin f x' y')=true) : ∃ t x y u,op = .binOp f t x y u/\BL x x'=true/\BL y y'=true:=by
 cases op with
 | binOp f' t x y u =>
  simp only[A8,Bool.and_eq_true,beq_iff_eq]at h;exact ⟨t,x,y,u,by rw[h.1.1],h.1.2,h.2⟩
 | _=>exact Bool.noConfusion h
theorem Aef {ne:Bool} {x' y':AP} (h:A8 P num op (.beq ne x' y')=true) : ∃ t x y u,op = .binOp (if ne then .neq else .eql) t x y u/\P.underlying t=some .bool/\BL x x'=true/\BL y y'=true:=by
 cases op with
 | binOp f' t x y u =>
  simp only[A8,Bool.and_eq_true]at h;obtain ⟨⟨⟨h1,h2⟩,h3⟩,h4⟩:=h;refine ⟨t,x,y,u,?_,?_,h3,h4⟩
  ·cases ne<;>simp_all
  ·split at h2<;>simp_all
 | _=>exact Bool.noConfusion h
theorem AeF {f:UnOp} {x':AP} (h:A8 P num op (.un f x')=true) : ∃ t x,op = .unOp f t x/\BL x x'=true:=by
 cases op with
 | unOp f' t x =>
  simp only[A8,Bool.and_eq_true,beq_iff_eq]at h;exact ⟨t,x,by rw[h.1],h.2⟩
 | _=>exact Bool.noConfusion h
theorem Aep {k:IntKind} {x':AP} (h:A8 P num op (.conv k x')=true) : ∃ s d x ds,op = .convert s d x/\P.underlying s=some ds/\P.underlying d=some (.int k)/\BL x x'=true:=by
 cases op with
 | convert s d x =>
  simp only[A8,Bool.and_eq_true]at h;obtain ⟨⟨h1,h2⟩,h3⟩:=h;obtain ⟨ds,Ba⟩:=Option.isSome_iff_exists.1 h1;refine ⟨s,d,x,ds,rfl,Ba,?_,h3⟩;split at h2<;>simp_all
 | _=>exact Bool.noConfusion h
theorem Aeh {s:Nat} {x':AP} (h:A8 P num op (.box s x')=true) : ∃ t x,op = .box t x/\BL x x'=true:=by
 cases op with
 | box t x=>exact ⟨t,x,rfl,h⟩
 | _=>exact Bool.noConfusion h
theorem Aeb {s:Nat} {z:List AV} (h:A8 P num op (.alloc s z)=true) : ∃ t,op = .alloc t/\SF P t z=true:=by
 cases op with
 | alloc t=>exact ⟨t,rfl,h⟩
 | _=>exact Bool.noConfusion h
theorem Aej {z:List AV} {dv:List (Nat × Nat × AP)} (h:A8 P num op (.build z dv)=true) : ∃ t ps,op = .build t ps/\SF P t z=true/\aT P t ps.toList dv=true:=by
 cases op with
 | build t ps=>simp only[A8,Bool.and_eq_true]at h;exact ⟨t,ps,rfl,h.1,h.2⟩
 | _=>exact Bool.noConfusion h
theorem KA {t:TypeId} {f:TypeId->Bool} (h:G3 P t f=true) : ∃ e,P.underlying t=some (.slice e)/\f e=true:=by
 unfold G3 at h;split at h
 ·rename_i e he;exact ⟨e,he,h⟩
 ·cases h
theorem IW {t:TypeId} {n:Nat} (h:GS P t n=true) : ∃ i,P.info? t=some i/\i.size=n:=by
 unfold GS at h;split at h
 ·rename_i i hi;exact ⟨i,hi,by simpa using h⟩
 ·cases h
theorem XV {t:TypeId} {n:Nat} (h:RC P t n=true) : ∃ i,P.info? t=some i/\i.bytes=n:=by
 unfold RC at h;split at h
 ·rename_i i hi;exact ⟨i,hi,by simpa using h⟩
 ·cases h
theorem iH {t:TypeId} {l:List AV} (h:SF P t l=true) : ∃ i z,P.info? t=some i/\i.zero=some z/\PF z.cells.toList l=true:=by
 unfold SF at h;split at h
 ·rename_i i hi
  split at h
  ·rename_i z hz;exact ⟨i,z,hi,hz,h⟩
  ·cases h
 ·cases h
theorem XQ {t:TypeId} {b:Bool} (h:(P6 P t == some b)=true) : ∀ w,(isAgg t).run P w = .ok b w:=by
 intro w;have h':P6 P t=some b:=by simpa using h
 unfold P6 at h';unfold isAgg;cases hu:P.underlying t with
 | none=>rw[hu]at h';cases h'
 | some d =>
  rw[hu]at h';rw[Sem.run_bind,run_underlying hu];cases d<;>simp_all<;>rfl
theorem Z7 {e:TypeId} {n:Nat} (h:(match P.info? e with|some i=>(match i.zero with|some z=>z.cells.size == n|none=>false)|none=>false)=true) : ∃ i z,P.info? e=some i/\i.zero=some z/\z.cells.size=n:=by
 split at h
 ·rename_i i hi
  split at h
  ·rename_i z hz;exact ⟨i,z,hi,hz,by simpa using h⟩
  ·cases h
 ·cases h
theorem Aei {s a7:Nat} {dv:List AP} (h:A8 P num op (.c7 s a7 dv)=true) : ∃ t n ps e i,op = .buildSlice t n ps/\P.underlying t=some (.slice e)/\P.info? e=some i/\i.size=a7/\a7≠0/\n=dv.length/\n*a7<=16777216/\RK 0 ps.toList dv=true/\(n=0 \/ ∃ z,i.zero=some z/\z.cells.size=a7):=by
 cases op with
 | buildSlice t n ps =>
  simp only[A8,Bool.and_eq_true,decide_eq_true_eq,bne_iff_ne,beq_iff_eq,Bool.or_eq_true]at h;obtain ⟨⟨⟨⟨⟨h1,h2⟩,h3⟩,h4⟩,h5⟩,h6⟩:=h;obtain ⟨e,he,h1⟩:=KA h1;obtain ⟨i,hi,hs⟩:=IW h1;refine ⟨t,n,ps,e,i,rfl,he,hi,hs,h2,h3,h4,h5,h6.imp id λ h6 => ?_⟩;obtain ⟨e',iw,h6⟩:=KA h6;rw[he]at iw;obtain rfl:e=e':=by simpa using iw
  obtain ⟨i',z,m5,hz,qy⟩:=Z7 h6;rw[hi]at m5;obtain rfl:i=i':=by simpa using m5
  exact ⟨z,hz,qy⟩
 | _=>exact Bool.noConfusion h
theorem pI {x':AP} {off:Nat} (h:A8 P num op (.a6 x' off)=true) : ∃ t x f fs fd i,op = .fieldAddr t x f/\BL x x'=true/\P.underlying t=some (.struct fs)/\fs[f]? = some fd/\fd.offset=off/\P.info? fd.type=some i/\i.size≠0:=by
 cases op with
 | fieldAddr t x f =>
  simp only[A8,Bool.and_eq_true]at h;obtain ⟨h1,h2⟩:=h;split at h2
  ·rename_i fs gm
   split at h2
   ·rename_i fd Hg
    simp only[Bool.and_eq_true,beq_iff_eq]at h2;obtain ⟨h3,h4⟩:=h2;split at h4
    ·rename_i i hi
     exact ⟨t,x,f,fs,fd,i,rfl,h1,gm,Hg,h3,hi,by simpa using h4⟩
    ·cases h4
   ·cases h2
  ·cases h2
 | _=>exact Bool.noConfusion h
theorem Aes {x':AP} {off n:Nat} {agg:Bool} (h:A8 P num op (.nc x' off n agg)=true) : ∃ t x f fs fd i,op = .field t x f/\BL x x'=true/\P.underlying t=some (.struct fs)/\fs[f]? = some fd/\fd.offset=off/\P.info? fd.type=some i/\i.size=n/\(∀ w,(isAgg fd.type).run P w = .ok agg w)/\n≠0:=by
 cases op with
 | field t x f =>
  simp only[A8,Bool.and_eq_true]at h;obtain ⟨⟨h1,h2⟩,h3⟩:=h;unfold oE at h2;unfold oF at h3;split at h2
  ·rename_i fs gm
   split at h2
   ·rename_i fd Hg
    simp only[Bool.and_eq_true,beq_iff_eq,bne_iff_ne]at h2;obtain ⟨⟨h4,h5⟩,h6⟩:=h2;obtain ⟨i,hi,hs⟩:=IW h5;rw[gm]at h3;simp only[Hg]at h3;exact ⟨t,x,f,fs,fd,i,rfl,h1,gm,Hg,h4,hi,hs,XQ h3,h6⟩
   ·cases h2
  ·cases h2
 | _=>exact Bool.noConfusion h
theorem YR {arr:Option Nat} {a7:Nat} {x' i':AP} (h:A8 P num op (.a5 arr a7 x' i')=true) : ∃ t x i e inf,op = .indexAddr t x i/\BL x x'=true/\BL i i'=true/\P.info? e=some inf/\inf.size=a7 /\
  ((∃ len,arr=some len/\P.underlying t=some (.array len e)/\1<len)\/(arr=none/\P.underlying t=some (.slice e)/\a7≠0)):=by
 cases op with
 | indexAddr t x i =>
  simp only[A8,Bool.and_eq_true]at h;obtain ⟨⟨h1,h2⟩,h3⟩:=h;split at h3
  ·rename_i len e kv hu
   simp only[Bool.and_eq_true,beq_iff_eq,decide_eq_true_eq]at h3;obtain ⟨⟨h4,h5⟩,h6⟩:=h3;obtain ⟨inf,hi,hs⟩:=IW h5;exact ⟨t,x,i,e,inf,rfl,h1,h2,hi,hs,.inl ⟨len,by rw[h4],hu,h6⟩⟩
  ·rename_i e hu
   simp only[Bool.and_eq_true,bne_iff_ne]at h3;obtain ⟨inf,hi,hs⟩:=IW h3.1;exact ⟨t,x,i,e,inf,rfl,h1,h2,hi,hs,.inr ⟨rfl,hu,h3.2⟩⟩
  ·cases h3
 | _=>exact Bool.noConfusion h
theorem Aet {len a7:Nat} {agg:Bool} {x' i':AP} (h:A8 P num op (.idx len a7 agg x' i')=true) : ∃ t x i e inf,op = .index t x i/\BL x x'=true/\BL i i'=true/\P.underlying t=some (.array len e)/\P.info? e=some inf/\inf.size=a7/\(∀ w,(isAgg e).run P w = .ok agg w):=by
 cases op with
 | index t x i =>
  simp only[A8,Bool.and_eq_true]at h;obtain ⟨⟨h1,h2⟩,h3⟩:=h;split at h3
  ·rename_i kv e hu
   simp only[Bool.and_eq_true,beq_iff_eq]at h3;obtain ⟨⟨h4,h5⟩,h6⟩:=h3;obtain ⟨inf,hi,hs⟩:=IW h5;exact ⟨t,x,i,e,inf,rfl,h1,h2,by rw[h4];exact hu,hi,hs,XQ (by simpa using h6)⟩
  ·cases h3
 | _=>exact Bool.noConfusion h
theorem pJ {agg:Bool} {n:Nat} {x':AP} (h:A8 P num op (.ld agg n x')=true) : ∃ t x,op = .load t x/\BL x x'=true/\(∀ w,(isAgg t).run P w = .ok agg w)/\(if agg then ∃ i,P.info? t=some i/\i.size=n else n=1):=by
 cases op with
 | load t x =>
  simp only[A8,Bool.and_eq_true]at h;obtain ⟨⟨h1,h2⟩,h3⟩:=h;refine ⟨t,x,rfl,h1,XQ h2,?_⟩;cases agg
  ·simpa using h3
  ·exact IW (by simpa using h3)
 | _=>exact Bool.noConfusion h
theorem AeD {n:Nat} {x' v':AP} (h:A8 P num op (.st n x' v')=true) : ∃ t x v i,op = .store t x v/\BL x x'=true/\BL v v'=true/\P.info? t=some i/\i.size=n:=by
 cases op with
 | store t x v =>
  simp only[A8,Bool.and_eq_true]at h;obtain ⟨⟨h1,h2⟩,h3⟩:=h;obtain ⟨i,hi,hs⟩:=IW h3;exact ⟨t,x,v,i,rfl,h1,h2,hi,hs⟩
 | _=>exact Bool.noConfusion h
theorem Aew {s a7 bytes:Nat} {zero:List AV} {l' c':AP} (h:A8 P num op (.mk s a7 bytes zero l' c')=true) : ∃ t l c e i z,op = .makeSlice t l c/\BL l l'=true/\BL c c'=true/\P.underlying t=some (.slice e)/\P.info? e=some i/\i.size=a7/\i.bytes=bytes/\i.zero=some z/\PF z.cells.toList zero=true/\a7≠0:=by
 cases op with
 | makeSlice t l c =>
  simp only[A8,Bool.and_eq_true,bne_iff_ne]at h;obtain ⟨⟨⟨h1,h2⟩,h3⟩,h4⟩:=h;obtain ⟨e,he,h3⟩:=KA h3;simp only[Bool.and_eq_true]at h3;obtain ⟨⟨h5,h6⟩,h7⟩:=h3;obtain ⟨i,hi,hs⟩:=IW h5;obtain ⟨i2,kp,mn⟩:=XV h6;obtain ⟨i3,z,rm,hz,du⟩:=iH h7;rw[hi]at kp rm;obtain rfl:i=i2:=by simpa using kp
  obtain rfl:i=i3:=by simpa using rm
  exact ⟨t,l,c,e,i,z,rfl,h1,h2,he,hi,hs,mn,hz,du,h4⟩
 | _=>exact Bool.noConfusion h
theorem dJ {a7:Nat} {x':AP} {nu m5:Option AP} (h:A8 P num op (.fg a7 x' nu m5)=true) : ∃ t x lo hi e i,op = .slice t x lo hi none/\BL x x'=true/\OP lo nu=true/\OP hi m5=true/\P.underlying t=some (.slice e)/\P.info? e=some i/\i.size=a7/\a7≠0:=by
 cases op with
 | slice t x lo hi mx =>
  cases mx with
  | some _=>exact Bool.noConfusion h
  | none =>
   simp only[A8,Bool.and_eq_true,bne_iff_ne]at h;obtain ⟨⟨⟨⟨h1,h2⟩,h3⟩,h4⟩,h5⟩:=h;obtain ⟨e,he,h4⟩:=KA h4;obtain ⟨i,m5,hs⟩:=IW h4;exact ⟨t,x,lo,hi,e,i,rfl,h1,h2,h3,he,m5,hs,h5⟩
 | _=>exact Bool.noConfusion h
theorem Aer {x':AP} {i:Nat} (h:A8 P num op (.ext x' i)=true) : ∃ x,op = .extract x i/\BL x x'=true:=by
 cases op with
 | extract x j =>
  simp only[A8,Bool.and_eq_true,beq_iff_eq]at h;exact ⟨x,by rw[h.2],h.1⟩
 | _=>exact Bool.noConfusion h
theorem QY {α:Type} {xs:Array α} {x y:α} (h:xs.toList=[x,y]):xs = #[x,y]:=by cases xs;simp_all
theorem ZZ {α:Type} {xs:Array α} {x:α} (h:xs.toList=[x]):xs = #[x]:=by cases xs;simp_all
theorem Aev {x':AP} (h:A8 P num op (.len x')=true) : ∃ x t e,op = .call ⟨.builtin .len,#[x],#[t]⟩/\BL x x'=true/\P.underlying t=some (.slice e):=by
 cases op with
 | call c =>
  obtain ⟨cl,xs,ts⟩:=c;cases cl with
  | builtin b =>
   cases b<;>first|exact Bool.noConfusion h|skip
   simp only[A8]at h;split at h
   ·rename_i x t hx ht
    simp only[Bool.and_eq_true]at h;obtain ⟨e,he,_⟩:=KA h.2;exact ⟨x,t,e,by rw[ZZ hx,ZZ ht],h.1,he⟩
   ·cases h
  | value f=>cases f<;>exact Bool.noConfusion h
  | invoke=>exact Bool.noConfusion h
 | _=>exact Bool.noConfusion h
theorem pK {mx:Bool} {n0:List AP} (h:A8 P num op (.mm mx n0)=true) : ∃ xs ts,op = .call ⟨.builtin (if mx then .max else .min),xs,ts⟩/\ED xs.toList n0=true:=by
 cases op with
 | call c =>
  obtain ⟨cl,xs,ts⟩:=c;cases cl with
  | builtin b =>
   cases b<;>first|exact Bool.noConfusion h|skip
   all_goals
    simp only[A8,Bool.and_eq_true]at h;refine ⟨xs,ts,?_,h.2⟩;cases mx<;>simp_all
  | value f=>cases f<;>exact Bool.noConfusion h
  | invoke=>exact Bool.noConfusion h
 | _=>exact Bool.noConfusion h
theorem pH {s a7 bytes:Nat} {x' y':AP} (h:A8 P num op (.app s a7 bytes x' y')=true) : ∃ x y t e i z tx ex,op = .call ⟨.builtin .append,#[x,y],#[t,tx]⟩/\BL x x'=true/\BL y y'=true/\P.underlying t=some (.slice e)/\P.info? e=some i/\i.size=a7/\i.bytes=bytes/\i.zero=some z/\z.cells.size=a7/\a7≠0/\P.underlying tx=some (.slice ex):=by
 cases op with
 | call c =>
  obtain ⟨cl,xs,ts⟩:=c;cases cl with
  | builtin b =>
   cases b<;>first|exact Bool.noConfusion h|skip
   simp only[A8]at h;split at h
   ·rename_i x y t u hx ht
    simp only[Bool.and_eq_true,beq_iff_eq,bne_iff_ne]at h;obtain ⟨⟨⟨⟨h1,h2⟩,h3⟩,h4⟩,h5⟩:=h;obtain ⟨e,he,h3⟩:=KA h3;simp only[Bool.and_eq_true]at h3;obtain ⟨⟨h6,h7⟩,h8⟩:=h3;obtain ⟨i,hi,hs⟩:=IW h6;obtain ⟨i2,kp,mn⟩:=XV h7;obtain ⟨i3,z,rm,hz,du⟩:=Z7 h8;rw[hi]at kp rm;obtain rfl:i=i2:=by simpa using kp
    obtain rfl:i=i3:=by simpa using rm
    obtain ⟨ex,hex,_⟩:=KA h5;exact ⟨x,y,t,e,i,z,u,ex,by rw[QY hx,QY ht],h1,h2,he,hi,hs,mn,hz,du,h4,hex⟩
   ·cases h
  | value f=>cases f<;>exact Bool.noConfusion h
  | invoke=>exact Bool.noConfusion h
 | _=>exact Bool.noConfusion h
theorem Aec {s a7 bytes:Nat} {x' y':AP} (h:A8 P num op (.nw s a7 bytes x' y')=true) : ∃ x y t e i z tx ex,op = .call ⟨.builtin .append,#[x,y],#[t,tx]⟩/\BL x x'=true/\BL y y'=true/\P.underlying t=some (.slice e)/\P.info? e=some i/\i.size=a7/\i.bytes=bytes/\i.zero=some z/\z.cells.size=a7/\a7≠0/\P.underlying tx=some (.slice ex):=by
 cases op with
 | call c =>
  obtain ⟨cl,xs,ts⟩:=c;cases cl with
  | builtin b =>
   cases b<;>first|exact Bool.noConfusion h|skip
   simp only[A8]at h;split at h
   ·rename_i x y t u hx ht
    simp only[Bool.and_eq_true,beq_iff_eq,bne_iff_ne]at h;obtain ⟨⟨⟨⟨h1,h2⟩,h3⟩,h4⟩,h5⟩:=h;obtain ⟨e,he,h3⟩:=KA h3;simp only[Bool.and_eq_true]at h3;obtain ⟨⟨h6,h7⟩,h8⟩:=h3;obtain ⟨i,hi,hs⟩:=IW h6;obtain ⟨i2,kp,mn⟩:=XV h7;obtain ⟨i3,z,rm,hz,du⟩:=Z7 h8;rw[hi]at kp rm;obtain rfl:i=i2:=by simpa using kp
    obtain rfl:i=i3:=by simpa using rm
    obtain ⟨ex,hex,_⟩:=KA h5;exact ⟨x,y,t,e,i,z,u,ex,by rw[QY hx,QY ht],h1,h2,he,hi,hs,mn,hz,du,h4,hex⟩
   ·cases h
  | value f=>cases f<;>exact Bool.noConfusion h
  | invoke=>exact Bool.noConfusion h
 | _=>exact Bool.noConfusion h
theorem Aeq {a7:Nat} {x' y':AP} (h:A8 P num op (.oa a7 x' y')=true) : ∃ x y t e i,op = .call ⟨.builtin .copy,#[x,y],#[t,t]⟩/\BL x x'=true/\BL y y'=true/\P.underlying t=some (.slice e)/\P.info? e=some i/\i.size=a7/\a7≠0:=by
 cases op with
 | call c =>
  obtain ⟨cl,xs,ts⟩:=c;cases cl with
  | builtin b =>
   cases b<;>first|exact Bool.noConfusion h|skip
   simp only[A8]at h;split at h
   ·rename_i x y t u hx ht
    simp only[Bool.and_eq_true,beq_iff_eq,bne_iff_ne]at h;obtain ⟨⟨⟨⟨h1,h2⟩,h3⟩,h4⟩,h5⟩:=h;obtain ⟨e,he,h3⟩:=KA h3;obtain ⟨i,hi,hs⟩:=IW h3;exact ⟨x,y,t,e,i,by rw[QY hx,QY ht,h5],h1,h2,he,hi,hs,h4⟩
   ·cases h
  | value f=>cases f<;>exact Bool.noConfusion h
  | invoke=>exact Bool.noConfusion h
 | _=>exact Bool.noConfusion h
theorem dH {f:Nat} {n0:List AP} (h:A8 P num op (.call f n0)=true) : ∃ xs ts,op = .call ⟨.value (.func (num f)),xs,ts⟩/\ED xs.toList n0=true:=by
 cases op with
 | call c =>
  obtain ⟨cl,xs,ts⟩:=c;cases cl with
  | builtin b=>cases b<;>exact Bool.noConfusion h
  | value g =>
   cases g with
   | func g =>
    simp only[A8,Bool.and_eq_true,beq_iff_eq]at h;exact ⟨xs,ts,by rw[h.1],h.2⟩
   | _=>exact Bool.noConfusion h
  | invoke=>exact Bool.noConfusion h
 | _=>exact Bool.noConfusion h
theorem Aek {f:Nat} {n0:List AP} (h:A8 P num op (.e9 f n0)=true) : ∃ xs ts,op = .call ⟨.value (.func (num f)),xs,ts⟩/\ED xs.toList n0=true:=by
 cases op with
 | call c =>
  obtain ⟨cl,xs,ts⟩:=c;cases cl with
  | builtin b=>cases b<;>exact Bool.noConfusion h
  | value g =>
   cases g with
   | func g =>
    simp only[A8,Bool.and_eq_true,beq_iff_eq]at h;exact ⟨xs,ts,by rw[h.1],h.2⟩
   | _=>exact Bool.noConfusion h
  | invoke=>exact Bool.noConfusion h
 | _=>exact Bool.noConfusion h
theorem Ael {f:Nat} {n0:List AP} (h:A8 P num op (.l9 f n0)=true):A8 P num op (.call f n0)=true:=by
 cases op<;>exact h
theorem Aea {ne:Bool} {n:Nat} {x' y':AP} (h:A8 P num op (.qh ne n x' y')=true) : ∃ t x y u,op = .binOp (if ne then .neq else .eql) t x y u/\cT P t n=true/\BL x x'=true/\BL y y'=true:=by
 cases op with
 | binOp f' t x y u =>
  simp only[A8,Bool.and_eq_true]at h;obtain ⟨⟨⟨h1,h2⟩,h3⟩,h4⟩:=h;refine ⟨t,x,y,u,?_,h2,h3,h4⟩;cases ne<;>simp_all
 | _=>exact Bool.noConfusion h
theorem AeA {x':AP} (h:A8 P num op (.su x')=true) : ∃ x,op = .nilCheck x/\BL x x'=true:=by
 cases op with
 | nilCheck x=>exact ⟨x,rfl,h⟩
 | _=>exact Bool.noConfusion h
theorem Aeo {x':AP} (h:A8 P num op (.er x')=true) : ∃ x t e,op = .call ⟨.builtin .cap,#[x],#[t]⟩/\BL x x'=true/\P.underlying t=some (.slice e):=by
 cases op with
 | call c =>
  obtain ⟨cl,xs,ts⟩:=c;cases cl with
  | builtin b =>
   cases b<;>first|exact Bool.noConfusion h|skip
   simp only[A8]at h;split at h
   ·rename_i x t hx ht
    simp only[Bool.and_eq_true]at h;obtain ⟨e,he,_⟩:=KA h.2;exact ⟨x,t,e,by rw[ZZ hx,ZZ ht],h.1,he⟩
   ·cases h
  | value f=>cases f<;>exact Bool.noConfusion h
  | invoke=>exact Bool.noConfusion h
 | _=>exact Bool.noConfusion h
theorem Aee {s a7 bytes:Nat} {x' y':AP} (h:A8 P num op (.nb s a7 bytes x' y')=true) : ∃ x y t e i z tx k,op = .call ⟨.builtin .append,#[x,y],#[t,tx]⟩/\BL x x'=true/\BL y y'=true/\P.underlying t=some (.slice e)/\P.info? e=some i/\i.size=a7/\i.bytes=bytes/\i.zero=some z/\z.cells.size=a7/\a7≠0/\P.underlying tx=some (.int k):=by
 cases op with
 | call c =>
  obtain ⟨cl,xs,ts⟩:=c;cases cl with
  | builtin b =>
   cases b<;>first|exact Bool.noConfusion h|skip
   simp only[A8]at h;split at h
   ·rename_i x y t u hx ht
    simp only[Bool.and_eq_true,bne_iff_ne]at h;obtain ⟨⟨⟨⟨h1,h2⟩,h3⟩,h4⟩,h5⟩:=h;obtain ⟨e,he,h3⟩:=KA h3;simp only[Bool.and_eq_true]at h3;obtain ⟨⟨h6,h7⟩,h8⟩:=h3;obtain ⟨i,hi,hs⟩:=IW h6;obtain ⟨i2,kp,mn⟩:=XV h7;obtain ⟨i3,z,rm,hz,du⟩:=Z7 h8;rw[hi]at kp rm;obtain rfl:i=i2:=by simpa using kp
    obtain rfl:i=i3:=by simpa using rm
    split at h5
    ·rename_i k hk
     exact ⟨x,y,t,e,i,z,u,k,by rw[QY hx,QY ht],h1,h2,he,hi,hs,mn,hz,du,h4,hk⟩
    ·cases h5
   ·cases h
  | value f=>cases f<;>exact Bool.noConfusion h
  | invoke=>exact Bool.noConfusion h
 | _=>exact Bool.noConfusion h
theorem Aen {s f:Nat} {n0:List AP} (h:A8 P num op (.bg s f n0)=true):A8 P num op (.e9 f n0)=true:=by
 cases op<;>exact h
theorem Aem {s f:Nat} {n0:List AP} (h:A8 P num op (.o9 s f n0)=true):A8 P num op (.call f n0)=true:=by
 cases op<;>exact h
theorem AeE {s n:Nat} {x' v':AP} (h:A8 P num op (.na s n x' v')=true):A8 P num op (.st n x' v')=true:=by
 cases op<;>exact h
theorem Aed {s a7 bytes:Nat} {x' y':AP} (h:A8 P num op (.dj s a7 bytes x' y')=true):A8 P num op (.app s a7 bytes x' y')=true:=by
 cases op<;>exact h
theorem Aeu {ne:Bool} {x':AP} (h:A8 P num op (.rh ne x')=true) : ∃ t x u e,op = .binOp (if ne then .neq else .eql) t x (.const (.slice none 0 0)) u/\P.underlying t=some (.slice e)/\BL x x'=true:=by
 cases op with
 | binOp f' t x y u =>
  simp only[A8]at h;split at h
  ·rename_i heq
   simp only[Op.binOp.injEq]at heq;obtain ⟨rfl,rfl,rfl,rfl,rfl⟩:=heq;simp only[Bool.and_eq_true]at h;obtain ⟨⟨h1,h2⟩,h3⟩:=h;unfold G3 at h2;split at h2
   ·rename_i e he
    refine ⟨t,x,u,e,?_,he,h3⟩;cases ne
    ·simp only[Bool.false_eq_true,if_false,beq_iff_eq]at h1;rw[h1];rfl
    ·simp only[if_true,beq_iff_eq]at h1;rw[h1];rfl
   ·cases h2
  ·cases h
 | _=>exact Bool.noConfusion h
theorem AeC {tb:List Nat} {i':AP} (h:A8 P num op (.fy tb i')=true) : ∃ t s i,op = .index t (.const (.string s)) i/\P.underlying t=some .string/\s.data.toList.map (λ b=>b.toNat)=tb/\BL i i'=true:=by
 cases op with
 | index t x i =>
  simp only[A8]at h;split at h
  ·rename_i heq
   simp only[Op.index.injEq]at heq;obtain ⟨rfl,rfl,rfl⟩:=heq;simp only[Bool.and_eq_true,beq_iff_eq]at h;obtain ⟨⟨h1,h2⟩,h3⟩:=h;exact ⟨_,_,_,rfl,by split at h1<;>simp_all,h2,h3⟩
  ·cases h
 | _=>exact Bool.noConfusion h
theorem Aey {p:Bool} {f:Nat} {n0:List AP} (h:A8 P num op (.pd p f n0)=true) : ∃ first xs,op = .makeFunc (.func (num f)) first xs/\first = #[]/\ED xs.toList n0=true:=by
 cases op with
 | makeFunc g first xs =>
  cases g with
  | func g =>
   simp only[A8,Bool.and_eq_true,beq_iff_eq]at h;obtain ⟨⟨rfl,h2⟩,h3⟩:=h;refine ⟨first,xs,rfl,?_,h3⟩;obtain ⟨l⟩:=first
   simp at h2;rw[h2]
  | _=>exact Bool.noConfusion h
 | _=>exact Bool.noConfusion h
theorem Aex {f:Nat} {x':AP} (h:A8 P num op (.qg f x')=true) : ∃ x,op = .makeFunc (.func (num f)) #[x] #[]/\BL x x'=true:=by
 cases op with
 | makeFunc g first xs =>
  cases g with
  | func g =>
   obtain ⟨l⟩:=first
   obtain ⟨l2⟩:=xs;simp only[A8,Bool.and_eq_true,beq_iff_eq]at h;obtain ⟨⟨rfl,h2⟩,h3⟩:=h;match l,l2,h2,h3 with
   | [x],[],h2,_=>exact ⟨x,rfl,h2⟩
  | _=>exact Bool.noConfusion h
 | _=>exact Bool.noConfusion h
theorem dI {x':AP} {n0:List AP} (h:A8 P num op (.m9 x' n0)=true) : ∃ x xs ts,op = .call ⟨.value x,xs,ts⟩/\BL x x'=true/\ED xs.toList n0=true:=by
 cases op with
 | call c =>
  obtain ⟨cl,xs,ts⟩:=c;cases cl with
  | builtin b=>cases b<;>exact Bool.noConfusion h
  | value g =>
   simp only[A8,Bool.and_eq_true]at h;exact ⟨g,xs,ts,rfl,h.1,h.2⟩
  | invoke=>exact Bool.noConfusion h
 | _=>exact Bool.noConfusion h
end
end Go.c5

namespace Go.c5
open Go.RowKit
def CB.w3:CB->AH->AH
 | .val _,o=>o
 | .new s b _,o=>o.put s ((o s).new b)
 | .ye s b _,o=>o.put s ((o s).new b)
 | .bu _ o',_=>o'
 | .n6 s x,o=>o.put s x
 | .sv s x _,o=>o.put s x
def CB.valOf:CB->AH->AV
 | .val v,_=>v
 | .new s _ v,o=>v (o.g9 s)
 | .ye s _ v,o=>v (o.g9 s)
 | .bu v _,_=>v
 | .n6 _ _,_ => .g7 []
 | .sv _ _ v,_=>v
section
variable {B:Nat} {S:Nat->Prop} {w0:World} {m:M}
theorem GW {k:IntKind} {n:Int} {v:Value} (h:CV B S m (.int k n) v):v = .int k n:=by
 cases h with
 | ca h=>cases h with
  | one h=>cases h with
   | rd h=>cases h;rfl
theorem RG {b:Bool} {v:Value} (h:CV B S m (.bool b) v):v = .bool b:=by
 cases h with
 | ca h=>cases h with
  | one h=>cases h with
   | rd h=>cases h;rfl
theorem U0 {cs:List AV} {v:Value} (h:CV B S m (.agg cs) v) : ∃ vs:List Value,v = .agg vs.toArray/\CL B S m cs vs:=by
 cases h with
 | ca h=>cases h with
  | one h=>cases h with
   | rd h=>cases h
  | agg _ vs h=>exact ⟨vs,rfl,h⟩
theorem bJ {cs:List AV} {v:Value} (h:CV B S m (.g7 cs) v) : ∃ vs:List Value,v = .tuple vs.toArray/\cs.length=vs.length /\ ∀ (j:Nat) (c:AV) (u:Value),cs[j]? = some c->vs[j]? = some u->CA B S m c u:=by
 cases h with
 | ca h=>cases h with
  | one h=>cases h with
   | rd h=>cases h
 | g7 _ vs hl h=>exact ⟨vs,rfl,hl,h⟩
theorem LB (k:IntKind) (n:Int):CV B S m (.int k n) (.int k n):= .ca (.one (.rd (.int k n)))
theorem VY (b:Bool):CV B S m (.bool b) (.bool b):= .ca (.one (.rd (.bool b)))
theorem qH:CV B S m (.g7 []) undef := .g7 [] [] rfl (λ j c v h=>by simp at h)
theorem X5 {a:AV} {cs:List AV} {v:Value} (h:CV B S m a v) (hc:cellsOf a=some cs):CL B S m cs v.cells.toList:=by
 cases h with
 | any v=>simp [cellsOf]at hc
 | g7=>simp [cellsOf]at hc
 | ca h=>cases h with
  | agg dw vs h =>
   obtain rfl:dw=cs:=by simpa [cellsOf] using hc
   simpa [Value.cells] using h
  | fn=>simp [cellsOf]at hc
  | rj=>simp [cellsOf]at hc
  | one h =>
   have h1:v.cells.toList=[v]:=by
    cases h with
    | rd h=>cases h<;>rfl
    | _=>rfl
   have h2:cs=[a]:=by
    cases h with
    | rd h=>cases h<;>simp [cellsOf]at hc<;>exact hc.symm
    | _=>simp [cellsOf]at hc;exact hc.symm
   rw[h1,h2];refine ⟨rfl,λ j c u hj hu => ?_⟩;cases j with
   | zero=>simp at hj hu;subst hj hu;exact h
   | succ j=>simp at hj
theorem Tp {cs:List AV} {vs:List Value} (h:CL B S m cs vs) : ∀ v∈vs,v.oneCell'=true:=by
 intro v hv;obtain ⟨j,hj,rfl⟩:=List.getElem_of_mem hv;have Co:j<cs.length:=by rw[h.1];exact hj
 exact (h.2 j cs[j] vs[j] (zE Co) (zE hj)).one
theorem kF {cs:List AV} {vs:List Value} (h:CL B S m cs vs) (off n:Nat):CL B S m ((cs.drop off).take n) ((vs.drop off).take n):=by
 refine ⟨by simp [h.1],λ j c v hj hv => ?_⟩;rw[List.getElem?_take]at hj hv;split at hj
 ·rename_i k7
  rw[if_pos k7]at hv;rw[List.getElem?_drop]at hj hv;exact h.2 _ c v hj hv
 ·cases hj
theorem mU {v:Value} {a:AV} (h:YF v a=true):CC B S m a v:=by
 unfold YF at h;split at h
 ·simp only[Bool.and_eq_true,beq_iff_eq]at h
  obtain ⟨rfl,rfl⟩:=h;exact .rd (.int _ _)
 ·obtain rfl:_=_:=by simpa using h
  exact .rd (.bool _)
 ·exact .nil
 ·rename_i s s'
  obtain rfl:s=s':=by
   have h':s.data.toList=s'.data.toList:=by simpa using h
   obtain ⟨⟨l⟩⟩:=s;obtain ⟨⟨l'⟩⟩:=s';simp only at h';rw[h']
  exact .rd (.str _)
 ·cases h
theorem TD : ∀ {vs:List Value} {cs:List AV},PF vs cs=true->CL B S m cs vs
 | [],[],_=>⟨rfl,λ j c v h=>by simp at h⟩
 | v::r,c::l,h=>by
  simp only[PF,Bool.and_eq_true]at h;have ih:=TD (vs:=r) (cs:=l) h.2;refine ⟨by simp [ih.1],λ j c' v' hj hv => ?_⟩;cases j with
  | zero=>simp at hj hv;subst hj hv;exact mU h.1
  | succ j=>exact ih.2 j c' v' (by simpa using hj) (by simpa using hv)
 | [],_::_,h=>by simp [PF]at h
 | _::_,[],h=>by simp [PF]at h
theorem Uo {v:Value} {a:AV} (h:cD v a=true):CV B S m a v:=by
 unfold cD at h;split at h
 ·rename_i cs l
  have:=TD (B:=B) (S:=S) (m:=m) h
  exact .ca (by simpa using CA.agg l cs.toList this)
 ·exact .ca (.one (mU h))
def CN (B:Nat) (S:Nat->Prop) (m:M) (ρ:AP->AV) (e:Operand->Value):Prop := ∀ x y,BL x y=true->CV B S m (ρ y) (e x)
theorem Agc {T:Nat->AV} {a:Act} {ρ:AP->AV} (hρt : ∀ n,ρ (.t n)=T n) (Qu : ∀ v,ρ (.c v)=v) (h : ∀ i,CV B S m (T i) (a.tmps.getD i undef)):CN B S m ρ a.eval:=by
 intro x y mr;unfold BL at mr;split at mr
 ·obtain rfl:_=_:=by simpa using mr
  rw[hρt];exact h _
 ·rw[Qu]
  exact Uo mr
 ·obtain rfl:_=_:=by simpa using mr
  rw[Qu];exact .ca (.fn _ _ _ [] [] (λ_=>rfl) ⟨rfl,λ j c v h=>by simp at h⟩)
 ·cases mr
variable {P:Program} {num:Nat->Nat} {o:Oper} {a:Act} {ρ:AP->AV} {K:Act->World->Prop} {Q:Exit->Act->World->Prop}
theorem JP {w w':World} {u:Value} (h:(execOp a.eval o).run P w = .ok (.value u) w') (hk:K (a.put o.dst u) w'):o.wp P a w K Q:=by
 unfold Oper.wp;rw[h];exact hk
theorem Ahd {w w':World} (h:(execOp a.eval o).run P w = .ok .skip w') (hk:K (a.put o.dst undef) w'):o.wp P a w K Q:=by
 unfold Oper.wp;rw[h];exact hk
def CS (B:Nat) (S:Nat->Prop) (w0:World) (P:Program) (o:Oper) (a:Act) (m:M) (E:CB):Prop :=
 ∀ (K:Act->World->Prop) (Q:Exit->Act->World->Prop),(∀ u m',m'.own=E.w3 m.own->BP B S w0 m'->DG B S m m'->CV B S m' (E.valOf m.own) u->K (a.put o.dst u) m'.w)->o.wp P a m.w K Q
theorem D7 (hm:BP B S w0 m) {v:AV} {u:Value} (h:(execOp a.eval o).run P m.w = .ok (.value u) m.w) (hc:CV B S m v u):CS B S w0 P o a m (.val v) :=
 λ K Q hK=>JP h (hK u m rfl hm (DG.refl m) hc)
theorem Uw (hm:BP B S w0 m) (hs:CN B S m ρ a.eval) {y:AP} (h:A8 P num o.op (.b7 y)=true):CS B S w0 P o a m (.val (ρ y)):=by
 obtain ⟨x,hx,he⟩:=Aez h;refine D7 hm (u:=a.eval x) ?_ (hs x y he);rcases hx with hx|hx<;>simp [execOp,hx]
theorem Vd (hm:BP B S w0 m) {s z:Nat} (h:A8 P num o.op (.s9 s z)=true):CS B S w0 P o a m (.ye s ⟨z,[]⟩ (λ t => .row s t z 0 0)):=by
 obtain ⟨hx,hz⟩:=AeG h;intro K Q hK;obtain ⟨h1,h2⟩:=uZ hm s z;refine JP (u := .slice none 0 0) (w':=m.w) ?_ (hK _ ⟨j4 m s none,m.own.put s ((m.own s).new ⟨z,[]⟩),m.w⟩ rfl h1 h2 ?_)
 ·rcases hx with hx|hx<;>simp [execOp,hx,Act.eval]
 ·refine .ca (.one (.row s (m.own.g9 s) z 0 0 none 0 ?_ (by omega) (Nat.le_refl _) (λ h=>by omega) λ b hb => ?_))
  ·show _<AH.g9 _ s
   rw[KM];simp
  ·change AH.get _ s _=some b at hb
   rw[FY,if_pos ⟨rfl,rfl⟩]at hb;obtain rfl:(⟨z,[]⟩:DT)=b:=by simpa using hb
   exact ⟨rfl,.inl ⟨rfl,rfl⟩⟩
theorem lW (hm:BP B S w0 m) (hs:CN B S m ρ a.eval) {c' a' b':AP} (h:A8 P num o.op (.pick c' a' b')=true) {t:Bool} (hc:ρ c' = .bool t) :
  CS B S w0 P o a m (.val (if t then ρ a' else ρ b')):=by
 obtain ⟨c,x,y,j8,h1,h2,h3⟩:=AeB h;have s8:=RG (hc ▸ hs c c' h1);refine D7 hm (u:=if t then a.eval x else a.eval y) ?_ ?_
 ·cases t<;>simp [execOp,j8,s8,asBool]
 ·cases t
  ·exact hs y b' h3
  ·exact hs x a' h2
theorem Af8 (f:BinOp) (t:TypeId) (k k':IntKind) (x y:Int) (v:AV) (h:DI f k x k' y=some v) (w:World) : ∃ u,(binOp f t (.int k x) (.int k' y)).run P w = .ok u w/\((∃ n,v = .int k n/\u = .int k n) \/ ∃ b,v = .bool b/\u = .bool b):=by
 cases f<;>simp only[DI]at h;case shl =>
  split at h
  ·cases h
  ·rename_i hy;simp at h;subst h
   exact ⟨_,by simp [binOp,Op.shift,hy],.inl ⟨_,rfl,rfl⟩⟩
 case shr =>
  split at h
  ·cases h
  ·rename_i hy;simp at h;subst h
   exact ⟨_,by simp [binOp,Op.shift,hy],.inl ⟨_,rfl,rfl⟩⟩
 case quo =>
  split at h
  ·rename_i hy;obtain ⟨rfl,hy⟩:=hy;simp at h;subst h
   exact ⟨_,by simp [binOp,Op.intDiv,hy],.inl ⟨_,rfl,rfl⟩⟩
  ·cases h
 case rem =>
  split at h
  ·rename_i hy;obtain ⟨rfl,hy⟩:=hy;simp at h;subst h
   exact ⟨_,by simp [binOp,Op.intDiv,hy],.inl ⟨_,rfl,rfl⟩⟩
  ·cases h
 case and|or|xor|andNot =>
  all_goals
   split at h
   ·rename_i hk;subst hk;obtain rfl:=Option.some.inj h
    exact ⟨_,by simp only[binOp,ne_eq,not_true_eq_false,if_false];rfl,.inl ⟨_,rfl,rfl⟩⟩
   ·cases h
 case add|sub|mul =>
  all_goals
   split at h
   ·rename_i hk;subst hk;obtain rfl:=Option.some.inj h
    exact ⟨_,by simp [binOp,Op.intArith],.inl ⟨_,rfl,rfl⟩⟩
   ·cases h
 all_goals
  split at h
  ·rename_i hk;subst hk;obtain rfl:=Option.some.inj h
   exact ⟨_,by simp [binOp,Op.intCmp],.inr ⟨_,rfl,rfl⟩⟩
  ·cases h
theorem Af2 (f:BinOp) (t:TypeId) (x y:Operand) (k k':IntKind) (n n':Int) (w:World):(eqGuard f t x y (.int k n) (.int k' n')).run P w = .ok () w:=by
 unfold eqGuard;cases f<;>simp
theorem Af3 (f:BinOp) (t:TypeId) (x y:Operand) (b b':Bool) (w:World):(eqGuard f t x y (.bool b) (.bool b')).run P w = .ok () w:=by
 unfold eqGuard;cases f<;>simp
theorem Vu (hm:BP B S w0 m) (hs:CN B S m ρ a.eval) {f:BinOp} {x' y':AP} (h:A8 P num o.op (.bin f x' y')=true) {k k':IntKind} {n n':Int} {v:AV} (hx:ρ x' = .int k n) (hy:ρ y' = .int k' n') (hv:DI f k n k' n'=some v) :
  CS B S w0 P o a m (.val v):=by
 obtain ⟨t,x,y,u,j8,h1,h2⟩:=Aeg h;have ex:=GW (hx ▸ hs x x' h1);have ey:=GW (hy ▸ hs y y' h2);obtain ⟨r,hr,z7⟩:=Af8 (P:=P) f t k k' n n' v hv m.w;refine D7 hm (u:=r) ?_ ?_
 ·simp [execOp,j8,ex,ey,Af2,hr]
 ·rcases z7 with ⟨q,rfl,rfl⟩|⟨q,rfl,rfl⟩
  ·exact LB _ _
  ·exact VY _
theorem Af5 (t:TypeId) (b b':Bool) (hu:P.underlying t=some .bool) (w:World):(Op.equal t (.bool b) (.bool b')).run P w = .ok (b == b') w:=by
 have h : ∀ d:Nat,(Op.equalIn (d+1) t (.bool b) (.bool b')).run P w = .ok (b == b') w:=λ d=>by
  unfold Op.equalIn;rw[Sem.run_bind,run_underlying hu];rfl
 exact h 9999
theorem Vt (hm:BP B S w0 m) (hs:CN B S m ρ a.eval) {ne:Bool} {x' y':AP} (h:A8 P num o.op (.beq ne x' y')=true) {b b':Bool} (hx:ρ x' = .bool b) (hy:ρ y' = .bool b') :
  CS B S w0 P o a m (.val (.bool (if ne then !(b == b') else b == b'))):=by
 obtain ⟨t,x,y,u,j8,hu,h1,h2⟩:=Aef h;have ex:=RG (hx ▸ hs x x' h1);have ey:=RG (hy ▸ hs y y' h2);refine D7 hm (u := .bool (if ne then !(b == b') else b == b')) ?_ (VY _);cases ne<;>simp [execOp,j8,ex,ey,Af3,binOp,Af5 t b b' hu]
theorem oG : ∀ {fs:List Field} {k n:Nat},fieldsI P k fs n=true->k<=n
 | [],k,n,h=>by simp only[fieldsI,beq_iff_eq]at h;omega
 | f::fs,k,n,h=>by
  simp only[fieldsI,Bool.and_eq_true]at h;have:=oG h.2
  omega
theorem sT (d:Nat) (a b:List Int) (w:World) : ∀ {fs:List Field} {k:Nat},fieldsI P k fs a.length=true->b.length=a.length ->
  (Op.eqFields (d+1) (a.map (Value.int .i64)).toArray (b.map (Value.int .i64)).toArray fs).run P w = .ok (decide (a.drop k=b.drop k)) w
 | [],k,h,hl=>by
  simp only[fieldsI,beq_iff_eq]at h;rw[List.drop_of_length_le (by omega),List.drop_of_length_le (by omega)];simp [Op.eqFields]
 | f::fs,k,h,hl=>by
  simp only[fieldsI,Bool.and_eq_true,bne_iff_ne,beq_iff_eq]at h;obtain ⟨⟨⟨h1,h2⟩,h3⟩,h4⟩:=h;have hk:=oG h4;have hp:P.plainKey f.type=true:=by unfold Program.plainKey;split at h3<;>simp_all
  obtain ⟨kd,hu⟩ : ∃ kd,P.underlying f.type=some (.int kd):=by split at h3<;>simp_all
  have e1:(a.map (Value.int .i64)).toArray[f.offset]? = some (.int .i64 (a[k]'(by omega))):=by rw[h2];simp [zE (show k<a.length by omega)]
  have e2:(b.map (Value.int .i64)).toArray[f.offset]? = some (.int .i64 (b[k]'(by omega))):=by rw[h2];simp [zE (show k<b.length by omega)]
  have ih:=sT d a b w h4 hl;have hd:(a.drop k=b.drop k)↔(a[k]'(by omega)=b[k]'(by omega)/\a.drop (k+1)=b.drop (k+1)):=by
   rw[List.drop_eq_getElem_cons (show k<a.length by omega),List.drop_eq_getElem_cons (show k<b.length by omega),List.cons.injEq]
  simp only[Op.eqFields,ne_eq,h1,not_false_eq_true,if_true,Sem.run_bind,run_part_plain w hp e1,run_part_plain w hp e2,Result.andThen_ok,run_equalIn_int w d f.type .i64 kd _ _ hu,Sem.run_ite];by_cases gk:a[k]'(by omega)=b[k]'(by omega)
  ·simp [gk,ih,hd]
  ·simp [gk,hd]
theorem dF : ∀ {cs:List AV} {a:List Int} {vs:List Value},HO cs=some a->CL B S m cs vs->vs=a.map (Value.int .i64)
 | [],a,vs,h,hc=>by
  simp only[HO,Option.some.injEq]at h;subst h;have:=hc.1
  exact List.eq_nil_of_length_eq_zero (by simpa using this.symm)
 | c::r,a,vs,h,hc=>by
  cases vs with
  | nil=>have:=hc.1;simp at this
  | cons v vs =>
   cases c with
   | int k n =>
    cases k<;>simp only[HO]at h<;>first|cases h|skip
    cases hr:HO r with
    | none=>rw[hr]at h;cases h
    | some b =>
     rw[hr]at h;simp only[Option.map_some,Option.some.injEq]at h;subst h;have h0:=GW (.ca (.one (hc.2 0 _ v rfl rfl)));have ih:=dF (vs:=vs) hr ⟨by have:=hc.1;simpa using this,λ j c v h1 h2=>hc.2 (j+1) c v h1 h2⟩;rw[h0,ih];rfl
   | _=>simp only[HO]at h;cases h
theorem Rz (hm:BP B S w0 m) (hs:CN B S m ρ a.eval) {ne:Bool} {n:Nat} {x' y':AP} (h:A8 P num o.op (.qh ne n x' y')=true) {cs ds:List AV} (hx:ρ x' = .agg cs) (hy:ρ y' = .agg ds) {p q:List Int} (hp:HO cs=some p) (hq:HO ds=some q) (hn:p.length=n/\q.length=n) :
  CS B S w0 P o a m (.val (.bool (if ne then !(decide (p=q)) else decide (p=q)))):=by
 obtain ⟨t,x,y,u,j8,df,h1,h2⟩:=Aea h;obtain ⟨vx,ex,cx⟩:=U0 (hx ▸ hs x x' h1);obtain ⟨vy,ey,cy⟩:=U0 (hy ▸ hs y y' h2);obtain rfl:=dF hp cx;obtain rfl:=dF hq cy;obtain ⟨rfl,vn⟩:=hn;simp only[cT,Bool.and_eq_true,Bool.not_eq_true']at df;obtain ⟨⟨hf,j6⟩,hg⟩:=df;obtain ⟨fs,hu,gm⟩ : ∃ fs,P.underlying t=some (.struct fs)/\fieldsI P 0 fs.toList p.length=true:=by
  split at hf
  ·exact ⟨_,by assumption,hf⟩
  ·cases hf
 have Ph:P.fieldsOf t=fs:=by simp [Program.fieldsOf,hu]
 have hr:=run_equalIn_struct m.w 9999 t (p.map (Value.int .i64)).toArray (q.map (Value.int .i64)).toArray (by rw[Ph];exact hu) j6;rw[Ph,sT 9998 p q m.w gm vn,List.drop_zero,List.drop_zero]at hr;refine D7 hm (u := .bool (if ne then !(decide (p=q)) else decide (p=q))) ?_ (VY _);cases ne
 ·simp [execOp,j8,ex,ey,run_eqGuard_agg m.w _ t x y _ _ hg,run_eql_struct,hr]
 ·simp [execOp,j8,ex,ey,run_eqGuard_agg m.w _ t x y _ _ hg,run_neq_struct,hr]
theorem Vc (hm:BP B S w0 m) (hs:CN B S m ρ a.eval) {f:UnOp} {x':AP} (h:A8 P num o.op (.un f x')=true) {v:AV} (hv:Q0 f (ρ x')=some v):CS B S w0 P o a m (.val v):=by
 obtain ⟨t,x,j8,h1⟩:=AeF h;have hx:=hs x x' h1;unfold Q0 at hv;split at hv
 ·rename_i k n hk
  have ex:=GW (hk ▸ hx);split at hv
  ·obtain rfl:_=v:=by simpa using hv
   exact D7 hm (by simp [execOp,j8,ex,Op.unary,Op.intArith]) (LB _ _)
  ·obtain rfl:_=v:=by simpa using hv
   exact D7 hm (by simp only[execOp,j8,ex,Op.unary];rfl) (LB _ _)
  ·cases hv
 ·rename_i b hk
  have ex:=RG (hk ▸ hx);split at hv
  ·obtain rfl:_=v:=by simpa using hv
   exact D7 hm (by simp [execOp,j8,ex,Op.unary]) (VY _)
  ·cases hv
 ·cases hv
theorem Wg (hm:BP B S w0 m) (hs:CN B S m ρ a.eval) {k:IntKind} {x':AP} (h:A8 P num o.op (.conv k x')=true) {k':IntKind} {n:Int} (hx:ρ x' = .int k' n):CS B S w0 P o a m (.val (.int k (k.wrap n))):=by
 obtain ⟨s,d,x,ds,j8,Ba,hd,h1⟩:=Aep h;have ex:=GW (hx ▸ hs x x' h1);refine D7 hm (u := .int k (k.wrap n)) ?_ (LB _ _);simp [execOp,j8,ex,convert,run_underlying Ba,run_underlying hd,Conv.intToInt]
theorem Af6 (t:TypeId) (a:Option Addr) (n c:Nat) {e:TypeId} (hu:P.underlying t=some (.slice e)) (w:World):(Op.equal t (.slice a n c) (.slice none 0 0)).run P w = .ok a.isNone w:=by
 have h : ∀ d:Nat,(Op.equalIn (d+1) t (.slice a n c) (.slice none 0 0)).run P w = .ok a.isNone w:=λ d=>by
  unfold Op.equalIn;rw[Sem.run_bind,run_underlying hu];cases a<;>rfl
 exact h 9999
theorem Af4 (f:BinOp) (t:TypeId) (x y:Operand) (a b:Option Addr) (n c n' c':Nat) (w:World):(eqGuard f t x y (.slice a n c) (.slice b n' c')).run P w = .ok () w:=by
 unfold eqGuard;cases f<;>simp
theorem YC (hm:BP B S w0 m) (hs:CN B S m ρ a.eval) {ne:Bool} {x':AP} (h:A8 P num o.op (.rh ne x')=true) {b:Bool} (hx : ∀ v,CV B S m (ρ x') v -> ∃ ad n c,v = .slice ad n c/\ad.isNone=b) :
  CS B S w0 P o a m (.val (.bool (xor b ne))):=by
 obtain ⟨t,x,u,e,j8,hu,h1⟩:=Aeu h;obtain ⟨ad,n,c,ex,hb⟩:=hx _ (hs x x' h1);refine D7 hm (u := .bool (xor b ne)) ?_ (VY _);have e0:a.eval (.const (.slice none 0 0)) = .slice none 0 0:=rfl;cases ne<;>cases b<;>simp [execOp,j8,ex,e0,Af4,binOp,Af6 t ad n c hu,hb]
theorem PE {v:Value} (h:CV B S m .nil v):v = .slice none 0 0:=by
 cases h with
 | ca h=>cases h with
  | one h=>cases h with
   | rd h=>cases h
   | nil=>rfl
theorem kZ {b:Bool} {v:Value} (h:CV B S m (.cj (.bool b)) v) : ∃ ad c,v = .slice ad 0 c/\ad.isNone=b:=by
 cases h with
 | ca h=>cases h with
  | one h=>cases h with
   | rd h=>cases h with
    | emp b a cap h=>exact ⟨a,cap,rfl,h⟩
theorem Sp {l:Bool} {e:List AV} {es:List (List AV)} {v:Value} (h:CV B S m (.sl l (e::es)) v) : ∃ ad n c,v = .slice ad n c/\ad.isNone=false:=by
 cases h with
 | ca h=>cases h with
  | one h=>cases h with
   | rd h=>cases h with
    | sl=>exact ⟨_,_,_,rfl,rfl⟩
theorem So {s t z off n:Nat} {v:Value} (h:CV B S m (.row s t z off (n+1)) v) : ∃ ad n c,v = .slice ad n c/\ad.isNone=false:=by
 cases h with
 | ca h=>cases h with
  | one h=>cases h with
   | rd h=>cases h
   | row _ _ _ _ _ a cap _ _ _ ha=>exact ⟨_,_,_,rfl,by have:=ha (by omega);cases a<;>simp_all⟩
theorem Uy (hm:BP B S w0 m) (hs:CN B S m ρ a.eval) {tb:List Nat} {x':AP} (h:A8 P num o.op (.fy tb x')=true) {k:IntKind} {n:Int} {v:Nat} (hx:ρ x' = .int k n) (h0:0<=n) (hv:tb[n.toNat]? = some v) :
  CS B S w0 P o a m (.val (.int .u8 v)):=by
 obtain ⟨t,s,i,j8,hu,vq,h1⟩:=AeC h;have ex:=GW (hx ▸ hs i x' h1);have hb : ∃ b:UInt8,s[n.toNat]? = some b/\b.toNat=v:=by
  rw[<-vq,List.getElem?_map]at hv;cases hg:s.data.toList[n.toNat]? with
  | none=>simp [hg]at hv
  | some b =>
   simp only[hg,Option.map_some,Option.some.injEq]at hv;refine ⟨b,?_,hv⟩;have k7:n.toNat<s.size:=by
    have:=(zS hg).1
    simpa using this
   rw[getElem?_pos s n.toNat k7];congr 1;have:=(zS hg).2
   rw[<-this];rfl
 obtain ⟨b,og,q5⟩:=hb;refine D7 hm (u := .int .u8 v) ?_ (LB _ _);have e0:a.eval (.const (.string s)) = .string s:=rfl;simp [execOp,j8,ex,e0,Instr.index,asIntOf,run_underlying hu,h0,og,q5]
theorem Afr {x c:AV} {v:Value} (h:CV B S m x v) (hc:GM x=some c):CC B S m c v:=by
 cases h with
 | any=>simp [GM]at hc
 | g7=>simp [GM]at hc
 | ca h=>cases h with
  | agg=>simp [GM]at hc
  | fn=>simp [GM]at hc
  | rj=>simp [GM]at hc
  | one h =>
   have:c=x:=by
    cases h with
    | rd h=>cases h<;>simp [GM]at hc<;>exact hc.symm
    | _=>simp [GM]at hc;exact hc.symm
   subst this;exact h
theorem mT (hs:CN B S m ρ a.eval) : ∀ {xs:List Operand} {n0:List AP} {cs:List AV},ED xs n0=true->n0.mapM (λ x=>GM (ρ x))=some cs->CL B S m cs (xs.map a.eval)
 | [],[],cs,_,h=>by
  simp at h;subst h;exact ⟨rfl,λ j c v h=>by simp at h⟩
 | x::r,y::l,cs,h,hc=>by
  simp only[ED,Bool.and_eq_true]at h;simp only[List.mapM_cons,Option.bind_eq_bind,Option.pure_def]at hc;cases h1:GM (ρ y) with
  | none=>simp [h1]at hc
  | some c =>
   cases h2:l.mapM (λ x=>GM (ρ x)) with
   | none=>simp [h1,h2]at hc
   | some dw =>
    simp [h1,h2]at hc;subst hc;have ih:=mT hs h.2 h2;refine ⟨by simpa using ih.1,λ j c' v hj hv => ?_⟩;cases j with
    | zero =>
     simp at hj hv;subst hj hv;exact Afr (hs x y h.1) h1
    | succ j=>exact ih.2 j c' v (by simpa using hj) (by simpa using hv)
 | [],_::_,_,h,_=>by simp [ED]at h
 | _::_,[],_,h,_=>by simp [ED]at h
theorem Ut (hm:BP B S w0 m) (hs:CN B S m ρ a.eval) {p:Bool} {f:Nat} {n0:List AP} (h:A8 P num o.op (.pd p f n0)=true) {cs:List AV} (hc:n0.mapM (λ x=>GM (ρ x))=some cs) :
  CS B S w0 P o a m (.val (.fn (p&&cs.isEmpty) f (num f) cs)):=by
 obtain ⟨first,xs,j8,rfl,he⟩:=Aey h;have m8:=mT hs he hc;have ft:(xs.map a.eval)=(xs.toList.map a.eval).toArray:=by cases xs;simp
 refine D7 hm (u := .func (.func (num f)) #[] (xs.toList.map a.eval).toArray) ?_ (.ca (.fn (p&&cs.isEmpty) f (num f) cs _ (λ h=>by simpa using (Bool.and_eq_true _ _ ▸ h:p=true/\cs.isEmpty=true).2) m8));simp [execOp,j8,Instr.makeFunc,ft]
end
end Go.c5
