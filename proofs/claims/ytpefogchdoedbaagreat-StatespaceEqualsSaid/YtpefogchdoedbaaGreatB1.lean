/-
  The abstract machine: data without memory. AV: a value; slices that are only read are lists ('sl'), rows and boxes of the call's own are named by a site and a stamp.
  Nothing here speaks of a program; EngSound ties it to the model.
-/
import Derived.Calls
import Derived.Below
import Derived.Laws.CopyRow
import Derived.Laws.Cells
import Derived.Laws.MakeOwn
import Derived.Laws.AppendOwn
import Derived.Deep.AppendSrc
import Derived.Deep.Draws
import Derived.ArgAppend
import Derived.Laws.StructEq
import Derived.ChangeKeysEq
set_option linter.unusedSimpArgs false
set_option linter.unusedVariables false
set_option linter.unnecessarySimpa false
namespace Go.Eng
theorem zE {α : Type} {l : List α} {i : Nat} (h : i < l.length) : l[i]? = some l[i] :=
 List.getElem?_eq_getElem h
theorem zS {α : Type} {l : List α} {i : Nat} {a : α} (h : l[i]? = some a) : ∃ h : i < l.length, l[i] = a :=
 List.getElem?_eq_some_iff.1 h
theorem zM {α : Type} {l : List α} {i : Nat} {a : α} (h : l[i]? = some a) : a ∈ l :=
 List.mem_of_getElem? h
end Go.Eng
namespace Go.Eng
inductive AV where
 | int (k:IntKind) (n:Int)
 | bool (b:Bool)
 | sl (l:Bool) (es:List (List AV))
 | row (s t z off len:Nat)
 | nil
 | ptr (s t i j:Nat)
 | dptr (cs:List AV)
 | agg (cs:List AV)
 | tup (vs:List AV)
 | con (v:Value)
 | fn (p:Bool) (f g:Nat) (cs:List AV)
 | any
 deriving Inhabited
inductive AQ where
 | t (n:Nat)
 | c (v:AV)
 deriving Inhabited
structure DN where
 esz:Nat
 es:List (List AV)
structure CO where
 cnt:Nat
 blk:Nat->Option DN
def AH:=Nat->CO
def AH.emp:AH:=fun _=>⟨0,fun _=>none⟩
def AH.put (o:AH) (s:Nat) (x:CO):AH:=fun s'=>if s'=s then x else o s'
def AH.get (o:AH) (s t:Nat):Option DN:=(o s).blk t
def AH.cnt (o:AH) (s:Nat):Nat:=(o s).cnt
def CO.upd (x:CO) (t:Nat) (b:Option DN):CO:=⟨x.cnt,fun t'=>if t'=t then b else x.blk t'⟩
def CO.new (x:CO) (b:DN):CO:=⟨x.cnt+1,fun t'=>if t'=x.cnt then some b else x.blk t'⟩
theorem AH.put_same (o:AH) (s:Nat) (x:CO):o.put s x s=x:=by simp [AH.put]
theorem AH.put_ne (o:AH) (s s':Nat) (x:CO) (h:s'≠s):o.put s x s'=o s':=by simp [AH.put,h]
theorem AH.put_put (o:AH) (s:Nat) (x y:CO):(o.put s x).put s y=o.put s y:=by
 funext s';by_cases h:s'=s<;>simp [AH.put,h]
inductive D7 where
 | mov (x:AQ)
 | vrow (s esz:Nat)
 | pick (c a b:AQ)
 | bin (op:BinOp) (x y:AQ)
 | beq (ne:Bool) (x y:AQ)
 | un (op:UnOp) (x:AQ)
 | conv (k:IntKind) (x:AQ)
 | box (s:Nat) (x:AQ)
 | alloc (s:Nat) (zero:List AV)
 | build (zero:List AV) (parts:List (Nat × Nat × AQ))
 | bslice (s esz:Nat) (parts:List AQ)
 | fadr (x:AQ) (off:Nat)
 | fld (x:AQ) (off n:Nat) (agg:Bool)
 | iadr (arr:Option Nat) (esz:Nat) (x i:AQ)
 | idx (len esz:Nat) (agg:Bool) (x i:AQ)
 | ld (agg:Bool) (n:Nat) (x:AQ)
 | st (n:Nat) (x v:AQ)
 | mk (s esz bytes:Nat) (zero:List AV) (l c:AQ)
 | slc (esz:Nat) (x:AQ) (lo hi:Option AQ)
 | ext (x:AQ) (i:Nat)
 | len (x:AQ)
 | mm (max:Bool) (xs:List AQ)
 | app (s esz bytes:Nat) (x y:AQ)
 | cpy (esz:Nat) (x y:AQ)
 | call (f:Nat) (xs:List AQ)
 | calli (f:Nat) (xs:List AQ)
 | isn (ne:Bool) (x:AQ)
 | sidx (tb:List Nat) (x:AQ)
 | mkf (p:Bool) (f:Nat) (xs:List AQ)
 | callv (x:AQ) (xs:List AQ)
 | callq (f:Nat) (xs:List AQ)
 | sto (s n:Nat) (x v:AQ)
 | callr (s f:Nat) (xs:List AQ)
 | aeq (ne:Bool) (n:Nat) (x y:AQ)
 | appo (s esz bytes:Nat) (x y:AQ)
 | capn (x:AQ)
 | apz (s esz bytes:Nat) (x y:AQ)
 | apd (s esz bytes:Nat) (x y:AQ)
 | cals (s f:Nat) (xs:List AQ)
 | bad
 | nck (x:AQ)
 deriving Inhabited
structure AI where
 dst:Option Nat
 op:D7
 guard:Option (Nat × Bool):=none
 ban:List Nat:=[]
 deriving Inhabited
inductive AL where
 | skip
 | ops (l:List AI) (draw:Bool)
 | dr (c:AL) (ts ss:List Nat)
 | scope (c:AL)
 | seq (a b:AL)
 | cond (c:AQ) (a b:AL)
 | block (id:Nat) (c:AL)
 | loop (c:AL)
 | exit (id:Nat)
 | ret
 deriving Inhabited
inductive I4 where
 | tmp (t:Nat)
 | cell (t:Nat) (agg:Bool) (n:Nat)
 deriving Inhabited
structure AFn where
 pars:Nat
 body:AL
 res:List I4
 spl:Bool
abbrev Tm:=List (Nat × AV)
def tget:Tm->Nat->AV
 | [],_ => .any
 | (i,v)::r,j=>if j=i then v else tget r j
def tput:Tm->Nat->AV->Tm
 | [],j,u=>[(j,u)]
 | (i,v)::r,j,u=>if j=i then (i,u)::r else if j<i then (j,u)::(i,v)::r else (i,v)::tput r j u
def tdrop:Tm->List Nat->Tm
 | [],_=>[]
 | (i,v)::r,l=>if l.contains i then tdrop r l else (i,v)::tdrop r l
theorem VG (m:Tm) (i:Nat) (v:AV) (j:Nat):tget (tput m i v) j=if j=i then v else tget m j:=by
 induction m with
 | nil=>by_cases h:j=i<;>simp [tput,tget,h]
 | cons x r ih =>
  obtain ⟨a,u⟩:=x
  by_cases h:i=a
  ·subst h
   by_cases h2:j=i<;>simp [tput,tget,h2]
  ·by_cases hlt:i<a
   ·by_cases h2:j=i<;>simp [tput,tget,h,hlt,h2]
   ·by_cases h2:j=a
    ·subst h2
     have : ¬ j=i:=fun e=>h e.symm
     simp [tput,tget,h,hlt,this]
    ·simp [tput,tget,h,hlt,h2,ih]
structure St where
 tm:Tm
 own:AH
def St.ev (st:St):AQ->AV
 | .t n=>tget st.tm n
 | .c v=>v
inductive CP where
 | val (v:AV)
 | new (s:Nat) (b:DN) (v:Nat->AV)
 | vir (s:Nat) (b:DN) (v:Nat->AV)
 | tur (v:AV) (own:AH)
 | upd (s:Nat) (x:CO)
 | upn (s:Nat) (x:CO) (v:AV)
def cellsOf:AV->Option (List AV)
 | .agg cs=>some cs
 | .fn _ _ _ _=>none
 | .tup _=>none
 | .any=>none
 | v=>some [v]
def IY (agg:Bool) (cs:List AV):Option AV :=
 if agg then some (.agg cs) else match cs with|[c]=>some c|_=>none
def part (cs:List AV) (off n:Nat):Option (List AV) :=
 if off+n<=cs.length then some ((cs.drop off).take n) else none
def splice (cs:List AV) (off:Nat) (vs:List AV):List AV:=cs.take off++vs++cs.drop (off+vs.length)
def fill (cells:List AV):List (Nat × Nat × AV)->Option (List AV)
 | []=>some cells
 | (off,n,v)::r=>match cellsOf v with
  | some vs=>if vs.length=n/\off+n<=cells.length then fill (splice cells off vs) r else none
  | none=>none
def DG (op:BinOp) (k:IntKind) (a:Int) (k':IntKind) (b:Int):Option AV :=
 match op with
 | .shl=>if b<0 then none else some (.int k (k.wrap (a*2^(min b.toNat k.bits))))
 | .shr=>if b<0 then none else some (.int k (a.fdiv (2^(min b.toNat k.bits))))
 | .add=>if k=k' then some (.int k (k.wrap (a+b))) else none
 | .sub=>if k=k' then some (.int k (k.wrap (a-b))) else none
 | .mul=>if k=k' then some (.int k (k.wrap (a*b))) else none
 | .quo=>if k=k'/\b≠0 then some (.int k (k.wrap (a.tdiv b))) else none
 | .rem=>if k=k'/\b≠0 then some (.int k (a.tmod b)) else none
 | .and=>if k=k' then some (.int k (k.wrap (BitVec.ofInt k.bits a &&& BitVec.ofInt k.bits b).toNat)) else none
 | .or=>if k=k' then some (.int k (k.wrap (BitVec.ofInt k.bits a ||| BitVec.ofInt k.bits b).toNat)) else none
 | .xor=>if k=k' then some (.int k (k.wrap (BitVec.ofInt k.bits a ^^^ BitVec.ofInt k.bits b).toNat)) else none
 | .andNot=>if k=k' then some (.int k (k.wrap (BitVec.ofInt k.bits a &&& ~~~ BitVec.ofInt k.bits b).toNat)) else none
 | .eql=>if k=k' then some (.bool (a == b)) else none
 | .neq=>if k=k' then some (.bool (a != b)) else none
 | .lss=>if k=k' then some (.bool (decide (a<b))) else none
 | .leq=>if k=k' then some (.bool (decide (a<=b))) else none
 | .gtr=>if k=k' then some (.bool (decide (a>b))) else none
 | .geq=>if k=k' then some (.bool (decide (a≥b))) else none
def PU (op:UnOp):AV->Option AV
 | .int k n=>match op with
  | .neg=>some (.int k (k.wrap (0-n)))
  | .xor=>some (.int k (k.wrap (BitVec.ofInt k.bits (if k.signed then -1 else k.max) ^^^ BitVec.ofInt k.bits n).toNat))
  | _=>none
 | .bool b=>match op with
  | .not=>some (.bool (!b))
  | _=>none
 | _=>none
def OP (max:Bool):AV->AV->Option AV
 | .int k a,.int _ b=>some (.int k (if max then (if b>a then b else a) else (if b<a then b else a)))
 | _,_=>none
def MR (max:Bool):AV->List AV->Option AV
 | v,[]=>some v
 | v,u::r=>match OP max v u with|some x=>MR max x r|none=>none
def AH.hide (o:AH):List Nat->AH
 | []=>o
 | s::r=>fun s'=>if s'=s then ⟨0,fun _=>none⟩ else o.hide r s'
def AH.ldp (own:AH) (s t i j n:Nat):Option (List AV) :=
 match own.get s t with
 | some b=>match b.es[i]? with
  | some cs=>part cs j n
  | none=>none
 | none=>none
def AH.stp (own:AH) (s t i j:Nat) (vs:List AV):Option AH :=
 match own.get s t with
 | some b=>match b.es[i]? with
  | some cs=>if j+vs.length<=cs.length then some (own.put s ((own s).upd t (some ⟨b.esz,b.es.set i (splice cs j vs)⟩))) else none
  | none=>none
 | none=>none
def D9 (own:AH):AV->Option (List (List AV))
 | .sl _ es=>some es
 | .nil=>some []
 | .con (.bool _)=>some []
 | .row s t z off len=>match own.get s t with
  | some b=>if off+len<=b.es.length/\b.esz=z then some ((b.es.drop off).take len) else none
  | none=>none
 | _=>none
def lenOf:AV->Option Nat
 | .sl _ es=>some es.length
 | .nil=>some 0
 | .row _ _ _ _ len=>some len
 | _=>none
def snap (own:AH) (l:Bool):Nat->AV->Option AV
 | _,.int k n=>some (.int k n)
 | _,.bool b=>some (.bool b)
 | _,.sl l' es=>some (.sl l' es)
 | _,.nil=>some (.sl false [])
 | _,.con v=>some (.con v)
 | d+1,.row s t z off len=>match D9 own (.row s t z off len) with
  | some es=>(es.mapM (fun cs:List AV=>cs.mapM (snap own l d))).map (AV.sl l)
  | none=>none
 | _,_=>none
def DI (own:AH) (l:Bool):AV->Option AV
 | .agg cs=>(cs.mapM (snap own l 6)).map AV.agg
 | v=>snap own l 6 v
def N3 (own:AH) (l:Bool):AV->Option AV
 | .nil=>some .nil
 | v=>DI own l v
def PQ (own:AH) (l:Bool):AV->Option AV
 | .tup cs=>(cs.mapM (DI own l)).map AV.tup
 | v=>DI own l v
mutual
def A9:AV->Prop
 | .int _ _=>True
 | .bool _=>True
 | .con _=>True
 | .sl l es=>l=false/\FG es
 | .agg cs=>CY cs
 | .tup cs=>CY cs
 | _=>False
def CY:List AV->Prop
 | []=>True
 | c::r=>A9 c/\CY r
def FG:List (List AV)->Prop
 | []=>True
 | c::r=>CY c/\FG r
end
def EJ:Nat:=140737488355328
structure Cl where
 pure:Nat->List AV->Option AV
 inn:Nat->List AV->AH->Option (AV × AH)
 num:Nat->Nat
noncomputable def V7 (C:Cl) (f:Nat) (vs:List AV) (s:Nat) (q:CO):Option (AV × CO) :=
 open Classical in if h : ∃ p : AV × CO, ∀ o : AH, o s = q -> C.inn f vs o = some (p.1, o.put s p.2) then some h.choose else none
theorem V8 {C:Cl} {f:Nat} {vs:List AV} {s:Nat} {q:CO} {p:AV × CO}:V7 C f vs s q=some p ↔ ∀ o:AH,o s=q->C.inn f vs o=some (p.1,o.put s p.2):=by
 unfold V7
 constructor
 ·intro h
  split at h
  ·rename_i hx
   obtain rfl:=Option.some.inj h
   exact hx.choose_spec
  ·cases h
 ·intro h
  rw[dif_pos ⟨p,h⟩]
  have h1:=(⟨p,h⟩ : ∃ p:AV × CO,∀ o:AH,o s=q->C.inn f vs o=some (p.1,o.put s p.2)).choose_spec (fun _=>q) rfl
  have h2:=h (fun _=>q) rfl
  have h3:=Option.some.inj (h2.symm.trans h1)
  refine congrArg some ?_
  generalize (Exists.choose _:AV × CO)=p' at h3
  obtain ⟨a,b⟩:=p
  obtain ⟨a',b'⟩:=p'
  simp only[Prod.mk.injEq]at h3
  obtain ⟨h4,h5⟩:=h3
  have h6:b=b':=by
   have:=congrFun h5 s
   simpa [AH.put] using this
  rw[h4,h6]
def SX:AV->AV
 | .sl _ es => .sl false es
 | .nil => .sl false []
 | v=>v
def unl:AV->AV
 | .agg cs => .agg (cs.map SX)
 | v=>SX v
def UI:AV->AV
 | .sl _ es => .sl true es
 | v=>v
def lnd:AV->AV
 | .agg cs => .agg (cs.map UI)
 | v=>UI v
def GS:AV->Bool
 | .int _ _=>true | .bool _=>true | .sl _ _=>true | .nil=>true
 | _=>false
def dq:AV->Bool
 | .agg cs=>cs.all GS
 | v=>GS v
def oK:AV->Bool
 | .int _ _=>true | .bool _=>true
 | _=>false
def S4:AV->Prop
 | .int _ _=>True
 | .bool _=>True
 | .sl _ es => ∀ e∈es,∀ c∈e,oK c=true
 | _=>False
def S5:AV->Prop
 | .agg cs => ∀ c∈cs,S4 c
 | v=>S4 v
def HM:List AV->Option (List Int)
 | []=>some []
 | .int .i64 n::r=>(HM r).map (n :: ·)
 | _=>none
def GW:AV->Option AV
 | .agg _=>none
 | .fn _ _ _ _=>none
 | .tup _=>none
 | .any=>none
 | v=>some v
open Classical in
noncomputable def NQ (x:Option (AV × AH)):Option (Nat × List (List AV)):=match x with
 | some (.row s t z 0 n,o)=>match o.get s t with
  | some b=>if b.es.length=n/\FG b.es then some (z,b.es) else none
  | none=>none
 | _=>none
theorem wM {x:Option (AV × AH)} {z:Nat} {es:List (List AV)} (h:NQ x=some (z,es)) : ∃ s t o b,x=some (.row s t z 0 es.length,o)/\o.get s t=some b/\b.es=es/\FG es:=by
 unfold NQ at h
 split at h
 ·split at h
  ·rename_i s t z' n o b hb
   split at h
   ·rename_i hc
    obtain ⟨rfl,hc⟩:=hc
    simp only[Option.some.injEq,Prod.mk.injEq]at h
    obtain ⟨rfl,rfl⟩:=h
    exact ⟨_,_,_,_,rfl,hb,rfl,hc⟩
   ·cases h
  ·cases h
 ·cases h
open Classical in
noncomputable def eff (C:Cl) (ban:List Nat) (ρ:AQ->AV) (own:AH):D7->Option CP
 | .mov x=>some (.val (ρ x))
 | .vrow s esz=>some (.vir s ⟨esz,[]⟩ (fun t => .row s t esz 0 0))
 | .pick c a b=>match ρ c with
  | .bool true=>some (.val (ρ a))
  | .bool false=>some (.val (ρ b))
  | _=>none
 | .bin op x y=>match ρ x,ρ y with
  | .int k a,.int k' b=>(DG op k a k' b).map .val
  | _,_=>none
 | .beq ne x y=>match ρ x,ρ y with
  | .bool a,.bool b=>some (.val (.bool (if ne then !(a == b) else a == b)))
  | _,_=>none
 | .un op x=>(PU op (ρ x)).map .val
 | .conv k x=>match ρ x with
  | .int _ n=>some (.val (.int k (k.wrap n)))
  | _=>none
 | .box s x=>match cellsOf (ρ x) with
  | some cs=>some (.new s ⟨cs.length,[cs]⟩ (fun t => .ptr s t 0 0))
  | none=>none
 | .alloc s zero=>some (.new s ⟨zero.length,[zero]⟩ (fun t => .ptr s t 0 0))
 | .build zero parts=>(fill zero (parts.map fun p=>(p.1,p.2.1,ρ p.2.2))).map (fun cs => .val (.agg cs))
 | .bslice s esz parts=>match parts.mapM (fun x=>cellsOf (ρ x)) with
  | some es=>if ∀ e∈es,e.length=esz then some (.new s ⟨esz,es⟩ (fun t => .row s t esz 0 es.length)) else none
  | none=>none
 | .fadr x off=>match ρ x with
  | .ptr s t i j=>some (.val (.ptr s t i (j+off)))
  | .dptr cs=>some (.val (.dptr (cs.drop off)))
  | _=>none
 | .fld x off n agg=>match ρ x with
  | .agg cs=>match part cs off n with
   | some ds=>(IY agg ds).map .val
   | none=>none
  | _=>none
 | .iadr arr esz x i=>match ρ i with
  | .int _ n=>match arr,ρ x with
   | some len,.ptr s t i' j=>if 0<=n/\n<len then some (.val (.ptr s t i' (j+n.toNat*esz))) else none
   | some len,.dptr cs=>if 0<=n/\n<len then some (.val (.dptr (cs.drop (n.toNat*esz)))) else none
   | none,.row s t z off len=>if 0<=n/\n<len/\z=esz then some (.val (.ptr s t (off+n.toNat) 0)) else none
   | none,.sl _ es=>if 0<=n then match es[n.toNat]? with
     | some cs=>if cs.length=esz then some (.val (.dptr cs)) else none
     | none=>none
    else none
   | _,_=>none
  | _=>none
 | .idx len esz agg x i=>match ρ i,ρ x with
  | .int _ n,.agg cs=>if 0<=n/\n<len then match part cs (n.toNat*esz) esz with
    | some ds=>(IY agg ds).map .val
    | none=>none
   else none
  | _,_=>none
 | .ld agg n x=>match ρ x with
  | .ptr s t i j=>match (own.hide ban).ldp s t i j n with
   | some cs=>(IY agg cs).map .val
   | none=>none
  | .dptr cs=>match part cs 0 n with
   | some ds=>(IY agg ds).map .val
   | none=>none
  | _=>none
 | .st n x v=>match ρ x,cellsOf (ρ v) with
  | .ptr s t i j,some vs=>if vs.length=n then (own.stp s t i j vs).map (CP.tur (.tup [])) else none
  | _,_=>none
 | .mk s esz bytes zero l c=>match ρ l,ρ c with
  | .int _ a,.int _ b=>if 0<=a/\a<=b/\b*bytes<=EJ/\b<=9223372036854775807/\zero.length=esz then some (.new s ⟨esz,List.replicate a.toNat zero⟩ (fun t => .row s t esz 0 a.toNat)) else none
  | _,_=>none
 | .slc esz x lo hi=>match ρ x with
  | .sl l es =>
   let h:Option Nat:=match hi with|none=>some es.length|some o=>match ρ o with | .int _ n=>if 0<=n/\n<=es.length then some n.toNat else none|_=>none
   let a:Option Nat:=match lo with|none=>some 0|some o=>match ρ o with | .int _ n=>if 0<=n then some n.toNat else none|_=>none
   match a,h with
   | some a,some h=>if a<=h /\ ∀ e∈es,e.length=esz then some (.val (.sl l ((es.take h).drop a))) else none
   | _,_=>none
  | .nil =>
   let h:Option Nat:=match hi with|none=>some 0|some o=>match ρ o with | .int _ n=>if n=0 then some 0 else none|_=>none
   let a:Option Nat:=match lo with|none=>some 0|some o=>match ρ o with | .int _ n=>if n=0 then some 0 else none|_=>none
   match a,h with
   | some _,some _=>some (.val .nil)
   | _,_=>none
  | .row s t z off len =>
   let h:Option Nat:=match hi with|none=>some len|some o=>match ρ o with | .int _ n=>if 0<=n/\n<=len then some n.toNat else none|_=>none
   let a:Option Nat:=match lo with|none=>some 0|some o=>match ρ o with | .int _ n=>if 0<=n then some n.toNat else none|_=>none
   match a,h with
   | some a,some h=>if a<=h/\z=esz then some (.val (.row s t z (off+a) (h-a))) else none
   | _,_=>none
  | _=>none
 | .ext x i=>match ρ x with
  | .tup vs=>(vs[i]?).map .val
  | _=>none
 | .len x=>match lenOf (ρ x) with
  | some n=>some (.val (.int .i64 (n:Int)))
  | none=>none
 | .mm max xs=>match xs.map ρ with
  | []=>none
  | v::r=>(MR max v r).map .val
 | .app s esz bytes x y=>match D9 own (ρ y) with
  | some ys=>if ∀ e∈ys,e.length=esz then match ρ x with
    | .row s' t z 0 len=>match own.get s' t with
     | some b=>if b.esz=esz/\z=esz/\len<=b.es.length/\(len+ys.length)*bytes<=EJ/\len+ys.length<=9223372036854775807 then
       some (.tur (.row s' (own.cnt s') esz 0 (len+ys.length)) (own.put s' (((own s').upd t none).new ⟨esz,b.es.take len++ys⟩)))
      else none
     | none=>none
    | .nil=>if ys.length*bytes<=EJ/\ys.length<=9223372036854775807 then
       some (.tur (.row s (own.cnt s) esz 0 ys.length) (own.put s ((own s).new ⟨esz,ys⟩))) else none
    | _=>none
   else none
  | none=>none
 | .appo s esz bytes x y=>match ρ y,ρ x with
  | .sl _ ys,.row s' t z 0 len=>match own.get s t with
   | some b=>if s'=s/\(∀ e∈ys,e.length=esz)/\b.esz=esz/\z=esz/\len<=b.es.length/\(len+ys.length)*bytes<=EJ/\len+ys.length<=9223372036854775807 then
     some (.upn s (((own s).upd t none).new ⟨esz,b.es.take len++ys⟩) (.row s (own.cnt s) esz 0 (len+ys.length)))
    else none
   | none=>none
  | _,_=>none
 | .cpy esz x y=>match ρ x,D9 own (ρ y) with
  | .row s t z off len,some ys=>match own.get s t with
   | some b=>if b.esz=esz/\z=esz/\off+len<=b.es.length/\(∀ e∈ys,e.length=esz) then
     some (.tur (.int .i64 (min ys.length len:Nat)) (own.put s ((own s).upd t (some ⟨esz,b.es.take off++ys.take len++b.es.drop (off+min ys.length len)⟩))))
    else none
   | none=>none
  | _,_=>none
 | .call f xs=>match (xs.map ρ).mapM (DI (own.hide ban) true) with
  | some vs=>(C.pure f vs).map .val
  | none=>none
 | .calli f xs=>(C.inn f (xs.map ρ) own).map (fun r => .tur r.1 r.2)
 | .isn ne x=>match ρ x with
  | .nil=>some (.val (.bool (xor true ne)))
  | .con (.bool b)=>some (.val (.bool (xor b ne)))
  | .sl _ (_::_)=>some (.val (.bool (xor false ne)))
  | .row _ _ _ _ (_+1)=>some (.val (.bool (xor false ne)))
  | _=>none
 | .bad=>none
 | .nck x=>match ρ x with
  | .ptr s t i j=>some (.val (.ptr s t i j))
  | _=>none
 | .capn x=>match ρ x with
  | .nil=>some (.val (.int .i64 0))
  | _=>none
 | .apz s esz bytes x y=>match ρ x,ρ y with
  | .nil,.int _ n=>if 0<n/\n*bytes<=EJ/\n<=9223372036854775807 then some (.new s ⟨esz,[]⟩ (fun t => .row s t esz 0 n.toNat)) else none
  | _,_=>none
 | .cals s f xs=>(V7 C f (xs.map ρ) s (own s)).map fun p => .upn s p.2 p.1
 | .apd s esz bytes x y=>match ρ x,ρ y with
  | .nil,.sl _ ys=>if (∀ e∈ys,e.length=esz)/\0<ys.length/\ys.length*bytes<=EJ/\ys.length<=9223372036854775807 then some (.new s ⟨esz,ys⟩ (fun t => .row s t esz 0 ys.length)) else none
  | _,_=>none
 | .sidx tb x=>match ρ x with
  | .int _ n=>if 0<=n then (match tb[n.toNat]? with
   | some v=>some (.val (.int .u8 v))
   | none=>none) else none
  | _=>none
 | .mkf p f xs=>(xs.mapM (fun x=>GW (ρ x))).map (fun cs => .val (.fn p f (C.num f) cs))
 | .callq f xs=>if (xs.map ρ).all dq=true then (match C.pure f ((xs.map ρ).map unl) with
   | some r=>if S5 r then some (.val (lnd r)) else none
   | none=>none) else none
 | .sto s n x v=>match ρ x,cellsOf (ρ v) with
  | .ptr s' t i j,some vs=>if s'=s/\vs.length=n then (own.stp s t i j vs).map (fun o'=>CP.upd s (o' s)) else none
  | _,_=>none
 | .aeq ne n x y=>match ρ x,ρ y with
  | .agg cs,.agg ds=>match HM cs,HM ds with
   | some a,some b=>if a.length=n/\b.length=n then some (.val (.bool (if ne then !(decide (a=b)) else decide (a=b)))) else none
   | _,_=>none
  | _,_=>none
 | .callr s f xs=>match (xs.map ρ).mapM (N3 (own.hide ban) true) with
  | some vs=>(NQ (C.inn f vs AH.emp)).map (fun r => .new s ⟨r.1,r.2⟩ (fun t => .row s t r.1 0 r.2.length))
  | none=>none
 | .callv x xs=>match ρ x with
  | .fn p f g cs=>if g=C.num f then (match p,cs with
   | true,[]=>(match (xs.map ρ).mapM (DI own true) with
    | some vs=>(C.pure f vs).map .val
    | none=>none)
   | false,cs=>(C.inn f (xs.map ρ++cs) own).map (fun r => .tur r.1 r.2)
   | _,_=>none) else none
  | _=>none
def St.dst (st:St) (d:Option Nat) (v:AV):St :=
 match d with
 | some d=>{ st with tm:=tput st.tm d v }
 | none=>st
def St.app (st:St) (d:Option Nat):CP->St
 | .val v=>st.dst d v
 | .new s b v=>{ (st.dst d (v (st.own.cnt s))) with own:=st.own.put s ((st.own s).new b) }
 | .vir s b v=>{ (st.dst d (v (st.own.cnt s))) with own:=st.own.put s ((st.own s).new b) }
 | .tur v o=>{ (st.dst d v) with own:=o }
 | .upd s x=>{ (st.dst d (.tup [])) with own:=st.own.put s x }
 | .upn s x v=>{ (st.dst d v) with own:=st.own.put s x }
def FF (st:St):Option (Nat × Bool)->Option Bool
 | none=>some true
 | some (g,want)=>match tget st.tm g with
  | .bool b=>some (b == want)
  | .tup []=>some false
  | _=>none
noncomputable def DB (C:Cl) (o:AI) (st:St):Option St :=
 match FF st o.guard with
 | some true=>(eff C o.ban st.ev st.own o.op).map (st.app o.dst)
 | some false=>some (st.dst o.dst (.tup []))
 | none=>none
noncomputable def DC (C:Cl):List AI->St->Option St
 | [],st=>some st
 | o::r,st=>match DB C o st with
  | some st'=>DC C r st'
  | none=>none
def EA:D7->Option Nat
 | .vrow s _=>some s
 | .box s _=>some s
 | .alloc s _=>some s
 | .bslice s _ _=>some s
 | .mk s _ _ _ _ _=>some s
 | .sto s _ _ _=>some s
 | .callr s _ _=>some s
 | .appo s _ _ _ _=>some s
 | .apz s _ _ _ _=>some s
 | .apd s _ _ _ _=>some s
 | .cals s _ _=>some s
 | _=>none
inductive It where
 | code (c:AL)
 | drp (ts ss:List Nat)
 | blk (id:Nat)
 | lp (c:AL)
def DP (id:Nat):List It->Option (List It)
 | .blk id'::k=>if id'=id then some k else DP id k
 | _::k=>DP id k
 | []=>none
def AH.drop (o:AH):List Nat->AH
 | []=>o
 | s::r=>(o.drop r).put s ⟨(o s).cnt,fun _=>none⟩
noncomputable def run (C:Cl):Nat->List It->St->Option St
 | 0,_,_=>none
 | _+1,[],st=>some st
 | n+1,.blk _::k,st=>run C n k st
 | n+1,.drp ts ss::k,st=>run C n k ⟨tdrop st.tm ts,st.own.drop ss⟩
 | n+1,.lp c::k,st=>run C n (.code c :: .lp c::k) st
 | n+1,.code c::k,st=>match c with
  | .skip=>run C n k st
  | .ops l _=>match DC C l st with
   | some st'=>run C n k st'
   | none=>none
  | .dr c ts ss=>run C n (.code c :: .drp ts ss::k) st
  | .scope c=>run C n (.code c::k) st
  | .seq a b=>run C n (.code a :: .code b::k) st
  | .cond c a b=>match st.ev c with
   | .bool true=>run C n (.code a::k) st
   | .bool false=>run C n (.code b::k) st
   | _=>none
  | .block id c=>run C n (.code c :: .blk id::k) st
  | .loop c=>run C n (.code c :: .lp c::k) st
  | .exit id=>match DP id k with
   | some k'=>run C n k' st
   | none=>none
  | .ret=>some st
def CZ (i:Nat):List AV->Tm
 | []=>[]
 | v::r=>(i,v)::CZ (i+1) r
def IZ:AV->Option AV
 | .any=>none
 | .tup _=>none
 | v=>some v
def E0 (st:St):I4->Option AV
 | .tmp t=>IZ (tget st.tm t)
 | .cell t agg n=>match tget st.tm t with
  | .ptr s u i j=>match st.own.ldp s u i j n with
   | some cs=>IY agg cs
   | none=>none
  | _=>none
def HP:List AV->AV
 | [v]=>v
 | vs => .tup vs
structure Lib where
 fn:Nat->Option AFn
 num:Nat->Nat
instance : CoeFun Lib (fun _ => Nat -> Option AFn) := ⟨Lib.fn⟩
open Classical in
noncomputable def H4 (I:List AV->Option (AV × AH)) (vs:List AV):Option AV :=
 match I vs with
 | some (r,o)=>match PQ o false r with
  | some r'=>if A9 r' then some r' else none
  | none=>none
 | none=>none
def Lib.spl (L:Lib) (f:Nat):Bool:=match L f with
 | some fn=>fn.spl
 | none=>false
open Classical in
noncomputable def MT (b:Bool) (I:List AV->Option (AV × AH)) (vs:List AV):Option AV:=match b,vs with
 | true,.sl _ []::vs=>match H4 I (.con (.bool true)::vs),H4 I (.con (.bool false)::vs) with
  | some r,some r'=>if r=r' then some r else none
  | _,_=>none
 | _,vs=>H4 I vs
noncomputable def DK (L:Lib):Nat->Nat->List AV->AH->Option (AV × AH)
 | 0,_,_,_=>none
 | n+1,f,args,own=>match L f with
  | none=>none
  | some fn=>if args.length=fn.pars then
    match run ⟨fun f vs=>MT (L.spl f) (fun vs=>DK L n f vs AH.emp) vs,DK L n,L.num⟩ n [.code fn.body] ⟨CZ 0 args,own⟩ with
    | some st=>match fn.res.mapM (E0 st) with
     | some vs=>some (HP vs,st.own)
     | none=>none
    | none=>none
   else none
noncomputable def HL (L:Lib) (n f:Nat) (vs:List AV):Option AV:=MT (L.spl f) (fun vs=>DK L n f vs AH.emp) vs
noncomputable def C5 (L:Lib) (n:Nat):Cl:=⟨HL L n,DK L n,L.num⟩
theorem TV (L:Lib) (n f:Nat) (args:List AV) (own:AH):DK L (n+1) f args own =
  match L f with
  | none=>none
  | some fn=>if args.length=fn.pars then
    match run (C5 L n) n [.code fn.body] ⟨CZ 0 args,own⟩ with
    | some st=>match fn.res.mapM (E0 st) with
     | some vs=>some (HP vs,st.own)
     | none=>none
    | none=>none
   else none:=rfl
namespace C
abbrev o (d:Nat) (op:D7):AI:=⟨some d,op,none,[]⟩
abbrev n (op:D7):AI:=⟨none,op,none,[]⟩
abbrev g (d i:Nat) (b:Bool) (op:D7):AI:=⟨some d,op,some (i,b),[]⟩
abbrev m (d s:Nat):AI:=⟨some d,.mov (.t s),none,[]⟩
abbrev k (v:Int):AQ := .c (.int .i64 v)
abbrev z:AV := .int .i64 0
instance (i : Nat) : OfNat AQ i := ⟨.t i⟩
end C
end Go.Eng
namespace Go.Eng
def WQ:Value->AV->Bool
 | .int k n,.int k' n'=>k == k'&&n == n'
 | .bool b,.bool b'=>b == b'
 | .slice none 0 0,.nil=>true
 | .string s,.con (.string s')=>s.data.toList == s'.data.toList
 | _,_=>false
def OI:List Value->List AV->Bool
 | [],[]=>true
 | v::r,a::l=>WQ v a&&OI r l
 | _,_=>false
def ZR:Value->AV->Bool
 | .agg cs,.agg l=>OI cs.toList l
 | v,a=>WQ v a
def BO:Operand->AQ->Bool
 | .tmp t,.t n=>t == n
 | .const v,.c a=>ZR v a
 | _,_=>false
def D5:List Operand->List AQ->Bool
 | [],[]=>true
 | v::r,a::l=>BO v a&&D5 r l
 | _,_=>false
def N0:Option Operand->Option AQ->Bool
 | none,none=>true
 | some x,some y=>BO x y
 | _,_=>false
section
variable (P:Program)
def P6 (t:TypeId):Option Bool :=
 match P.underlying t with
 | some (.struct _)=>some true
 | some (.array _ _)=>some true
 | some _=>some false
 | none=>none
def GX (t:TypeId) (n:Nat):Bool:=match P.info? t with|some i=>i.size == n|none=>false
def P9 (t:TypeId) (n:Nat):Bool:=match P.info? t with|some i=>i.bytes == n|none=>false
def RD (t:TypeId) (l:List AV):Bool:=match P.info? t with|some i=>(match i.zero with|some z=>OI z.cells.toList l|none=>false)|none=>false
def GY (t:TypeId) (f:TypeId->Bool):Bool:=match P.underlying t with|some (.slice e)=>f e|_=>false
def lL (t:TypeId) (i off n:Nat):Bool:=match P.underlying t with
 | some (.struct fs)=>(match fs[i]? with|some f=>f.offset == off&&GX P f.type n&&n != 0|none=>false)
 | _=>false
def lM (t:TypeId) (i:Nat) (agg:Bool):Bool:=match P.underlying t with
 | some (.struct fs)=>(match fs[i]? with|some f=>P6 P f.type == some agg|none=>false)
 | _=>false
def QV (place:Nat->Option (Nat × Nat)):List (Nat × Operand)->List (Nat × Nat × AQ)->Bool
 | [],[]=>true
 | (i,x)::r,(off,n,y)::l=>place i == some (off,n)&&BO x y&&QV place r l
 | _,_=>false
def Y0 (t:TypeId) (ps:List (Nat × Operand)) (ps':List (Nat × Nat × AQ)):Bool:=match P.underlying t with
 | some (.struct fs)=>(match fs.toList.mapM (fun f=>(P.info? f.type).map fun i=>(f.offset,i.size)) with|some places=>QV (places.toArray[·]?) ps ps'|none=>false)
 | some (.array _ e)=>(match P.info? e with|some ie=>QV (fun i=>some (i*ie.size,ie.size)) ps ps'|none=>false)
 | _=>false
def QI (k:Nat):List (Nat × Operand)->List AQ->Bool
 | [],[]=>true
 | (i,x)::r,y::l=>i == k&&BO x y&&QI (k+1) r l
 | _,_=>false
def fieldsI:Nat->List Field->Nat->Bool
 | k,[],n=>k == n
 | k, f :: fs, n => f.name != "_" && f.offset == k && (match P.underlying f.type with | some (.int _) => true | _ => false) && fieldsI (k + 1) fs n
def aG (t:TypeId) (n:Nat):Bool:=(match P.underlying t with|some (.struct fs)=>fieldsI P 0 fs.toList n|_=>false) && !P.stoodInHeld t && !P.eqGuardType P.depth t
def BA (num:Nat->Nat) (op:Op):D7->Bool
 | .mov y=>match op with | .move x=>BO x y | .assign x=>BO x y|_=>false
 | .vrow _ z=>z != 0&&(match op with | .move (.const (.slice none 0 0))=>true | .assign (.const (.slice none 0 0))=>true|_=>false)
 | .pick c' a' b'=>match op with | .pick c a b=>BO c c'&&BO a a'&&BO b b'|_=>false
 | .bin op' x' y'=>match op with | .binOp op _ x y _=>op == op'&&BO x x'&&BO y y'|_=>false
 | .beq ne x' y'=>match op with | .binOp op t x y _=>(if ne then op == .neq else op == .eql)&&(match P.underlying t with|some .bool=>true|_=>false)&&BO x x'&&BO y y'|_=>false
 | .un op' x'=>match op with | .unOp op _ x=>op == op'&&BO x x'|_=>false
 | .conv k x'=>match op with | .convert s d x=>(P.underlying s).isSome&&(match P.underlying d with|some (.int k')=>k == k'|_=>false)&&BO x x'|_=>false
 | .box _ x'=>match op with | .box _ x=>BO x x'|_=>false
 | .alloc _ z=>match op with | .alloc t=>RD P t z|_=>false
 | .build z ps'=>match op with | .build t ps=>RD P t z&&Y0 P t ps.toList ps'|_=>false
 | .bslice _ esz ps'=>match op with
  | .buildSlice t n ps=>GY P t (fun e=>GX P e esz)&&esz != 0&&n == ps'.length&&decide (n*esz<=16777216)&&QI 0 ps.toList ps'&&(n == 0||GY P t (fun e=>match P.info? e with|some i=>(match i.zero with|some z=>z.cells.size == esz|none=>false)|none=>false))
  | _=>false
 | .fadr x' off=>match op with
  | .fieldAddr s x f=>BO x x'&&(match P.underlying s with|some (.struct fs)=>(match fs[f]? with|some fd=>fd.offset == off&&(match P.info? fd.type with|some i=>i.size != 0|none=>false)|none=>false)|_=>false)
  | _=>false
 | .fld x' off n agg=>match op with | .field t x f=>BO x x'&&lL P t f off n&&lM P t f agg|_=>false
 | .iadr arr esz x' i'=>match op with
  | .indexAddr t x i=>BO x x'&&BO i i'&&(match P.underlying t,arr with|some (.array len e),some len'=>len == len'&&GX P e esz&&decide (1<len)|some (.slice e),none=>GX P e esz&&esz != 0|_,_=>false)
  | _=>false
 | .idx len esz agg x' i'=>match op with
  | .index t x i=>BO x x'&&BO i i'&&(match P.underlying t with|some (.array len' e)=>len == len'&&GX P e esz&&P6 P e == some agg|_=>false)
  | _=>false
 | .ld agg n x'=>match op with | .load t x=>BO x x'&&P6 P t == some agg&&(if agg then GX P t n else n == 1)|_=>false
 | .st n x' v'=>match op with | .store t x v=>BO x x'&&BO v v'&&GX P t n|_=>false
 | .mk _ esz bytes z l' c'=>match op with
  | .makeSlice t l c=>BO l l'&&BO c c'&&GY P t (fun e=>GX P e esz&&P9 P e bytes&&RD P e z)&&esz != 0
  | _=>false
 | .slc esz x' lo' hi'=>match op with
  | .slice t x lo hi none=>BO x x'&&N0 lo lo'&&N0 hi hi'&&GY P t (fun e=>GX P e esz)&&esz != 0
  | _=>false
 | .ext x' i'=>match op with | .extract x i=>BO x x'&&i == i'|_=>false
 | .len x'=>match op with
  | .call ⟨.builtin .len,xs,ts⟩=>(match xs.toList,ts.toList with|[x],[t]=>BO x x'&&GY P t (fun _=>true)|_,_=>false)
  | _=>false
 | .mm max xs'=>match op with
  | .call ⟨.builtin .min,xs,_⟩ => !max&&D5 xs.toList xs'
  | .call ⟨.builtin .max,xs,_⟩=>max&&D5 xs.toList xs'
  | _=>false
 | .app _ esz bytes x' y'=>match op with
  | .call ⟨.builtin .append,xs,ts⟩=>(match xs.toList,ts.toList with
   | [x,y],[t,u]=>BO x x'&&BO y y'&&GY P t (fun e=>GX P e esz&&P9 P e bytes&&(match P.info? e with|some i=>(match i.zero with|some z=>z.cells.size == esz|none=>false)|none=>false))&&esz != 0&&GY P u (fun _=>true)
   | _,_=>false)
  | _=>false
 | .appo _ esz bytes x' y'=>match op with
  | .call ⟨.builtin .append,xs,ts⟩=>(match xs.toList,ts.toList with
   | [x,y],[t,u]=>BO x x'&&BO y y'&&GY P t (fun e=>GX P e esz&&P9 P e bytes&&(match P.info? e with|some i=>(match i.zero with|some z=>z.cells.size == esz|none=>false)|none=>false))&&esz != 0&&GY P u (fun _=>true)
   | _,_=>false)
  | _=>false
 | .cpy esz x' y'=>match op with
  | .call ⟨.builtin .copy,xs,ts⟩=>(match xs.toList,ts.toList with
   | [x,y],[t,u]=>BO x x'&&BO y y'&&GY P t (fun e=>GX P e esz)&&esz != 0&&u == t
   | _,_=>false)
  | _=>false
 | .call f' xs'=>match op with
  | .call ⟨.value (.func f),xs,_⟩=>f == num f'&&D5 xs.toList xs'
  | _=>false
 | .calli f' xs'=>match op with
  | .call ⟨.value (.func f),xs,_⟩=>f == num f'&&D5 xs.toList xs'
  | _=>false
 | .cals _ f' xs'=>match op with
  | .call ⟨.value (.func f),xs,_⟩=>f == num f'&&D5 xs.toList xs'
  | _=>false
 | .isn ne x'=>match op with
  | .binOp op t x (.const (.slice none 0 0)) _=>(if ne then op == .neq else op == .eql)&&GY P t (fun _=>true)&&BO x x'
  | _=>false
 | .bad=>true
 | .nck x'=>match op with
  | .nilCheck x=>BO x x'
  | _=>false
 | .capn x'=>match op with
  | .call ⟨.builtin .cap,xs,ts⟩=>(match xs.toList,ts.toList with|[x],[t]=>BO x x'&&GY P t (fun _=>true)|_,_=>false)
  | _=>false
 | .apd _ esz bytes x' y'=>match op with
  | .call ⟨.builtin .append,xs,ts⟩=>(match xs.toList,ts.toList with
   | [x,y],[t,u]=>BO x x'&&BO y y'&&GY P t (fun e=>GX P e esz&&P9 P e bytes&&(match P.info? e with|some i=>(match i.zero with|some z=>z.cells.size == esz|none=>false)|none=>false))&&esz != 0&&GY P u (fun _=>true)
   | _,_=>false)
  | _=>false
 | .apz _ esz bytes x' y'=>match op with
  | .call ⟨.builtin .append,xs,ts⟩=>(match xs.toList,ts.toList with
   | [x,y],[t,u]=>BO x x'&&BO y y'&&GY P t (fun e=>GX P e esz&&P9 P e bytes&&(match P.info? e with|some i=>(match i.zero with|some z=>z.cells.size == esz|none=>false)|none=>false))&&esz != 0&&(match P.underlying u with|some (.int _)=>true|_=>false)
   | _,_=>false)
  | _=>false
 | .sidx tb i'=>match op with
  | .index t (.const (.string s)) i=>(match P.underlying t with|some .string=>true|_=>false)&&s.data.toList.map (fun b=>b.toNat) == tb&&BO i i'
  | _=>false
 | .mkf _ f' xs'=>match op with
  | .makeFunc (.func f) first xs=>f == num f'&&first.toList.isEmpty&&D5 xs.toList xs'
  | _=>false
 | .callq f' xs'=>match op with
  | .call ⟨.value (.func f),xs,_⟩=>f == num f'&&D5 xs.toList xs'
  | _=>false
 | .aeq ne n x' y'=>match op with | .binOp op t x y _=>(if ne then op == .neq else op == .eql)&&aG P t n&&BO x x'&&BO y y'|_=>false
 | .callr _ f' xs'=>match op with
  | .call ⟨.value (.func f),xs,_⟩=>f == num f'&&D5 xs.toList xs'
  | _=>false
 | .sto _ n x' v'=>match op with | .store t x v=>BO x x'&&BO v v'&&GX P t n|_=>false
 | .callv x' xs'=>match op with
  | .call ⟨.value x,xs,_⟩=>BO x x'&&D5 xs.toList xs'
  | _=>false
def UP (ops:Array Oper):Option (Nat × Bool)->Option (Nat × Bool)->Bool
 | none,none=>true
 | some (j,b),some (t,b')=>b == b'&&(match ops[j]? with|some o=>o.dst == some t|none=>false)
 | _,_=>false
def XD (num:Nat->Nat) (N:Nat) (ops:Array Oper) (o:Oper) (a:AI):Bool :=
 o.dst == a.dst&&(match a.dst with|some d=>decide (d<N)|none=>true)&&UP ops o.guard a.guard&&BA P num o.op a.op
def OR (num:Nat->Nat) (N:Nat) (ops:Array Oper):List Oper->List AI->Bool
 | [],[]=>true
 | o::r,a::l=>XD P num N ops o a&&OR num N ops r l
 | _,_=>false
def F7:D7->Bool
 | .st .. | .app .. | .cpy .. | .calli .. | .callv .. => true
 | _=>false
def UY:D7->Bool
 | .ld .. | .call .. | .callr .. => true
 | _=>false
def MQ (a:D7):Bool:=F7 a||UY a||(EA a).isSome
def CQ:AQ->List Nat
 | .t n=>[n]
 | .c _=>[]
def cF:Option AQ->List Nat
 | some x=>CQ x
 | none=>[]
def FN:D7->List Nat
 | .mov x=>CQ x
 | .vrow _ _=>[]
 | .pick c a b=>CQ c++CQ a++CQ b
 | .bin _ x y=>CQ x++CQ y
 | .beq _ x y=>CQ x++CQ y
 | .un _ x=>CQ x
 | .conv _ x=>CQ x
 | .box _ x=>CQ x
 | .alloc _ _=>[]
 | .build _ ps=>ps.flatMap (fun p=>CQ p.2.2)
 | .bslice _ _ ps=>ps.flatMap CQ
 | .fadr x _=>CQ x
 | .fld x _ _ _=>CQ x
 | .iadr _ _ x i=>CQ x++CQ i
 | .idx _ _ _ x i=>CQ x++CQ i
 | .ld _ _ x=>CQ x
 | .st _ x v=>CQ x++CQ v
 | .mk _ _ _ _ l c=>CQ l++CQ c
 | .slc _ x lo hi=>CQ x++cF lo++cF hi
 | .ext x _=>CQ x
 | .len x=>CQ x
 | .mm _ xs=>xs.flatMap CQ
 | .app _ _ _ x y=>CQ x++CQ y
 | .appo _ _ _ x y=>CQ x++CQ y
 | .cpy _ x y=>CQ x++CQ y
 | .call _ xs=>xs.flatMap CQ
 | .calli _ xs=>xs.flatMap CQ
 | .isn _ x=>CQ x
 | .sidx _ x=>CQ x
 | .mkf _ _ xs=>xs.flatMap CQ
 | .callv x xs=>CQ x++xs.flatMap CQ
 | .callq _ xs=>xs.flatMap CQ
 | .sto _ _ x v=>CQ x++CQ v
 | .callr _ _ xs=>xs.flatMap CQ
 | .cals _ _ xs=>xs.flatMap CQ
 | .aeq _ _ x y=>CQ x++CQ y
 | .bad=>[]
 | .nck x=>CQ x
 | .capn x=>CQ x
 | .apz _ _ _ x y=>CQ x++CQ y
 | .apd _ _ _ x y=>CQ x++CQ y
def SC (x:AI):List Nat:=FN x.op++(match x.guard with|some (g,_)=>[g]|none=>[])++x.dst.toList
def H2 (b:Array Nat) (i j:Nat):Bool:=(b.getD (max i j) 0).testBit (min i j)
def pD (b:Array Nat) (x:AI) (i:Nat) (y:AI) (j:Nat):Bool :=
 i == j||H2 b i j ||
  ((match y.dst with|some t => !(SC x).contains t|none=>true) &&
   (!F7 x.op || !MQ y.op) &&
   (!UY x.op||(match EA y.op with|some s=>x.ban.contains s|none=>true)) )
def QG (ops:Array Oper) (l:List AI):Bool :=
 let b:=Region.before ops
 (l.zipIdx.all fun (x,i)=>l.zipIdx.all fun (y,j)=>pD b x i y j&&(i == j||H2 b i j||(match EA x.op,EA y.op with|some s,some s'=>s != s'|_,_=>true))) &&
 (ops.toList.zipIdx.all fun (o,i)=>o.after.all fun e=>decide (e.on<i)||(match e.ground with | .gcOnly _=>true|_=>false)) &&
 (!Region.departs ops||(List.range ops.size).all (fun i=>(Region.linearise .gc ops 0).contains i))
def EQ (num:Nat->Nat) (N:Nat):Code->AL->Bool
 | c,.dr a _ _=>EQ num N c a
 | c',.skip=>match c' with | .skip=>true | .label _=>true|_=>false
 | c',.scope a=>match c' with | .scope c=>EQ num N c a|_=>false
 | c',.ops l draw'=>match c' with | .region _ ops draw=>draw == draw'&&OR P num N ops ops.toList l&&(!draw||QG ops l)|_=>false
 | c',.seq a' b'=>match c' with | .seq a b=>EQ num N a a'&&EQ num N b b'|_=>false
 | c',.cond x' a' b'=>match c' with | .cond x a b=>BO x x'&&EQ num N a a'&&EQ num N b b'|_=>false
 | c',.block i' a=>match c' with | .block i c=>i == i'&&EQ num N c a|_=>false
 | c',.loop a=>match c' with | .loop c=>EQ num N c a|_=>false
 | c',.exit i'=>match c' with | .exit i=>i == i'|_=>false
 | c',.ret=>match c' with | .ret=>true|_=>false
def NC:List ResultVar->List I4->Bool
 | [],[]=>true
 | .tmp t::r,.tmp t'::l=>t == t'&&NC r l
 | .cell a t::r,.cell a' agg n::l=>a == a'&&P6 P t == some agg&&(if agg then GX P t n else n == 1)&&NC r l
 | _,_=>false
def okFn (num:Nat->Nat) (fn:Func) (a:AFn):Bool :=
 fn.params.size+fn.nfree == a.pars&&decide (a.pars<=fn.ntmps)&&NC P fn.results.toList a.res&&(match fn.body with|some c=>EQ P num fn.ntmps c a.body|none=>false)
end
end Go.Eng

namespace Go.Eng
open Go.RowKit
theorem G4 (b o n:Nat):(⟨b,o,none⟩:Addr).add n=⟨b,o+n,none⟩:=by
 unfold Addr.add
 split<;>simp_all
inductive Rd (w:World) (R:Bool->Nat->Prop):AV->Value->Prop
 | int (k:IntKind) (n:Int):Rd w R (.int k n) (.int k n)
 | bool (b:Bool):Rd w R (.bool b) (.bool b)
 | str (s:ByteArray):Rd w R (.con (.string s)) (.string s)
 | sl0 (l:Bool) (a:Option Addr) (cap:Nat):Rd w R (.sl l []) (.slice a 0 cap)
 | emp (b:Bool) (a:Option Addr) (cap:Nat) (h:a.isNone=b):Rd w R (.con (.bool b)) (.slice a 0 cap)
 | sl (l:Bool) (es:List (List AV)) (b o esz cap:Nat) (u:Nat->Nat->Value) (hne:es≠[]) (hp:0<esz) (hR:R l b) (hcap:es.length<=cap) (hz : ∀ e∈es,e.length=esz)
   (hc : ∀ i e,es[i]? = some e -> ∀ j c,e[j]? = some c->w.cell? ⟨b,o+(i*esz+j),none⟩=some (u i j))
   (hr : ∀ i e,es[i]? = some e -> ∀ j c,e[j]? = some c->Rd w R c (u i j)) :
   Rd w R (.sl l es) (.slice (some ⟨b,o,none⟩) es.length cap)
theorem Rd.one {w:World} {R:Bool->Nat->Prop} {a:AV} {v:Value} (h:Rd w R a v):v.oneCell'=true:=by
 cases h<;>rfl
theorem RP {w:World} {a:Addr} {u:Value} (h:w.cell? a=some u):a.block<w.heap.size:=by
 unfold World.cell? at h
 split at h
 ·rename_i hh
  exact (Array.getElem?_eq_some_iff.1 hh).1
 ·cases h
theorem WX {es:List (List AV)} {esz:Nat} (hne:es≠[]) (hp:0<esz) (hz : ∀ e∈es,e.length=esz) : ∃ e c,es[0]? = some e/\e[0]? = some c:=by
 cases es with
 | nil=>exact absurd rfl hne
 | cons e r =>
  have:=hz e (by simp)
  cases e with
  | nil=>simp at this;omega
  | cons c q=>exact ⟨c::q,c,rfl,rfl⟩
theorem Rd.mono {w w':World} {R R':Bool->Nat->Prop} (hR : ∀ l b,b<w.heap.size->R l b->R' l b)
  (hw : ∀ l b,b<w.heap.size->R l b->w'.heap[b]? = w.heap[b]?) {a:AV} {v:Value} (h:Rd w R a v):Rd w' R' a v:=by
 induction h with
 | int k n=>exact .int k n
 | bool b=>exact .bool b
 | str s=>exact .str s
 | sl0 l a cap=>exact .sl0 l a cap
 | emp b a cap h=>exact .emp b a cap h
 | sl l es b o esz cap u hne hp h1 hcap hz hc hr ih =>
  obtain ⟨e,c,he,hc0⟩:=WX hne hp hz
  have hb:b<w.heap.size:=RP (hc 0 e he 0 c hc0)
  refine .sl l es b o esz cap u hne hp (hR l b hb h1) hcap hz (fun i e he j c hcj => ?_) ih
  rw[World.cell?_of_block (w:=w) (hw l b hb h1)]
  exact hc i e he j c hcj
structure M where
 ν:Nat->Nat->Option Nat
 own:AH
 w:World
section
variable (B:Nat) (S:Nat->Prop)
def safe (m:M) (l:Bool) (b:Nat):Prop :=
 (S b/\b<B)\/(B<=b /\ ∀ s t,(m.own.get s t).isSome=true->m.ν s t≠some b)\/(l=true/\b<B)
inductive CC (m:M):AV->Value->Prop
 | rd {a:AV} {v:Value} (h:Rd m.w (safe B S m) a v):CC m a v
 | nil:CC m .nil (.slice none 0 0)
 | row (s t z off len:Nat) (a:Option Addr) (cap:Nat) (ht:t<m.own.cnt s) (hz0:0<z) (hlc:len<=cap) (ha:0<len->a.isSome=true)
   (h : ∀ b,m.own.get s t=some b->b.esz=z/\((len=0/\cap=0) \/ ∃ g arr e,m.ν s t=some g/\a=some ⟨g,off*z,none⟩/\m.w.heap[g]? = some (.cells arr e (0,0))/\(off+cap)*z<=arr.size)) :
   CC m (.row s t z off len) (.slice a len cap)
 | ptr (s t i j:Nat) (a:Addr) (ht:t<m.own.cnt s) (h : ∀ b,m.own.get s t=some b -> ∃ g,m.ν s t=some g/\a=⟨g,i*b.esz+j,none⟩):CC m (.ptr s t i j) (.pointer (some a))
 | dptr (cs:List AV) (b o:Nat) (u:Nat->Value) (l:Bool) (hR:cs≠[]->safe B S m l b) (hc : ∀ j c,cs[j]? = some c->m.w.cell? ⟨b,o+j,none⟩=some (u j)) (hr : ∀ j c,cs[j]? = some c->Rd m.w (safe B S m) c (u j)) :
   CC m (.dptr cs) (.pointer (some ⟨b,o,none⟩))
def CL (m:M) (cs:List AV) (vs:List Value):Prop:=cs.length=vs.length /\ ∀ (j:Nat) (c:AV) (v:Value),cs[j]? = some c->vs[j]? = some v->CC B S m c v
inductive CA (m:M):AV->Value->Prop
 | one {a:AV} {v:Value} (h:CC B S m a v):CA m a v
 | agg (cs:List AV) (vs:List Value) (h:CL B S m cs vs):CA m (.agg cs) (.agg vs.toArray)
 | fn (p:Bool) (f g:Nat) (cs:List AV) (vs:List Value) (h:CL B S m cs vs):CA m (.fn p f g cs) (.func (.func g) #[] vs.toArray)
inductive CV (m:M):AV->Value->Prop
 | any (v:Value):CV m .any v
 | ca {a:AV} {v:Value} (h:CA B S m a v):CV m a v
 | tup (as:List AV) (vs:List Value) (hl:as.length=vs.length) (h : ∀ (j:Nat) (c:AV) (v:Value),as[j]? = some c->vs[j]? = some v->CA B S m c v):CV m (.tup as) (.tuple vs.toArray)
def tY (m:M) (s t:Nat) (b:DN):Prop :=
 (∀ e∈b.es,e.length=b.esz)/\match m.ν s t with
  | none=>b.es=[]
  | some g=>B<=g /\ ∃ arr e,m.w.heap[g]? = some (.cells arr e (0,0)) /\
    ∀ i cs,b.es[i]? = some cs -> ∀ j c,cs[j]? = some c -> ∃ u,arr[i*b.esz+j]? = some u/\CC B S m c u
structure BR (w0:World) (m:M):Prop where
 below:Below B w0 m.w
 size:B<=m.w.heap.size
 fresh : ∀ s t,m.own.cnt s<=t->m.own.get s t=none
 blk : ∀ s t b,m.own.get s t=some b->tY B S m s t b
 inj : ∀ s t s' t' b b' g,m.own.get s t=some b->m.own.get s' t'=some b'->m.ν s t=some g->m.ν s' t'=some g->s=s'/\t=t'
structure DD (m m':M):Prop where
 size:m.w.heap.size<=m'.w.heap.size
 keep : ∀ b,b<m.w.heap.size->safe B S m true b->m'.w.heap[b]? = m.w.heap[b]?
 saf : ∀ l b,b<m.w.heap.size->safe B S m l b->safe B S m' l b
 cnt : ∀ s,m.own.cnt s<=m'.own.cnt s
 name : ∀ s t b',t<m.own.cnt s->m'.own.get s t=some b' -> ∃ b,m.own.get s t=some b/\b'.esz=b.esz/\m'.ν s t=m.ν s t /\
   ∀ g arr e,m.ν s t=some g->m.w.heap[g]? = some (.cells arr e (0,0)) -> ∃ arr',m'.w.heap[g]? = some (.cells arr' e (0,0))/\arr'.size=arr.size
end
section
variable {B:Nat} {S:Nat->Prop}
theorem cY {m:M} {l:Bool} {b:Nat} (h:safe B S m l b):safe B S m true b:=by
 rcases h with h|h|⟨_,h⟩
 ·exact .inl h
 ·exact .inr (.inl h)
 ·exact .inr (.inr ⟨rfl,h⟩)
theorem DD.rd {m m':M} (h:DD B S m m') {a:AV} {v:Value} (hr:Rd m.w (safe B S m) a v):Rd m'.w (safe B S m') a v :=
 hr.mono h.saf (fun _ b hb hs=>h.keep b hb (cY hs))
theorem DD.cc {m m':M} (h:DD B S m m') {a:AV} {v:Value} (hc:CC B S m a v):CC B S m' a v:=by
 cases hc with
 | rd hr=>exact .rd (h.rd hr)
 | nil=>exact .nil
 | row s t z off len a cap ht hz0 hlc ha hb =>
  refine .row s t z off len a cap (Nat.lt_of_lt_of_le ht (h.cnt s)) hz0 hlc ha fun b' hb' => ?_
  obtain ⟨b,h1,h2,h3,h4⟩:=h.name s t b' ht hb'
  obtain ⟨hz,hor⟩:=hb b h1
  refine ⟨h2.trans hz,?_⟩
  rcases hor with h0|⟨g,arr,e,hg,hae,hh,hle⟩
  ·exact .inl h0
  ·obtain ⟨arr',ha',hs'⟩:=h4 g arr e hg hh
   exact .inr ⟨g,arr',e,h3.trans hg,hae,ha',hs' ▸ hle⟩
 | ptr s t i j a ht hb =>
  refine .ptr s t i j a (Nat.lt_of_lt_of_le ht (h.cnt s)) fun b' hb' => ?_
  obtain ⟨b,h1,h2,h3,_⟩:=h.name s t b' ht hb'
  obtain ⟨g,hg,hae⟩:=hb b h1
  exact ⟨g,h3.trans hg,h2 ▸ hae⟩
 | dptr cs b o u l hR hc hr =>
  have hlt:cs≠[]->b<m.w.heap.size:=fun hne=>by
   cases cs with
   | nil=>exact absurd rfl hne
   | cons c r=>exact RP (hc 0 c rfl)
  refine .dptr cs b o u l (fun hne=>h.saf l b (hlt hne) (hR hne)) (fun j c hj => ?_) (fun j c hj=>h.rd (hr j c hj))
  have hne:cs≠[]:=fun e=>by subst e;simp at hj
  rw[World.cell?_of_block (w:=m.w) (h.keep b (hlt hne) (cY (hR hne)))]
  exact hc j c hj
theorem DD.cl {m m':M} (h:DD B S m m') {cs:List AV} {vs:List Value} (hc:CL B S m cs vs):CL B S m' cs vs :=
 ⟨hc.1,fun j c v h1 h2=>h.cc (hc.2 j c v h1 h2)⟩
theorem DD.ca {m m':M} (h:DD B S m m') {a:AV} {v:Value} (hc:CA B S m a v):CA B S m' a v:=by
 cases hc with
 | one hc=>exact .one (h.cc hc)
 | agg cs vs hc=>exact .agg cs vs (h.cl hc)
 | fn p f g cs vs hc=>exact .fn p f g cs vs (h.cl hc)
theorem DD.cv {m m':M} (h:DD B S m m') {a:AV} {v:Value} (hc:CV B S m a v):CV B S m' a v:=by
 cases hc with
 | any v=>exact .any v
 | ca hc=>exact .ca (h.ca hc)
 | tup as vs hl hc=>exact .tup as vs hl fun j c v h1 h2=>h.ca (hc j c v h1 h2)
theorem DD.refl (m:M):DD B S m m :=
 ⟨Nat.le_refl _,fun _ _ _=>rfl,fun _ _ _ h=>h,fun _=>Nat.le_refl _,fun _ _ b' _ h=>⟨b',h,rfl,rfl,fun _ arr _ _ h=>⟨arr,h,rfl⟩⟩⟩
theorem DD.trans {m m' m'':M} (h:DD B S m m') (k:DD B S m' m''):DD B S m m'' where
 size:=Nat.le_trans h.size k.size
 keep b hb hs:=(k.keep b (Nat.lt_of_lt_of_le hb h.size) (h.saf true b hb hs)).trans (h.keep b hb hs)
 saf l b hb hs:=k.saf l b (Nat.lt_of_lt_of_le hb h.size) (h.saf l b hb hs)
 cnt s:=Nat.le_trans (h.cnt s) (k.cnt s)
 name s t b'' ht hb'':=by
  obtain ⟨b',h1,h2,h3,h4⟩:=k.name s t b'' (Nat.lt_of_lt_of_le ht (h.cnt s)) hb''
  obtain ⟨b,g1,g2,g3,g4⟩:=h.name s t b' ht h1
  refine ⟨b,g1,h2.trans g2,h3.trans g3,fun g arr e hg ha => ?_⟩
  obtain ⟨arr',ha',hs'⟩:=g4 g arr e hg ha
  obtain ⟨arr'',ha'',hs''⟩:=h4 g arr' e (g3.trans hg) ha'
  exact ⟨arr'',ha'',hs''.trans hs'⟩
theorem CC.one {m:M} {a:AV} {v:Value} (h:CC B S m a v):v.oneCell'=true:=by
 cases h with
 | rd h=>exact h.one
 | _=>rfl
end
end Go.Eng

namespace Go.Eng
open Go.RowKit
section
variable {B:Nat} {S:Nat->Prop} {w0:World}
def live (m:M) (s t:Nat):Prop := ∃ b,m.own.get s t=some b
theorem BR.ge {m:M} (h:BR B S w0 m) {s t g:Nat} (hl:live m s t) (hg:m.ν s t=some g):B<=g /\ ∃ arr e,m.w.heap[g]? = some (.cells arr e (0,0)):=by
 obtain ⟨b,hb⟩:=hl
 obtain ⟨_,h2⟩:=h.blk s t b hb
 rw[hg]at h2
 obtain ⟨h3,arr,e,h4,_⟩:=h2
 exact ⟨h3,arr,e,h4⟩
theorem QL {m m':M} (hm:BR B S w0 m) (hs:m.w.heap.size<=m'.w.heap.size)
  (hk : ∀ b,b<m.w.heap.size->(∀ s t,live m s t->m.ν s t≠some b)->m'.w.heap[b]? = m.w.heap[b]?) (hcnt : ∀ s,m.own.cnt s<=m'.own.cnt s)
  (hname : ∀ s t b',t<m.own.cnt s->m'.own.get s t=some b' -> ∃ b,m.own.get s t=some b/\b'.esz=b.esz/\m'.ν s t=m.ν s t /\
   ∀ g arr e,m.ν s t=some g->m.w.heap[g]? = some (.cells arr e (0,0)) -> ∃ arr',m'.w.heap[g]? = some (.cells arr' e (0,0))/\arr'.size=arr.size)
  (hnew : ∀ s t g,live m' s t->m'.ν s t=some g->g<m.w.heap.size -> ∃ s0 t0,live m s0 t0/\m.ν s0 t0=some g):DD B S m m':=by
 have hnl : ∀ b,safe B S m true b -> ∀ s t,live m s t->m.ν s t≠some b:=by
  intro b hb s t hl hg
  have hge:=(hm.ge hl hg).1
  rcases hb with ⟨_,h⟩|⟨_,h⟩|⟨_,h⟩
  ·omega
  ·obtain ⟨b',hb'⟩:=hl
   exact h s t (by simp [hb']) hg
  ·omega
 refine ⟨hs,fun b hb hsafe=>hk b hb (hnl b hsafe),fun l b hb hsafe => ?_,hcnt,hname⟩
 rcases hsafe with h|⟨h,hn⟩|h
 ·exact .inl h
 ·refine .inr (.inl ⟨h,fun s t hl hg => ?_⟩)
  obtain ⟨b',hb'⟩:=Option.isSome_iff_exists.1 hl
  obtain ⟨s0,t0,⟨b0,hb0⟩,hg0⟩:=hnew s t b ⟨b',hb'⟩ hg hb
  exact hn s0 t0 (by simp [hb0]) hg0
 ·exact .inr (.inr h)
theorem grow {m:M} (hm:BR B S w0 m) {w':World} (hb:Below m.w.heap.size m.w w') :
  BR B S w0 ⟨m.ν,m.own,w'⟩/\DD B S m ⟨m.ν,m.own,w'⟩:=by
 have he:DD B S m ⟨m.ν,m.own,w'⟩:=by
  refine QL hm hb.size (fun b hb' _=>hb.block b hb') (fun _=>Nat.le_refl _) (fun s t b' _ hb'=>⟨b',hb',rfl,rfl,fun g arr e hg ha=>⟨arr,?_,rfl⟩⟩) (fun s t g hl hg _=>⟨s,t,hl,hg⟩)
  have:g<m.w.heap.size:=(Array.getElem?_eq_some_iff.1 ha).1
  exact (hb.block g this).trans ha
 refine ⟨⟨hm.below.trans (hb.mono hm.size),Nat.le_trans hm.size hb.size,hm.fresh,fun s t b hg => ?_,hm.inj⟩,he⟩
 obtain ⟨h1,h2⟩:=hm.blk s t b hg
 refine ⟨h1,?_⟩
 show match m.ν s t with|none=>_|some g=>_
 cases hν:m.ν s t with
 | none=>rw[hν]at h2;exact h2
 | some g =>
  rw[hν]at h2
  obtain ⟨h3,arr,e,h4,h5⟩:=h2
  refine ⟨h3,arr,e,?_,fun i cs hi j c hj => ?_⟩
  ·exact (hb.block g (Array.getElem?_eq_some_iff.1 h4).1).trans h4
  ·obtain ⟨u,hu,hcc⟩:=h5 i cs hi j c hj
   exact ⟨u,hu,he.cc hcc⟩
theorem FU (o:AH) (s s' t':Nat) (b:DN):(o.put s ((o s).new b)).get s' t'=if s'=s/\t'=o.cnt s then some b else o.get s' t':=by
 unfold AH.get AH.put CO.new AH.cnt
 by_cases h:s'=s
 ·subst h
  by_cases h2:t'=(o s').cnt<;>simp [h2]
 ·simp [h]
theorem M4 (o:AH) (s s':Nat) (b:DN):(o.put s ((o s).new b)).cnt s'=if s'=s then o.cnt s+1 else o.cnt s':=by
 unfold AH.cnt AH.put CO.new
 by_cases h:s'=s<;>simp [h]
theorem UE (o:AH) (s t s' t':Nat) (b:Option DN):(o.put s ((o s).upd t b)).get s' t'=if s'=s/\t'=t then b else o.get s' t':=by
 unfold AH.get AH.put CO.upd
 by_cases h:s'=s
 ·subst h
  by_cases h2:t'=t<;>simp [h2]
 ·simp [h]
theorem gX (o:AH) (s t s':Nat) (b:Option DN):(o.put s ((o s).upd t b)).cnt s'=o.cnt s':=by
 unfold AH.cnt AH.put CO.upd
 by_cases h:s'=s<;>simp [h]
def newν (m:M) (s:Nat) (g:Option Nat):Nat->Nat->Option Nat:=fun s' t'=>if s'=s/\t'=m.own.cnt s then g else m.ν s' t'
theorem XB {m:M} (hm:BR B S w0 m) (s:Nat) : ¬ live m s (m.own.cnt s):=fun ⟨b,hb⟩=>by
 rw[hm.fresh s _ (Nat.le_refl _)]at hb;cases hb
theorem TF {m:M} (hm:BR B S w0 m) (s:Nat) (b:DN) (arr:Array Value) (e:TypeId) (hz : ∀ x∈b.es,x.length=b.esz)
  (hc : ∀ i cs,b.es[i]? = some cs -> ∀ j c,cs[j]? = some c -> ∃ u,arr[i*b.esz+j]? = some u/\CC B S m c u) :
  BR B S w0 ⟨newν m s (some m.w.heap.size),m.own.put s ((m.own s).new b),m.w.alloc (.cells arr e)⟩ /\
  DD B S m ⟨newν m s (some m.w.heap.size),m.own.put s ((m.own s).new b),m.w.alloc (.cells arr e)⟩:=by
 have hsz:(m.w.alloc (.cells arr e)).heap.size=m.w.heap.size+1:=by simp
 have hν : ∀ s' t',live m s' t'->newν m s (some m.w.heap.size) s' t'=m.ν s' t':=fun s' t' hl=>by
  unfold newν
  rw[if_neg]
  rintro ⟨rfl,rfl⟩
  exact XB hm _ hl
 have he:DD B S m ⟨newν m s (some m.w.heap.size),m.own.put s ((m.own s).new b),m.w.alloc (.cells arr e)⟩:=by
  refine QL hm (by rw[hsz];omega) (fun k hk _=>Below.heap_alloc _ _ _ hk) (fun s' => ?_) (fun s' t' b' ht hb' => ?_) (fun s' t' g hl hg hlt => ?_)
  ·rw[M4];split
   ·rename_i h;subst h;omega
   ·exact Nat.le_refl _
  ·rw[FU]at hb'
   rw[if_neg (by rintro ⟨rfl,rfl⟩;omega)]at hb'
   refine ⟨b',hb',rfl,hν s' t' ⟨b',hb'⟩,fun g ar e' hg ha=>⟨ar,?_,rfl⟩⟩
   exact (Below.heap_alloc _ _ _ (Array.getElem?_eq_some_iff.1 ha).1).trans ha
  ·obtain ⟨b',hb'⟩:=hl
   have hb2:=hb'
   rw[FU]at hb'
   by_cases h:s'=s/\t'=m.own.cnt s
   ·simp only[newν,if_pos h,Option.some.injEq]at hg
    omega
   ·rw[if_neg h]at hb'
    exact ⟨s',t',⟨b',hb'⟩,by rw[<-hν s' t' ⟨b',hb'⟩];exact hg⟩
 refine ⟨⟨hm.below.alloc hm.size _,by rw[hsz];have:=hm.size;omega,fun s' t' ht => ?_,fun s' t' b' hb' => ?_,fun s1 t1 s2 t2 b1 b2 g h1 h2 g1 g2 => ?_⟩,he⟩
 ·rw[M4]at ht
  rw[FU,if_neg]
  ·refine hm.fresh s' t' ?_
   split at ht
   ·rename_i h;subst h;omega
   ·exact ht
  ·rintro ⟨rfl,rfl⟩
   simp at ht
   omega
 ·rw[FU]at hb'
  by_cases h:s'=s/\t'=m.own.cnt s
  ·rw[if_pos h]at hb'
   obtain rfl:b=b':=by simpa using hb'
   refine ⟨hz,?_⟩
   show match newν m s (some m.w.heap.size) s' t' with|none=>_|some g=>_
   rw[show newν m s (some m.w.heap.size) s' t'=some m.w.heap.size by simp [newν,h]]
   refine ⟨hm.size,arr,e,heap_alloc_new _ _,fun i cs hi j c hj => ?_⟩
   obtain ⟨u,hu,hcc⟩:=hc i cs hi j c hj
   exact ⟨u,hu,he.cc hcc⟩
  ·rw[if_neg h]at hb'
   obtain ⟨h1,h2⟩:=hm.blk s' t' b' hb'
   refine ⟨h1,?_⟩
   show match newν m s (some m.w.heap.size) s' t' with|none=>_|some g=>_
   rw[hν s' t' ⟨b',hb'⟩]
   cases hv:m.ν s' t' with
   | none=>rw[hv]at h2;exact h2
   | some g =>
    rw[hv]at h2
    obtain ⟨h3,ar,e',h4,h5⟩:=h2
    refine ⟨h3,ar,e',(Below.heap_alloc _ _ _ (Array.getElem?_eq_some_iff.1 h4).1).trans h4,fun i cs hi j c hj => ?_⟩
    obtain ⟨u,hu,hcc⟩:=h5 i cs hi j c hj
    exact ⟨u,hu,he.cc hcc⟩
 ·rw[FU]at h1 h2
  have lt : ∀ s' t' b',m.own.get s' t'=some b'->newν m s (some m.w.heap.size) s' t'=some g->g<m.w.heap.size:=fun s' t' b' hb hg=>by
   rw[hν s' t' ⟨b',hb⟩]at hg
   obtain ⟨_,ar,e',h4⟩:=hm.ge ⟨b',hb⟩ hg
   exact (Array.getElem?_eq_some_iff.1 h4).1
  have at_ : ∀ s' t',s'=s/\t'=m.own.cnt s->newν m s (some m.w.heap.size) s' t'=some g->g=m.w.heap.size:=fun s' t' h hg=>by
   simp only[newν,if_pos h,Option.some.injEq]at hg
   exact hg.symm
  by_cases p1:s1=s/\t1=m.own.cnt s<;>by_cases p2:s2=s/\t2=m.own.cnt s
  ·exact ⟨p1.1.trans p2.1.symm,p1.2.trans p2.2.symm⟩
  ·rw[if_neg p2]at h2
   have:=lt s2 t2 b2 h2 g2
   have:=at_ s1 t1 p1 g1
   omega
  ·rw[if_neg p1]at h1
   have:=lt s1 t1 b1 h1 g1
   have:=at_ s2 t2 p2 g2
   omega
  ·rw[if_neg p1]at h1
   rw[if_neg p2]at h2
   exact hm.inj s1 t1 s2 t2 b1 b2 g h1 h2 (by rw[<-hν s1 t1 ⟨b1,h1⟩];exact g1) (by rw[<-hν s2 t2 ⟨b2,h2⟩];exact g2)
theorem sG {m:M} (hm:BR B S w0 m) (s esz:Nat) :
  BR B S w0 ⟨newν m s none,m.own.put s ((m.own s).new ⟨esz,[]⟩),m.w⟩/\DD B S m ⟨newν m s none,m.own.put s ((m.own s).new ⟨esz,[]⟩),m.w⟩:=by
 have hν : ∀ s' t',live m s' t'->newν m s none s' t'=m.ν s' t':=fun s' t' hl=>by
  unfold newν
  rw[if_neg]
  rintro ⟨rfl,rfl⟩
  exact XB hm _ hl
 have he:DD B S m ⟨newν m s none,m.own.put s ((m.own s).new ⟨esz,[]⟩),m.w⟩:=by
  refine QL hm (Nat.le_refl _) (fun k hk _=>rfl) (fun s' => ?_) (fun s' t' b' ht hb' => ?_) (fun s' t' g hl hg hlt => ?_)
  ·rw[M4];split
   ·rename_i h;subst h;omega
   ·exact Nat.le_refl _
  ·rw[FU]at hb'
   rw[if_neg (by rintro ⟨rfl,rfl⟩;omega)]at hb'
   exact ⟨b',hb',rfl,hν s' t' ⟨b',hb'⟩,fun g ar e' hg ha=>⟨ar,ha,rfl⟩⟩
  ·obtain ⟨b',hb'⟩:=hl
   rw[FU]at hb'
   by_cases h:s'=s/\t'=m.own.cnt s
   ·simp [newν,if_pos h]at hg
   ·rw[if_neg h]at hb'
    exact ⟨s',t',⟨b',hb'⟩,by rw[<-hν s' t' ⟨b',hb'⟩];exact hg⟩
 refine ⟨⟨hm.below,hm.size,fun s' t' ht => ?_,fun s' t' b' hb' => ?_,fun s1 t1 s2 t2 b1 b2 g h1 h2 g1 g2 => ?_⟩,he⟩
 ·rw[M4]at ht
  rw[FU,if_neg]
  ·refine hm.fresh s' t' ?_
   split at ht
   ·rename_i h;subst h;omega
   ·exact ht
  ·rintro ⟨rfl,rfl⟩
   simp at ht
   omega
 ·rw[FU]at hb'
  by_cases h:s'=s/\t'=m.own.cnt s
  ·rw[if_pos h]at hb'
   obtain rfl:(⟨esz,[]⟩:DN)=b':=by simpa using hb'
   refine ⟨by simp,?_⟩
   show match newν m s none s' t' with|none=>_|some g=>_
   rw[show newν m s none s' t'=none by simp [newν,h]]
  ·rw[if_neg h]at hb'
   obtain ⟨h1,h2⟩:=hm.blk s' t' b' hb'
   refine ⟨h1,?_⟩
   show match newν m s none s' t' with|none=>_|some g=>_
   rw[hν s' t' ⟨b',hb'⟩]
   cases hv:m.ν s' t' with
   | none=>rw[hv]at h2;exact h2
   | some g =>
    rw[hv]at h2
    obtain ⟨h3,ar,e',h4,h5⟩:=h2
    refine ⟨h3,ar,e',h4,fun i cs hi j c hj => ?_⟩
    obtain ⟨u,hu,hcc⟩:=h5 i cs hi j c hj
    exact ⟨u,hu,he.cc hcc⟩
 ·rw[FU]at h1 h2
  by_cases p1:s1=s/\t1=m.own.cnt s
  ·simp [newν,if_pos p1]at g1
  ·by_cases p2:s2=s/\t2=m.own.cnt s
   ·simp [newν,if_pos p2]at g2
   ·rw[if_neg p1]at h1
    rw[if_neg p2]at h2
    exact hm.inj s1 t1 s2 t2 b1 b2 g h1 h2 (by rw[<-hν s1 t1 ⟨b1,h1⟩];exact g1) (by rw[<-hν s2 t2 ⟨b2,h2⟩];exact g2)
theorem sC {m:M} (hm:BR B S w0 m) (s t:Nat) (b b':DN) (hb:m.own.get s t=some b) (g:Nat) (hg:m.ν s t=some g) (arr arr':Array Value) (e:TypeId)
  (ha:m.w.heap[g]? = some (.cells arr e (0,0))) (hz':b'.esz=b.esz) (hz : ∀ x∈b'.es,x.length=b'.esz) (hsz:arr'.size=arr.size)
  (hc : ∀ i cs,b'.es[i]? = some cs -> ∀ j c,cs[j]? = some c -> ∃ u,arr'[i*b'.esz+j]? = some u/\CC B S m c u) (w':World) (hbel:Below B w0 w') (hsize:w'.heap.size=m.w.heap.size)
  (hk : ∀ k,k≠g->w'.heap[k]? = m.w.heap[k]?) (hgw:w'.heap[g]? = some (.cells arr' e (0,0))) :
  BR B S w0 ⟨m.ν,m.own.put s ((m.own s).upd t (some b')),w'⟩/\DD B S m ⟨m.ν,m.own.put s ((m.own s).upd t (some b')),w'⟩:=by
 have hlt:t<m.own.cnt s:=by
  rcases Nat.lt_or_ge t (m.own.cnt s) with h|h
  ·exact h
  ·rw[hm.fresh s t h]at hb;cases hb
 have he:DD B S m ⟨m.ν,m.own.put s ((m.own s).upd t (some b')),w'⟩:=by
  refine QL hm (by rw[hsize];exact Nat.le_refl _) (fun k hk' hn=>hk k (fun e=>hn s t ⟨b,hb⟩ (e ▸ hg))) (fun s'=>by rw[gX];exact Nat.le_refl _) (fun s' t' b2 ht hb2 => ?_) (fun s' t' g' hl hg' _ => ?_)
  ·rw[UE]at hb2
   by_cases h:s'=s/\t'=t
   ·obtain ⟨rfl,rfl⟩:=h
    rw[if_pos ⟨rfl,rfl⟩]at hb2
    obtain rfl:b'=b2:=by simpa using hb2
    refine ⟨b,hb,hz',rfl,fun g2 ar e' hg2 ha2 => ?_⟩
    obtain rfl:g=g2:=by rw[hg]at hg2;simpa using hg2
    rw[ha]at ha2
    obtain ⟨rfl,rfl⟩:arr=ar/\e=e':=by simpa using ha2
    exact ⟨arr',hgw,hsz⟩
   ·rw[if_neg h]at hb2
    refine ⟨b2,hb2,rfl,rfl,fun g2 ar e' hg2 ha2=>⟨ar,?_,rfl⟩⟩
    rw[<-ha2]
    exact hk g2 (fun e2=>h (by
     subst e2
     exact hm.inj s' t' s t b2 b g2 hb2 hb hg2 hg))
  ·obtain ⟨b2,hb2⟩:=hl
   rw[UE]at hb2
   by_cases h:s'=s/\t'=t
   ·obtain ⟨rfl,rfl⟩:=h
    exact ⟨s',t',⟨b,hb⟩,hg'⟩
   ·rw[if_neg h]at hb2
    exact ⟨s',t',⟨b2,hb2⟩,hg'⟩
 refine ⟨⟨hbel,by rw[hsize];exact hm.size,fun s' t' ht => ?_,fun s' t' b2 hb2 => ?_,fun s1 t1 s2 t2 b1 b2 g1 h1 h2 e1 e2 => ?_⟩,he⟩
 ·rw[gX]at ht
  rw[UE,if_neg (by rintro ⟨rfl,rfl⟩;omega)]
  exact hm.fresh s' t' ht
 ·rw[UE]at hb2
  by_cases h:s'=s/\t'=t
  ·obtain ⟨rfl,rfl⟩:=h
   rw[if_pos ⟨rfl,rfl⟩]at hb2
   obtain rfl:b'=b2:=by simpa using hb2
   refine ⟨hz,?_⟩
   show match m.ν s' t' with|none=>_|some g=>_
   rw[hg]
   refine ⟨(hm.ge ⟨b,hb⟩ hg).1,arr',e,hgw,fun i cs hi j c hj => ?_⟩
   obtain ⟨u,hu,hcc⟩:=hc i cs hi j c hj
   exact ⟨u,hu,he.cc hcc⟩
  ·rw[if_neg h]at hb2
   obtain ⟨h1,h2⟩:=hm.blk s' t' b2 hb2
   refine ⟨h1,?_⟩
   show match m.ν s' t' with|none=>_|some g=>_
   cases hv:m.ν s' t' with
   | none=>rw[hv]at h2;exact h2
   | some g2 =>
    rw[hv]at h2
    obtain ⟨h3,ar,e',h4,h5⟩:=h2
    refine ⟨h3,ar,e',?_,fun i cs hi j c hj => ?_⟩
    ·rw[<-h4]
     exact hk g2 (fun e2=>h (by
      subst e2
      exact hm.inj s' t' s t b2 b g2 hb2 hb hv hg))
    ·obtain ⟨u,hu,hcc⟩:=h5 i cs hi j c hj
     exact ⟨u,hu,he.cc hcc⟩
 ·have old : ∀ s' t' b2,(m.own.put s ((m.own s).upd t (some b'))).get s' t'=some b2 -> ∃ b3,m.own.get s' t'=some b3:=fun s' t' b2 h=>by
   rw[UE]at h
   by_cases h':s'=s/\t'=t
   ·obtain ⟨rfl,rfl⟩:=h';exact ⟨b,hb⟩
   ·rw[if_neg h']at h;exact ⟨b2,h⟩
  obtain ⟨c1,k1⟩:=old s1 t1 b1 h1
  obtain ⟨c2,k2⟩:=old s2 t2 b2 h2
  exact hm.inj s1 t1 s2 t2 c1 c2 g1 k1 k2 e1 e2
theorem QM (o:AH) (s t s' t':Nat) (b:DN):(o.put s (((o s).upd t none).new b)).get s' t'=if s'=s/\t'=o.cnt s then some b else if s'=s/\t'=t then none else o.get s' t':=by
 unfold AH.get AH.put CO.new CO.upd AH.cnt
 by_cases h:s'=s
 ·subst h
  by_cases h2:t'=(o s').cnt<;>by_cases h3:t'=t<;>simp [h2,h3]
 ·simp [h]
theorem WG (o:AH) (s t s':Nat) (b:DN):(o.put s (((o s).upd t none).new b)).cnt s'=if s'=s then o.cnt s+1 else o.cnt s':=by
 unfold AH.cnt AH.put CO.new CO.upd
 by_cases h:s'=s<;>simp [h]
theorem bT {m:M} (hm:BR B S w0 m) (s t:Nat) (b b':DN) (hb:m.own.get s t=some b) (gopt:Option Nat) (w':World) (hbel:Below B w0 w') (hsz:m.w.heap.size<=w'.heap.size)
  (hk : ∀ k,k<m.w.heap.size->m.ν s t≠some k->w'.heap[k]? = m.w.heap[k]?) (hz : ∀ x∈b'.es,x.length=b'.esz)
  (hnone:gopt=none->b'.es=[])
  (hsome : ∀ g,gopt=some g->B<=g/\(m.w.heap.size<=g\/m.ν s t=some g) /\ ∃ arr e,w'.heap[g]? = some (.cells arr e (0,0)) /\
   ∀ i cs,b'.es[i]? = some cs -> ∀ j c,cs[j]? = some c -> ∃ u,arr[i*b'.esz+j]? = some u/\CC B S m c u) :
  BR B S w0 ⟨newν m s gopt,m.own.put s (((m.own s).upd t none).new b'),w'⟩/\DD B S m ⟨newν m s gopt,m.own.put s (((m.own s).upd t none).new b'),w'⟩:=by
 have hlt:t<m.own.cnt s:=by
  rcases Nat.lt_or_ge t (m.own.cnt s) with h|h
  ·exact h
  ·rw[hm.fresh s t h]at hb;cases hb
 have hν : ∀ s' t',live m s' t'->newν m s gopt s' t'=m.ν s' t':=fun s' t' hl=>by
  unfold newν
  rw[if_neg]
  rintro ⟨rfl,rfl⟩
  exact XB hm _ hl
 have he:DD B S m ⟨newν m s gopt,m.own.put s (((m.own s).upd t none).new b'),w'⟩:=by
  refine QL hm hsz (fun k hk' hn=>hk k hk' (hn s t ⟨b,hb⟩)) (fun s' => ?_) (fun s' t' b2 ht hb2 => ?_) (fun s' t' g' hl hg' hlt' => ?_)
  ·rw[WG];split
   ·rename_i h;subst h;omega
   ·exact Nat.le_refl _
  ·rw[QM]at hb2
   rw[if_neg (by rintro ⟨rfl,rfl⟩;omega)]at hb2
   by_cases h:s'=s/\t'=t
   ·rw[if_pos h]at hb2;cases hb2
   ·rw[if_neg h]at hb2
    refine ⟨b2,hb2,rfl,hν s' t' ⟨b2,hb2⟩,fun g2 ar e' hg2 ha2=>⟨ar,?_,rfl⟩⟩
    rw[<-ha2]
    exact hk g2 (Array.getElem?_eq_some_iff.1 ha2).1 (fun e2=>h (hm.inj s' t' s t b2 b g2 hb2 hb hg2 e2))
  ·obtain ⟨b2,hb2⟩:=hl
   rw[QM]at hb2
   by_cases h0:s'=s/\t'=m.own.cnt s
   ·simp only[newν,if_pos h0]at hg'
    obtain ⟨_,h2,_⟩:=hsome g' hg'
    rcases h2 with h2|h2
    ·omega
    ·exact ⟨s,t,⟨b,hb⟩,h2⟩
   ·rw[if_neg h0]at hb2
    by_cases h:s'=s/\t'=t
    ·rw[if_pos h]at hb2;cases hb2
    ·rw[if_neg h]at hb2
     exact ⟨s',t',⟨b2,hb2⟩,by rw[<-hν s' t' ⟨b2,hb2⟩];exact hg'⟩
 refine ⟨⟨hbel,Nat.le_trans hm.size hsz,fun s' t' ht => ?_,fun s' t' b2 hb2 => ?_,fun s1 t1 s2 t2 b1 b2 g1 h1 h2 e1 e2 => ?_⟩,he⟩
 ·rw[WG]at ht
  have ht':m.own.cnt s'<=t' /\ ¬ (s'=s/\t'=m.own.cnt s):=by
   by_cases h:s'=s
   ·subst h
    simp at ht
    exact ⟨by omega,by omega⟩
   ·simp [h]at ht
    exact ⟨ht,fun h'=>h h'.1⟩
  rw[QM,if_neg ht'.2]
  split
  ·rfl
  ·exact hm.fresh s' t' ht'.1
 ·rw[QM]at hb2
  by_cases h0:s'=s/\t'=m.own.cnt s
  ·rw[if_pos h0]at hb2
   obtain rfl:b'=b2:=by simpa using hb2
   refine ⟨hz,?_⟩
   show match newν m s gopt s' t' with|none=>_|some g=>_
   rw[show newν m s gopt s' t'=gopt by simp [newν,h0]]
   cases gopt with
   | none=>exact hnone rfl
   | some g =>
    obtain ⟨h1,_,arr,e,h4,h5⟩:=hsome g rfl
    refine ⟨h1,arr,e,h4,fun i cs hi j c hj => ?_⟩
    obtain ⟨u,hu,hcc⟩:=h5 i cs hi j c hj
    exact ⟨u,hu,he.cc hcc⟩
  ·rw[if_neg h0]at hb2
   by_cases h:s'=s/\t'=t
   ·rw[if_pos h]at hb2;cases hb2
   ·rw[if_neg h]at hb2
    obtain ⟨h1,h2⟩:=hm.blk s' t' b2 hb2
    refine ⟨h1,?_⟩
    show match newν m s gopt s' t' with|none=>_|some g=>_
    rw[hν s' t' ⟨b2,hb2⟩]
    cases hv:m.ν s' t' with
    | none=>rw[hv]at h2;exact h2
    | some g2 =>
     rw[hv]at h2
     obtain ⟨h3,ar,e',h4,h5⟩:=h2
     refine ⟨h3,ar,e',?_,fun i cs hi j c hj => ?_⟩
     ·rw[<-h4]
      exact hk g2 (Array.getElem?_eq_some_iff.1 h4).1 (fun e2=>h (hm.inj s' t' s t b2 b g2 hb2 hb hv e2))
     ·obtain ⟨u,hu,hcc⟩:=h5 i cs hi j c hj
      exact ⟨u,hu,he.cc hcc⟩
 ·rw[QM]at h1 h2
  have old : ∀ s' t' b2,(if s'=s/\t'=t then none else m.own.get s' t')=some b2->m.own.get s' t'=some b2 /\ ¬ (s'=s/\t'=t):=fun s' t' b2 h=>by
   by_cases h':s'=s/\t'=t
   ·rw[if_pos h']at h;cases h
   ·rw[if_neg h']at h;exact ⟨h,h'⟩
  have clash : ∀ s' t' b2,m.own.get s' t'=some b2 -> ¬ (s'=s/\t'=t)->newν m s gopt s' t'=some g1->gopt=some g1->False:=fun s' t' b2 hb2 hne e1 e2=>by
   rw[hν s' t' ⟨b2,hb2⟩]at e1
   obtain ⟨_,h2,_⟩:=hsome g1 e2
   obtain ⟨_,ar,e',h4⟩:=hm.ge ⟨b2,hb2⟩ e1
   have:=(Array.getElem?_eq_some_iff.1 h4).1
   rcases h2 with h2|h2
   ·omega
   ·exact hne (hm.inj s' t' s t b2 b g1 hb2 hb e1 h2)
  have at_ : ∀ s' t',s'=s/\t'=m.own.cnt s->newν m s gopt s' t'=some g1->gopt=some g1:=fun s' t' h hg=>by simpa [newν,if_pos h] using hg
  by_cases p1:s1=s/\t1=m.own.cnt s<;>by_cases p2:s2=s/\t2=m.own.cnt s
  ·exact ⟨p1.1.trans p2.1.symm,p1.2.trans p2.2.symm⟩
  ·rw[if_neg p2]at h2
   obtain ⟨k2,n2⟩:=old s2 t2 b2 h2
   exact (clash s2 t2 b2 k2 n2 e2 (at_ s1 t1 p1 e1)).elim
  ·rw[if_neg p1]at h1
   obtain ⟨k1,n1⟩:=old s1 t1 b1 h1
   exact (clash s1 t1 b1 k1 n1 e1 (at_ s2 t2 p2 e2)).elim
  ·rw[if_neg p1]at h1
   rw[if_neg p2]at h2
   obtain ⟨k1,n1⟩:=old s1 t1 b1 h1
   obtain ⟨k2,n2⟩:=old s2 t2 b2 h2
   exact hm.inj s1 t1 s2 t2 b1 b2 g1 k1 k2 (by rw[<-hν s1 t1 ⟨b1,k1⟩];exact e1) (by rw[<-hν s2 t2 ⟨b2,k2⟩];exact e2)
theorem mA (o:AH) (l:List Nat) (s t:Nat):(o.drop l).get s t=if s∈l then none else o.get s t:=by
 induction l with
 | nil=>simp [AH.drop]
 | cons x r ih =>
  unfold AH.get at *
  by_cases h:s=x
  ·subst h;simp [AH.drop,AH.put]
  ·simp only[AH.drop,AH.put,if_neg h,List.mem_cons]
   rw[ih]
   by_cases h2:s∈r<;>simp [h,h2]
theorem gW (o:AH) (l:List Nat) (s:Nat):(o.drop l).cnt s=o.cnt s:=by
 induction l with
 | nil=>simp [AH.drop]
 | cons x r ih =>
  unfold AH.cnt at *
  by_cases h:s=x
  ·subst h;simp [AH.drop,AH.put]
  ·simp [AH.drop,AH.put,h,ih]
theorem Aax {m:M} (hm:BR B S w0 m) (l:List Nat):BR B S w0 ⟨m.ν,m.own.drop l,m.w⟩/\DD B S m ⟨m.ν,m.own.drop l,m.w⟩:=by
 have old : ∀ s t b,(m.own.drop l).get s t=some b->m.own.get s t=some b:=fun s t b h=>by
  rw[mA]at h
  split at h
  ·cases h
  ·exact h
 have he:DD B S m ⟨m.ν,m.own.drop l,m.w⟩:=by
  refine QL hm (Nat.le_refl _) (fun _ _ _=>rfl) (fun s=>by rw[gW];exact Nat.le_refl _) (fun s t b' _ hb'=>⟨b',old s t b' hb',rfl,rfl,fun _ ar _ _ ha=>⟨ar,ha,rfl⟩⟩) (fun s t g hl hg _ => ?_)
  obtain ⟨b,hb⟩:=hl
  exact ⟨s,t,⟨b,old s t b hb⟩,hg⟩
 refine ⟨⟨hm.below,hm.size,fun s t ht => ?_,fun s t b hb => ?_,fun s1 t1 s2 t2 b1 b2 g h1 h2=>hm.inj s1 t1 s2 t2 b1 b2 g (old _ _ _ h1) (old _ _ _ h2)⟩,he⟩
 ·rw[gW]at ht
  rw[mA]
  split
  ·rfl
  ·exact hm.fresh s t ht
 ·obtain ⟨h1,h2⟩:=hm.blk s t b (old s t b hb)
  refine ⟨h1,?_⟩
  show match m.ν s t with|none=>_|some g=>_
  cases hv:m.ν s t with
  | none=>rw[hv]at h2;exact h2
  | some g =>
   rw[hv]at h2
   obtain ⟨h3,ar,e',h4,h5⟩:=h2
   refine ⟨h3,ar,e',h4,fun i cs hi j c hj => ?_⟩
   obtain ⟨u,hu,hcc⟩:=h5 i cs hi j c hj
   exact ⟨u,hu,he.cc hcc⟩
end
end Go.Eng

namespace Go.Eng
section
variable {P:Program} {num:Nat->Nat} {op:Op}
theorem AcR {y:AQ} (h:BA P num op (.mov y)=true) : ∃ x,(op = .move x\/op = .assign x)/\BO x y=true:=by
 cases op with
 | move x=>exact ⟨x,.inl rfl,h⟩
 | assign x=>exact ⟨x,.inr rfl,h⟩
 | _=>exact Bool.noConfusion h
theorem AcZ {s z:Nat} (h:BA P num op (.vrow s z)=true):(op = .move (.const (.slice none 0 0))\/op = .assign (.const (.slice none 0 0)))/\z≠0:=by
 simp only[BA,Bool.and_eq_true,bne_iff_ne]at h
 refine ⟨?_,h.1⟩
 have h2:=h.2
 split at h2<;>simp_all
theorem AcT {c' a' b':AQ} (h:BA P num op (.pick c' a' b')=true) : ∃ c a b,op = .pick c a b/\BO c c'=true/\BO a a'=true/\BO b b'=true:=by
 cases op with
 | pick c a b=>simp only[BA,Bool.and_eq_true]at h;exact ⟨c,a,b,rfl,h.1.1,h.1.2,h.2⟩
 | _=>exact Bool.noConfusion h
theorem Acz {f:BinOp} {x' y':AQ} (h:BA P num op (.bin f x' y')=true) : ∃ t x y u,op = .binOp f t x y u/\BO x x'=true/\BO y y'=true:=by
 cases op with
 | binOp f' t x y u =>
  simp only[BA,Bool.and_eq_true,beq_iff_eq]at h
  exact ⟨t,x,y,u,by rw[h.1.1],h.1.2,h.2⟩
 | _=>exact Bool.noConfusion h
theorem Acy {ne:Bool} {x' y':AQ} (h:BA P num op (.beq ne x' y')=true) : ∃ t x y u,op = .binOp (if ne then .neq else .eql) t x y u/\P.underlying t=some .bool/\BO x x'=true/\BO y y'=true:=by
 cases op with
 | binOp f' t x y u =>
  simp only[BA,Bool.and_eq_true]at h
  obtain ⟨⟨⟨h1,h2⟩,h3⟩,h4⟩:=h
  refine ⟨t,x,y,u,?_,?_,h3,h4⟩
  ·cases ne<;>simp_all
  ·split at h2<;>simp_all
 | _=>exact Bool.noConfusion h
theorem AcY {f:UnOp} {x':AQ} (h:BA P num op (.un f x')=true) : ∃ t x,op = .unOp f t x/\BO x x'=true:=by
 cases op with
 | unOp f' t x =>
  simp only[BA,Bool.and_eq_true,beq_iff_eq]at h
  exact ⟨t,x,by rw[h.1],h.2⟩
 | _=>exact Bool.noConfusion h
theorem AcI {k:IntKind} {x':AQ} (h:BA P num op (.conv k x')=true) : ∃ s d x ds,op = .convert s d x/\P.underlying s=some ds/\P.underlying d=some (.int k)/\BO x x'=true:=by
 cases op with
 | convert s d x =>
  simp only[BA,Bool.and_eq_true]at h
  obtain ⟨⟨h1,h2⟩,h3⟩:=h
  obtain ⟨ds,hds⟩:=Option.isSome_iff_exists.1 h1
  refine ⟨s,d,x,ds,rfl,hds,?_,h3⟩
  split at h2<;>simp_all
 | _=>exact Bool.noConfusion h
theorem AcA {s:Nat} {x':AQ} (h:BA P num op (.box s x')=true) : ∃ t x,op = .box t x/\BO x x'=true:=by
 cases op with
 | box t x=>exact ⟨t,x,rfl,h⟩
 | _=>exact Bool.noConfusion h
theorem Acu {s:Nat} {z:List AV} (h:BA P num op (.alloc s z)=true) : ∃ t,op = .alloc t/\RD P t z=true:=by
 cases op with
 | alloc t=>exact ⟨t,rfl,h⟩
 | _=>exact Bool.noConfusion h
theorem AcC {z:List AV} {ps':List (Nat × Nat × AQ)} (h:BA P num op (.build z ps')=true) : ∃ t ps,op = .build t ps/\RD P t z=true/\Y0 P t ps.toList ps'=true:=by
 cases op with
 | build t ps=>simp only[BA,Bool.and_eq_true]at h;exact ⟨t,ps,rfl,h.1,h.2⟩
 | _=>exact Bool.noConfusion h
theorem MX {t:TypeId} {f:TypeId->Bool} (h:GY P t f=true) : ∃ e,P.underlying t=some (.slice e)/\f e=true:=by
 unfold GY at h
 split at h
 ·rename_i e he;exact ⟨e,he,h⟩
 ·cases h
theorem I3 {t:TypeId} {n:Nat} (h:GX P t n=true) : ∃ i,P.info? t=some i/\i.size=n:=by
 unfold GX at h
 split at h
 ·rename_i i hi;exact ⟨i,hi,by simpa using h⟩
 ·cases h
theorem V6 {t:TypeId} {n:Nat} (h:P9 P t n=true) : ∃ i,P.info? t=some i/\i.bytes=n:=by
 unfold P9 at h
 split at h
 ·rename_i i hi;exact ⟨i,hi,by simpa using h⟩
 ·cases h
theorem dY {t:TypeId} {l:List AV} (h:RD P t l=true) : ∃ i z,P.info? t=some i/\i.zero=some z/\OI z.cells.toList l=true:=by
 unfold RD at h
 split at h
 ·rename_i i hi
  split at h
  ·rename_i z hz;exact ⟨i,z,hi,hz,h⟩
  ·cases h
 ·cases h
theorem V2 {t:TypeId} {b:Bool} (h:(P6 P t == some b)=true) : ∀ w,(isAgg t).run P w = .ok b w:=by
 intro w
 have h':P6 P t=some b:=by simpa using h
 unfold P6 at h'
 unfold isAgg
 cases hu:P.underlying t with
 | none=>rw[hu]at h';cases h'
 | some d =>
  rw[hu]at h'
  rw[Sem.run_bind,run_underlying hu]
  cases d<;>simp_all<;>rfl
theorem YD {e:TypeId} {n:Nat} (h:(match P.info? e with|some i=>(match i.zero with|some z=>z.cells.size == n|none=>false)|none=>false)=true) : ∃ i z,P.info? e=some i/\i.zero=some z/\z.cells.size=n:=by
 split at h
 ·rename_i i hi
  split at h
  ·rename_i z hz;exact ⟨i,z,hi,hz,by simpa using h⟩
  ·cases h
 ·cases h
theorem AcB {s esz:Nat} {ps':List AQ} (h:BA P num op (.bslice s esz ps')=true) : ∃ t n ps e i,op = .buildSlice t n ps/\P.underlying t=some (.slice e)/\P.info? e=some i/\i.size=esz/\esz≠0/\n=ps'.length/\n*esz<=16777216/\QI 0 ps.toList ps'=true/\(n=0 \/ ∃ z,i.zero=some z/\z.cells.size=esz):=by
 cases op with
 | buildSlice t n ps =>
  simp only[BA,Bool.and_eq_true,decide_eq_true_eq,bne_iff_ne,beq_iff_eq,Bool.or_eq_true]at h
  obtain ⟨⟨⟨⟨⟨h1,h2⟩,h3⟩,h4⟩,h5⟩,h6⟩:=h
  obtain ⟨e,he,h1⟩:=MX h1
  obtain ⟨i,hi,hs⟩:=I3 h1
  refine ⟨t,n,ps,e,i,rfl,he,hi,hs,h2,h3,h4,h5,h6.imp id fun h6 => ?_⟩
  obtain ⟨e',he',h6⟩:=MX h6
  rw[he]at he'
  obtain rfl:e=e':=by simpa using he'
  obtain ⟨i',z,hi',hz,hs'⟩:=YD h6
  rw[hi]at hi'
  obtain rfl:i=i':=by simpa using hi'
  exact ⟨z,hz,hs'⟩
 | _=>exact Bool.noConfusion h
theorem mT {x':AQ} {off:Nat} (h:BA P num op (.fadr x' off)=true) : ∃ t x f fs fd i,op = .fieldAddr t x f/\BO x x'=true/\P.underlying t=some (.struct fs)/\fs[f]? = some fd/\fd.offset=off/\P.info? fd.type=some i/\i.size≠0:=by
 cases op with
 | fieldAddr t x f =>
  simp only[BA,Bool.and_eq_true]at h
  obtain ⟨h1,h2⟩:=h
  split at h2
  ·rename_i fs hfs
   split at h2
   ·rename_i fd hfd
    simp only[Bool.and_eq_true,beq_iff_eq]at h2
    obtain ⟨h3,h4⟩:=h2
    split at h4
    ·rename_i i hi
     exact ⟨t,x,f,fs,fd,i,rfl,h1,hfs,hfd,h3,hi,by simpa using h4⟩
    ·cases h4
   ·cases h2
  ·cases h2
 | _=>exact Bool.noConfusion h
theorem AcL {x':AQ} {off n:Nat} {agg:Bool} (h:BA P num op (.fld x' off n agg)=true) : ∃ t x f fs fd i,op = .field t x f/\BO x x'=true/\P.underlying t=some (.struct fs)/\fs[f]? = some fd/\fd.offset=off/\P.info? fd.type=some i/\i.size=n/\(∀ w,(isAgg fd.type).run P w = .ok agg w)/\n≠0:=by
 cases op with
 | field t x f =>
  simp only[BA,Bool.and_eq_true]at h
  obtain ⟨⟨h1,h2⟩,h3⟩:=h
  unfold lL at h2
  unfold lM at h3
  split at h2
  ·rename_i fs hfs
   split at h2
   ·rename_i fd hfd
    simp only[Bool.and_eq_true,beq_iff_eq,bne_iff_ne]at h2
    obtain ⟨⟨h4,h5⟩,h6⟩:=h2
    obtain ⟨i,hi,hs⟩:=I3 h5
    rw[hfs]at h3
    simp only[hfd]at h3
    exact ⟨t,x,f,fs,fd,i,rfl,h1,hfs,hfd,h4,hi,hs,V2 h3,h6⟩
   ·cases h2
  ·cases h2
 | _=>exact Bool.noConfusion h
theorem W0 {arr:Option Nat} {esz:Nat} {x' i':AQ} (h:BA P num op (.iadr arr esz x' i')=true) : ∃ t x i e inf,op = .indexAddr t x i/\BO x x'=true/\BO i i'=true/\P.info? e=some inf/\inf.size=esz /\
  ((∃ len,arr=some len/\P.underlying t=some (.array len e)/\1<len)\/(arr=none/\P.underlying t=some (.slice e)/\esz≠0)):=by
 cases op with
 | indexAddr t x i =>
  simp only[BA,Bool.and_eq_true]at h
  obtain ⟨⟨h1,h2⟩,h3⟩:=h
  split at h3
  ·rename_i len e len' hu
   simp only[Bool.and_eq_true,beq_iff_eq,decide_eq_true_eq]at h3
   obtain ⟨⟨h4,h5⟩,h6⟩:=h3
   obtain ⟨inf,hi,hs⟩:=I3 h5
   exact ⟨t,x,i,e,inf,rfl,h1,h2,hi,hs,.inl ⟨len,by rw[h4],hu,h6⟩⟩
  ·rename_i e hu
   simp only[Bool.and_eq_true,bne_iff_ne]at h3
   obtain ⟨inf,hi,hs⟩:=I3 h3.1
   exact ⟨t,x,i,e,inf,rfl,h1,h2,hi,hs,.inr ⟨rfl,hu,h3.2⟩⟩
  ·cases h3
 | _=>exact Bool.noConfusion h
theorem AcM {len esz:Nat} {agg:Bool} {x' i':AQ} (h:BA P num op (.idx len esz agg x' i')=true) : ∃ t x i e inf,op = .index t x i/\BO x x'=true/\BO i i'=true/\P.underlying t=some (.array len e)/\P.info? e=some inf/\inf.size=esz/\(∀ w,(isAgg e).run P w = .ok agg w):=by
 cases op with
 | index t x i =>
  simp only[BA,Bool.and_eq_true]at h
  obtain ⟨⟨h1,h2⟩,h3⟩:=h
  split at h3
  ·rename_i len' e hu
   simp only[Bool.and_eq_true,beq_iff_eq]at h3
   obtain ⟨⟨h4,h5⟩,h6⟩:=h3
   obtain ⟨inf,hi,hs⟩:=I3 h5
   exact ⟨t,x,i,e,inf,rfl,h1,h2,by rw[h4];exact hu,hi,hs,V2 (by simpa using h6)⟩
  ·cases h3
 | _=>exact Bool.noConfusion h
theorem mU {agg:Bool} {n:Nat} {x':AQ} (h:BA P num op (.ld agg n x')=true) : ∃ t x,op = .load t x/\BO x x'=true/\(∀ w,(isAgg t).run P w = .ok agg w)/\(if agg then ∃ i,P.info? t=some i/\i.size=n else n=1):=by
 cases op with
 | load t x =>
  simp only[BA,Bool.and_eq_true]at h
  obtain ⟨⟨h1,h2⟩,h3⟩:=h
  refine ⟨t,x,rfl,h1,V2 h2,?_⟩
  cases agg
  ·simpa using h3
  ·exact I3 (by simpa using h3)
 | _=>exact Bool.noConfusion h
theorem AcW {n:Nat} {x' v':AQ} (h:BA P num op (.st n x' v')=true) : ∃ t x v i,op = .store t x v/\BO x x'=true/\BO v v'=true/\P.info? t=some i/\i.size=n:=by
 cases op with
 | store t x v =>
  simp only[BA,Bool.and_eq_true]at h
  obtain ⟨⟨h1,h2⟩,h3⟩:=h
  obtain ⟨i,hi,hs⟩:=I3 h3
  exact ⟨t,x,v,i,rfl,h1,h2,hi,hs⟩
 | _=>exact Bool.noConfusion h
theorem AcP {s esz bytes:Nat} {zero:List AV} {l' c':AQ} (h:BA P num op (.mk s esz bytes zero l' c')=true) : ∃ t l c e i z,op = .makeSlice t l c/\BO l l'=true/\BO c c'=true/\P.underlying t=some (.slice e)/\P.info? e=some i/\i.size=esz/\i.bytes=bytes/\i.zero=some z/\OI z.cells.toList zero=true/\esz≠0:=by
 cases op with
 | makeSlice t l c =>
  simp only[BA,Bool.and_eq_true,bne_iff_ne]at h
  obtain ⟨⟨⟨h1,h2⟩,h3⟩,h4⟩:=h
  obtain ⟨e,he,h3⟩:=MX h3
  simp only[Bool.and_eq_true]at h3
  obtain ⟨⟨h5,h6⟩,h7⟩:=h3
  obtain ⟨i,hi,hs⟩:=I3 h5
  obtain ⟨i2,hi2,hs2⟩:=V6 h6
  obtain ⟨i3,z,hi3,hz,hzz⟩:=dY h7
  rw[hi]at hi2 hi3
  obtain rfl:i=i2:=by simpa using hi2
  obtain rfl:i=i3:=by simpa using hi3
  exact ⟨t,l,c,e,i,z,rfl,h1,h2,he,hi,hs,hs2,hz,hzz,h4⟩
 | _=>exact Bool.noConfusion h
theorem aZ {esz:Nat} {x':AQ} {lo' hi':Option AQ} (h:BA P num op (.slc esz x' lo' hi')=true) : ∃ t x lo hi e i,op = .slice t x lo hi none/\BO x x'=true/\N0 lo lo'=true/\N0 hi hi'=true/\P.underlying t=some (.slice e)/\P.info? e=some i/\i.size=esz/\esz≠0:=by
 cases op with
 | slice t x lo hi mx =>
  cases mx with
  | some _=>exact Bool.noConfusion h
  | none =>
   simp only[BA,Bool.and_eq_true,bne_iff_ne]at h
   obtain ⟨⟨⟨⟨h1,h2⟩,h3⟩,h4⟩,h5⟩:=h
   obtain ⟨e,he,h4⟩:=MX h4
   obtain ⟨i,hi',hs⟩:=I3 h4
   exact ⟨t,x,lo,hi,e,i,rfl,h1,h2,h3,he,hi',hs,h5⟩
 | _=>exact Bool.noConfusion h
theorem AcK {x':AQ} {i:Nat} (h:BA P num op (.ext x' i)=true) : ∃ x,op = .extract x i/\BO x x'=true:=by
 cases op with
 | extract x j =>
  simp only[BA,Bool.and_eq_true,beq_iff_eq]at h
  exact ⟨x,by rw[h.2],h.1⟩
 | _=>exact Bool.noConfusion h
theorem PS {α:Type} {xs:Array α} {x y:α} (h:xs.toList=[x,y]):xs = #[x,y]:=by cases xs;simp_all
theorem X6 {α:Type} {xs:Array α} {x:α} (h:xs.toList=[x]):xs = #[x]:=by cases xs;simp_all
theorem AcO {x':AQ} (h:BA P num op (.len x')=true) : ∃ x t e,op = .call ⟨.builtin .len,#[x],#[t]⟩/\BO x x'=true/\P.underlying t=some (.slice e):=by
 cases op with
 | call c =>
  obtain ⟨cl,xs,ts⟩:=c
  cases cl with
  | builtin b =>
   cases b<;>first|exact Bool.noConfusion h|skip
   simp only[BA]at h
   split at h
   ·rename_i x t hx ht
    simp only[Bool.and_eq_true]at h
    obtain ⟨e,he,_⟩:=MX h.2
    exact ⟨x,t,e,by rw[X6 hx,X6 ht],h.1,he⟩
   ·cases h
  | value f=>cases f<;>exact Bool.noConfusion h
  | invoke=>exact Bool.noConfusion h
 | _=>exact Bool.noConfusion h
theorem mV {mx:Bool} {xs':List AQ} (h:BA P num op (.mm mx xs')=true) : ∃ xs ts,op = .call ⟨.builtin (if mx then .max else .min),xs,ts⟩/\D5 xs.toList xs'=true:=by
 cases op with
 | call c =>
  obtain ⟨cl,xs,ts⟩:=c
  cases cl with
  | builtin b =>
   cases b<;>first|exact Bool.noConfusion h|skip
   all_goals
    simp only[BA,Bool.and_eq_true]at h
    refine ⟨xs,ts,?_,h.2⟩
    cases mx<;>simp_all
  | value f=>cases f<;>exact Bool.noConfusion h
  | invoke=>exact Bool.noConfusion h
 | _=>exact Bool.noConfusion h
theorem mR {s esz bytes:Nat} {x' y':AQ} (h:BA P num op (.app s esz bytes x' y')=true) : ∃ x y t e i z tx ex,op = .call ⟨.builtin .append,#[x,y],#[t,tx]⟩/\BO x x'=true/\BO y y'=true/\P.underlying t=some (.slice e)/\P.info? e=some i/\i.size=esz/\i.bytes=bytes/\i.zero=some z/\z.cells.size=esz/\esz≠0/\P.underlying tx=some (.slice ex):=by
 cases op with
 | call c =>
  obtain ⟨cl,xs,ts⟩:=c
  cases cl with
  | builtin b =>
   cases b<;>first|exact Bool.noConfusion h|skip
   simp only[BA]at h
   split at h
   ·rename_i x y t u hx ht
    simp only[Bool.and_eq_true,beq_iff_eq,bne_iff_ne]at h
    obtain ⟨⟨⟨⟨h1,h2⟩,h3⟩,h4⟩,h5⟩:=h
    obtain ⟨e,he,h3⟩:=MX h3
    simp only[Bool.and_eq_true]at h3
    obtain ⟨⟨h6,h7⟩,h8⟩:=h3
    obtain ⟨i,hi,hs⟩:=I3 h6
    obtain ⟨i2,hi2,hs2⟩:=V6 h7
    obtain ⟨i3,z,hi3,hz,hzz⟩:=YD h8
    rw[hi]at hi2 hi3
    obtain rfl:i=i2:=by simpa using hi2
    obtain rfl:i=i3:=by simpa using hi3
    obtain ⟨ex,hex,_⟩:=MX h5
    exact ⟨x,y,t,e,i,z,u,ex,by rw[PS hx,PS ht],h1,h2,he,hi,hs,hs2,hz,hzz,h4,hex⟩
   ·cases h
  | value f=>cases f<;>exact Bool.noConfusion h
  | invoke=>exact Bool.noConfusion h
 | _=>exact Bool.noConfusion h
theorem Acv {s esz bytes:Nat} {x' y':AQ} (h:BA P num op (.apd s esz bytes x' y')=true) : ∃ x y t e i z tx ex,op = .call ⟨.builtin .append,#[x,y],#[t,tx]⟩/\BO x x'=true/\BO y y'=true/\P.underlying t=some (.slice e)/\P.info? e=some i/\i.size=esz/\i.bytes=bytes/\i.zero=some z/\z.cells.size=esz/\esz≠0/\P.underlying tx=some (.slice ex):=by
 cases op with
 | call c =>
  obtain ⟨cl,xs,ts⟩:=c
  cases cl with
  | builtin b =>
   cases b<;>first|exact Bool.noConfusion h|skip
   simp only[BA]at h
   split at h
   ·rename_i x y t u hx ht
    simp only[Bool.and_eq_true,beq_iff_eq,bne_iff_ne]at h
    obtain ⟨⟨⟨⟨h1,h2⟩,h3⟩,h4⟩,h5⟩:=h
    obtain ⟨e,he,h3⟩:=MX h3
    simp only[Bool.and_eq_true]at h3
    obtain ⟨⟨h6,h7⟩,h8⟩:=h3
    obtain ⟨i,hi,hs⟩:=I3 h6
    obtain ⟨i2,hi2,hs2⟩:=V6 h7
    obtain ⟨i3,z,hi3,hz,hzz⟩:=YD h8
    rw[hi]at hi2 hi3
    obtain rfl:i=i2:=by simpa using hi2
    obtain rfl:i=i3:=by simpa using hi3
    obtain ⟨ex,hex,_⟩:=MX h5
    exact ⟨x,y,t,e,i,z,u,ex,by rw[PS hx,PS ht],h1,h2,he,hi,hs,hs2,hz,hzz,h4,hex⟩
   ·cases h
  | value f=>cases f<;>exact Bool.noConfusion h
  | invoke=>exact Bool.noConfusion h
 | _=>exact Bool.noConfusion h
theorem AcJ {esz:Nat} {x' y':AQ} (h:BA P num op (.cpy esz x' y')=true) : ∃ x y t e i,op = .call ⟨.builtin .copy,#[x,y],#[t,t]⟩/\BO x x'=true/\BO y y'=true/\P.underlying t=some (.slice e)/\P.info? e=some i/\i.size=esz/\esz≠0:=by
 cases op with
 | call c =>
  obtain ⟨cl,xs,ts⟩:=c
  cases cl with
  | builtin b =>
   cases b<;>first|exact Bool.noConfusion h|skip
   simp only[BA]at h
   split at h
   ·rename_i x y t u hx ht
    simp only[Bool.and_eq_true,beq_iff_eq,bne_iff_ne]at h
    obtain ⟨⟨⟨⟨h1,h2⟩,h3⟩,h4⟩,h5⟩:=h
    obtain ⟨e,he,h3⟩:=MX h3
    obtain ⟨i,hi,hs⟩:=I3 h3
    exact ⟨x,y,t,e,i,by rw[PS hx,PS ht,h5],h1,h2,he,hi,hs,h4⟩
   ·cases h
  | value f=>cases f<;>exact Bool.noConfusion h
  | invoke=>exact Bool.noConfusion h
 | _=>exact Bool.noConfusion h
theorem aY {f:Nat} {xs':List AQ} (h:BA P num op (.call f xs')=true) : ∃ xs ts,op = .call ⟨.value (.func (num f)),xs,ts⟩/\D5 xs.toList xs'=true:=by
 cases op with
 | call c =>
  obtain ⟨cl,xs,ts⟩:=c
  cases cl with
  | builtin b=>cases b<;>exact Bool.noConfusion h
  | value g =>
   cases g with
   | func g =>
    simp only[BA,Bool.and_eq_true,beq_iff_eq]at h
    exact ⟨xs,ts,by rw[h.1],h.2⟩
   | _=>exact Bool.noConfusion h
  | invoke=>exact Bool.noConfusion h
 | _=>exact Bool.noConfusion h
theorem AcD {f:Nat} {xs':List AQ} (h:BA P num op (.calli f xs')=true) : ∃ xs ts,op = .call ⟨.value (.func (num f)),xs,ts⟩/\D5 xs.toList xs'=true:=by
 cases op with
 | call c =>
  obtain ⟨cl,xs,ts⟩:=c
  cases cl with
  | builtin b=>cases b<;>exact Bool.noConfusion h
  | value g =>
   cases g with
   | func g =>
    simp only[BA,Bool.and_eq_true,beq_iff_eq]at h
    exact ⟨xs,ts,by rw[h.1],h.2⟩
   | _=>exact Bool.noConfusion h
  | invoke=>exact Bool.noConfusion h
 | _=>exact Bool.noConfusion h
theorem AcE {f:Nat} {xs':List AQ} (h:BA P num op (.callq f xs')=true):BA P num op (.call f xs')=true:=by
 cases op<;>exact h
theorem Acs {ne:Bool} {n:Nat} {x' y':AQ} (h:BA P num op (.aeq ne n x' y')=true) : ∃ t x y u,op = .binOp (if ne then .neq else .eql) t x y u/\aG P t n=true/\BO x x'=true/\BO y y'=true:=by
 cases op with
 | binOp f' t x y u =>
  simp only[BA,Bool.and_eq_true]at h
  obtain ⟨⟨⟨h1,h2⟩,h3⟩,h4⟩:=h
  refine ⟨t,x,y,u,?_,h2,h3,h4⟩
  cases ne<;>simp_all
 | _=>exact Bool.noConfusion h
theorem AcS {x':AQ} (h:BA P num op (.nck x')=true) : ∃ x,op = .nilCheck x/\BO x x'=true:=by
 cases op with
 | nilCheck x=>exact ⟨x,rfl,h⟩
 | _=>exact Bool.noConfusion h
theorem AcH {x':AQ} (h:BA P num op (.capn x')=true) : ∃ x t e,op = .call ⟨.builtin .cap,#[x],#[t]⟩/\BO x x'=true/\P.underlying t=some (.slice e):=by
 cases op with
 | call c =>
  obtain ⟨cl,xs,ts⟩:=c
  cases cl with
  | builtin b =>
   cases b<;>first|exact Bool.noConfusion h|skip
   simp only[BA]at h
   split at h
   ·rename_i x t hx ht
    simp only[Bool.and_eq_true]at h
    obtain ⟨e,he,_⟩:=MX h.2
    exact ⟨x,t,e,by rw[X6 hx,X6 ht],h.1,he⟩
   ·cases h
  | value f=>cases f<;>exact Bool.noConfusion h
  | invoke=>exact Bool.noConfusion h
 | _=>exact Bool.noConfusion h
theorem Acx {s esz bytes:Nat} {x' y':AQ} (h:BA P num op (.apz s esz bytes x' y')=true) : ∃ x y t e i z tx k,op = .call ⟨.builtin .append,#[x,y],#[t,tx]⟩/\BO x x'=true/\BO y y'=true/\P.underlying t=some (.slice e)/\P.info? e=some i/\i.size=esz/\i.bytes=bytes/\i.zero=some z/\z.cells.size=esz/\esz≠0/\P.underlying tx=some (.int k):=by
 cases op with
 | call c =>
  obtain ⟨cl,xs,ts⟩:=c
  cases cl with
  | builtin b =>
   cases b<;>first|exact Bool.noConfusion h|skip
   simp only[BA]at h
   split at h
   ·rename_i x y t u hx ht
    simp only[Bool.and_eq_true,bne_iff_ne]at h
    obtain ⟨⟨⟨⟨h1,h2⟩,h3⟩,h4⟩,h5⟩:=h
    obtain ⟨e,he,h3⟩:=MX h3
    simp only[Bool.and_eq_true]at h3
    obtain ⟨⟨h6,h7⟩,h8⟩:=h3
    obtain ⟨i,hi,hs⟩:=I3 h6
    obtain ⟨i2,hi2,hs2⟩:=V6 h7
    obtain ⟨i3,z,hi3,hz,hzz⟩:=YD h8
    rw[hi]at hi2 hi3
    obtain rfl:i=i2:=by simpa using hi2
    obtain rfl:i=i3:=by simpa using hi3
    split at h5
    ·rename_i k hk
     exact ⟨x,y,t,e,i,z,u,k,by rw[PS hx,PS ht],h1,h2,he,hi,hs,hs2,hz,hzz,h4,hk⟩
    ·cases h5
   ·cases h
  | value f=>cases f<;>exact Bool.noConfusion h
  | invoke=>exact Bool.noConfusion h
 | _=>exact Bool.noConfusion h
theorem AcG {s f:Nat} {xs':List AQ} (h:BA P num op (.cals s f xs')=true):BA P num op (.calli f xs')=true:=by
 cases op<;>exact h
theorem AcF {s f:Nat} {xs':List AQ} (h:BA P num op (.callr s f xs')=true):BA P num op (.call f xs')=true:=by
 cases op<;>exact h
theorem AcX {s n:Nat} {x' v':AQ} (h:BA P num op (.sto s n x' v')=true):BA P num op (.st n x' v')=true:=by
 cases op<;>exact h
theorem Acw {s esz bytes:Nat} {x' y':AQ} (h:BA P num op (.appo s esz bytes x' y')=true):BA P num op (.app s esz bytes x' y')=true:=by
 cases op<;>exact h
theorem AcN {ne:Bool} {x':AQ} (h:BA P num op (.isn ne x')=true) : ∃ t x u e,op = .binOp (if ne then .neq else .eql) t x (.const (.slice none 0 0)) u/\P.underlying t=some (.slice e)/\BO x x'=true:=by
 cases op with
 | binOp f' t x y u =>
  simp only[BA]at h
  split at h
  ·rename_i heq
   simp only[Op.binOp.injEq]at heq
   obtain ⟨rfl,rfl,rfl,rfl,rfl⟩:=heq
   simp only[Bool.and_eq_true]at h
   obtain ⟨⟨h1,h2⟩,h3⟩:=h
   unfold GY at h2
   split at h2
   ·rename_i e he
    refine ⟨t,x,u,e,?_,he,h3⟩
    cases ne
    ·simp only[Bool.false_eq_true,if_false,beq_iff_eq]at h1;rw[h1];rfl
    ·simp only[if_true,beq_iff_eq]at h1;rw[h1];rfl
   ·cases h2
  ·cases h
 | _=>exact Bool.noConfusion h
theorem AcU {tb:List Nat} {i':AQ} (h:BA P num op (.sidx tb i')=true) : ∃ t s i,op = .index t (.const (.string s)) i/\P.underlying t=some .string/\s.data.toList.map (fun b=>b.toNat)=tb/\BO i i'=true:=by
 cases op with
 | index t x i =>
  simp only[BA]at h
  split at h
  ·rename_i heq
   simp only[Op.index.injEq]at heq
   obtain ⟨rfl,rfl,rfl⟩:=heq
   simp only[Bool.and_eq_true,beq_iff_eq]at h
   obtain ⟨⟨h1,h2⟩,h3⟩:=h
   exact ⟨_,_,_,rfl,by split at h1<;>simp_all,h2,h3⟩
  ·cases h
 | _=>exact Bool.noConfusion h
theorem AcQ {p:Bool} {f:Nat} {xs':List AQ} (h:BA P num op (.mkf p f xs')=true) : ∃ first xs,op = .makeFunc (.func (num f)) first xs/\first = #[]/\D5 xs.toList xs'=true:=by
 cases op with
 | makeFunc g first xs =>
  cases g with
  | func g =>
   simp only[BA,Bool.and_eq_true,beq_iff_eq]at h
   obtain ⟨⟨rfl,h2⟩,h3⟩:=h
   refine ⟨first,xs,rfl,?_,h3⟩
   obtain ⟨l⟩:=first
   simp at h2
   rw[h2]
  | _=>exact Bool.noConfusion h
 | _=>exact Bool.noConfusion h
theorem mS {x':AQ} {xs':List AQ} (h:BA P num op (.callv x' xs')=true) : ∃ x xs ts,op = .call ⟨.value x,xs,ts⟩/\BO x x'=true/\D5 xs.toList xs'=true:=by
 cases op with
 | call c =>
  obtain ⟨cl,xs,ts⟩:=c
  cases cl with
  | builtin b=>cases b<;>exact Bool.noConfusion h
  | value g =>
   simp only[BA,Bool.and_eq_true]at h
   exact ⟨g,xs,ts,rfl,h.1,h.2⟩
  | invoke=>exact Bool.noConfusion h
 | _=>exact Bool.noConfusion h
end
end Go.Eng

namespace Go.Eng
open Go.RowKit
def CP.ownOf:CP->AH->AH
 | .val _,o=>o
 | .new s b _,o=>o.put s ((o s).new b)
 | .vir s b _,o=>o.put s ((o s).new b)
 | .tur _ o',_=>o'
 | .upd s x,o=>o.put s x
 | .upn s x _,o=>o.put s x
def CP.valOf:CP->AH->AV
 | .val v,_=>v
 | .new s _ v,o=>v (o.cnt s)
 | .vir s _ v,o=>v (o.cnt s)
 | .tur v _,_=>v
 | .upd _ _,_ => .tup []
 | .upn _ _ v,_=>v
section
variable {B:Nat} {S:Nat->Prop} {w0:World} {m:M}
theorem GR {k:IntKind} {n:Int} {v:Value} (h:CV B S m (.int k n) v):v = .int k n:=by
 cases h with
 | ca h=>cases h with
  | one h=>cases h with
   | rd h=>cases h;rfl
theorem QC {b:Bool} {v:Value} (h:CV B S m (.bool b) v):v = .bool b:=by
 cases h with
 | ca h=>cases h with
  | one h=>cases h with
   | rd h=>cases h;rfl
theorem WH {cs:List AV} {v:Value} (h:CV B S m (.agg cs) v) : ∃ vs:List Value,v = .agg vs.toArray/\CL B S m cs vs:=by
 cases h with
 | ca h=>cases h with
  | one h=>cases h with
   | rd h=>cases h
  | agg _ vs h=>exact ⟨vs,rfl,h⟩
theorem ZA {cs:List AV} {v:Value} (h:CV B S m (.tup cs) v) : ∃ vs:List Value,v = .tuple vs.toArray/\cs.length=vs.length /\ ∀ (j:Nat) (c:AV) (u:Value),cs[j]? = some c->vs[j]? = some u->CA B S m c u:=by
 cases h with
 | ca h=>cases h with
  | one h=>cases h with
   | rd h=>cases h
 | tup _ vs hl h=>exact ⟨vs,rfl,hl,h⟩
theorem M8 (k:IntKind) (n:Int):CV B S m (.int k n) (.int k n):= .ca (.one (.rd (.int k n)))
theorem UJ (b:Bool):CV B S m (.bool b) (.bool b):= .ca (.one (.rd (.bool b)))
theorem nQ:CV B S m (.tup []) undef := .tup [] [] rfl (fun j c v h=>by simp at h)
theorem WJ {a:AV} {cs:List AV} {v:Value} (h:CV B S m a v) (hc:cellsOf a=some cs):CL B S m cs v.cells.toList:=by
 cases h with
 | any v=>simp [cellsOf]at hc
 | tup=>simp [cellsOf]at hc
 | ca h=>cases h with
  | agg cs' vs h =>
   obtain rfl:cs'=cs:=by simpa [cellsOf] using hc
   simpa [Value.cells] using h
  | fn=>simp [cellsOf]at hc
  | one h =>
   have h1:v.cells.toList=[v]:=by
    cases h with
    | rd h=>cases h<;>rfl
    | _=>rfl
   have h2:cs=[a]:=by
    cases h with
    | rd h=>cases h<;>simp [cellsOf]at hc<;>exact hc.symm
    | _=>simp [cellsOf]at hc;exact hc.symm
   rw[h1,h2]
   refine ⟨rfl,fun j c u hj hu => ?_⟩
   cases j with
   | zero=>simp at hj hu;subst hj hu;exact h
   | succ j=>simp at hj
theorem xQ {cs:List AV} {vs:List Value} (h:CL B S m cs vs) : ∀ v∈vs,v.oneCell'=true:=by
 intro v hv
 obtain ⟨j,hj,rfl⟩:=List.getElem_of_mem hv
 have hj':j<cs.length:=by rw[h.1];exact hj
 exact (h.2 j cs[j] vs[j] (zE hj') (zE hj)).one
theorem gI {cs:List AV} {vs:List Value} (h:CL B S m cs vs) (off n:Nat):CL B S m ((cs.drop off).take n) ((vs.drop off).take n):=by
 refine ⟨by simp [h.1],fun j c v hj hv => ?_⟩
 rw[List.getElem?_take]at hj hv
 split at hj
 ·rename_i hlt
  rw[if_pos hlt]at hv
  rw[List.getElem?_drop]at hj hv
  exact h.2 _ c v hj hv
 ·cases hj
theorem jT {v:Value} {a:AV} (h:WQ v a=true):CC B S m a v:=by
 unfold WQ at h
 split at h
 ·simp only[Bool.and_eq_true,beq_iff_eq]at h
  obtain ⟨rfl,rfl⟩:=h
  exact .rd (.int _ _)
 ·obtain rfl:_=_:=by simpa using h
  exact .rd (.bool _)
 ·exact .nil
 ·rename_i s s'
  obtain rfl:s=s':=by
   have h':s.data.toList=s'.data.toList:=by simpa using h
   obtain ⟨⟨l⟩⟩:=s
   obtain ⟨⟨l'⟩⟩:=s'
   simp only at h'
   rw[h']
  exact .rd (.str _)
 ·cases h
theorem RY : ∀ {vs:List Value} {cs:List AV},OI vs cs=true->CL B S m cs vs
 | [],[],_=>⟨rfl,fun j c v h=>by simp at h⟩
 | v::r,c::l,h=>by
  simp only[OI,Bool.and_eq_true]at h
  have ih:=RY (vs:=r) (cs:=l) h.2
  refine ⟨by simp [ih.1],fun j c' v' hj hv => ?_⟩
  cases j with
  | zero=>simp at hj hv;subst hj hv;exact jT h.1
  | succ j=>exact ih.2 j c' v' (by simpa using hj) (by simpa using hv)
 | [],_::_,h=>by simp [OI]at h
 | _::_,[],h=>by simp [OI]at h
theorem AaI {v:Value} {a:AV} (h:ZR v a=true):CV B S m a v:=by
 unfold ZR at h
 split at h
 ·rename_i cs l
  have:=RY (B:=B) (S:=S) (m:=m) h
  exact .ca (by simpa using CA.agg l cs.toList this)
 ·exact .ca (.one (jT h))
def CS (B:Nat) (S:Nat->Prop) (m:M) (ρ:AQ->AV) (e:Operand->Value):Prop := ∀ x y,BO x y=true->CV B S m (ρ y) (e x)
theorem Agm {T:Nat->AV} {a:Act} {ρ:AQ->AV} (hρt : ∀ n,ρ (.t n)=T n) (hρc : ∀ v,ρ (.c v)=v) (h : ∀ i,CV B S m (T i) (a.tmps.getD i undef)):CS B S m ρ a.eval:=by
 intro x y hxy
 unfold BO at hxy
 split at hxy
 ·obtain rfl:_=_:=by simpa using hxy
  rw[hρt]
  exact h _
 ·rw[hρc]
  exact AaI hxy
 ·cases hxy
variable {P:Program} {num:Nat->Nat} {o:Oper} {a:Act} {ρ:AQ->AV} {K:Act->World->Prop} {Q:Exit->Act->World->Prop}
theorem MF {w w':World} {u:Value} (h:(execOp a.eval o).run P w = .ok (.value u) w') (hk:K (a.put o.dst u) w'):o.wp P a w K Q:=by
 unfold Oper.wp
 rw[h]
 exact hk
theorem Ag8 {w w':World} (h:(execOp a.eval o).run P w = .ok .skip w') (hk:K (a.put o.dst undef) w'):o.wp P a w K Q:=by
 unfold Oper.wp
 rw[h]
 exact hk
def CW (B:Nat) (S:Nat->Prop) (w0:World) (P:Program) (o:Oper) (a:Act) (m:M) (E:CP):Prop :=
 ∀ (K:Act->World->Prop) (Q:Exit->Act->World->Prop),(∀ u m',m'.own=E.ownOf m.own->BR B S w0 m'->DD B S m m'->CV B S m' (E.valOf m.own) u->K (a.put o.dst u) m'.w)->o.wp P a m.w K Q
theorem DY (hm:BR B S w0 m) {v:AV} {u:Value} (h:(execOp a.eval o).run P m.w = .ok (.value u) m.w) (hc:CV B S m v u):CW B S w0 P o a m (.val v) :=
 fun K Q hK=>MF h (hK u m rfl hm (DD.refl m) hc)
theorem Aam (hm:BR B S w0 m) (hs:CS B S m ρ a.eval) {y:AQ} (h:BA P num o.op (.mov y)=true):CW B S w0 P o a m (.val (ρ y)):=by
 obtain ⟨x,hx,he⟩:=AcR h
 refine DY hm (u:=a.eval x) ?_ (hs x y he)
 rcases hx with hx|hx<;>simp [execOp,hx]
theorem Aat (hm:BR B S w0 m) {s z:Nat} (h:BA P num o.op (.vrow s z)=true):CW B S w0 P o a m (.vir s ⟨z,[]⟩ (fun t => .row s t z 0 0)):=by
 obtain ⟨hx,hz⟩:=AcZ h
 intro K Q hK
 obtain ⟨h1,h2⟩:=sG hm s z
 refine MF (u := .slice none 0 0) (w':=m.w) ?_ (hK _ ⟨newν m s none,m.own.put s ((m.own s).new ⟨z,[]⟩),m.w⟩ rfl h1 h2 ?_)
 ·rcases hx with hx|hx<;>simp [execOp,hx,Act.eval]
 ·refine .ca (.one (.row s (m.own.cnt s) z 0 0 none 0 ?_ (by omega) (Nat.le_refl _) (fun h=>by omega) fun b hb => ?_))
  ·show _<AH.cnt _ s
   rw[M4];simp
  ·change AH.get _ s _=some b at hb
   rw[FU,if_pos ⟨rfl,rfl⟩]at hb
   obtain rfl:(⟨z,[]⟩:DN)=b:=by simpa using hb
   exact ⟨rfl,.inl ⟨rfl,rfl⟩⟩
theorem jA (hm:BR B S w0 m) (hs:CS B S m ρ a.eval) {c' a' b':AQ} (h:BA P num o.op (.pick c' a' b')=true) {t:Bool} (hc:ρ c' = .bool t) :
  CW B S w0 P o a m (.val (if t then ρ a' else ρ b')):=by
 obtain ⟨c,x,y,hop,h1,h2,h3⟩:=AcT h
 have hcv:=QC (hc ▸ hs c c' h1)
 refine DY hm (u:=if t then a.eval x else a.eval y) ?_ ?_
 ·cases t<;>simp [execOp,hop,hcv,asBool]
 ·cases t
  ·exact hs y b' h3
  ·exact hs x a' h2
theorem Agi (f:BinOp) (t:TypeId) (k k':IntKind) (x y:Int) (v:AV) (h:DG f k x k' y=some v) (w:World) : ∃ u,(binOp f t (.int k x) (.int k' y)).run P w = .ok u w/\((∃ n,v = .int k n/\u = .int k n) \/ ∃ b,v = .bool b/\u = .bool b):=by
 cases f<;>simp only[DG]at h
 case shl =>
  split at h
  ·cases h
  ·rename_i hy;simp at h;subst h
   exact ⟨_,by simp [binOp,Op.shift,hy],.inl ⟨_,rfl,rfl⟩⟩
 case shr =>
  split at h
  ·cases h
  ·rename_i hy;simp at h;subst h
   exact ⟨_,by simp [binOp,Op.shift,hy],.inl ⟨_,rfl,rfl⟩⟩
 case quo =>
  split at h
  ·rename_i hy;obtain ⟨rfl,hy⟩:=hy;simp at h;subst h
   exact ⟨_,by simp [binOp,Op.intDiv,hy],.inl ⟨_,rfl,rfl⟩⟩
  ·cases h
 case rem =>
  split at h
  ·rename_i hy;obtain ⟨rfl,hy⟩:=hy;simp at h;subst h
   exact ⟨_,by simp [binOp,Op.intDiv,hy],.inl ⟨_,rfl,rfl⟩⟩
  ·cases h
 case and|or|xor|andNot =>
  all_goals
   split at h
   ·rename_i hk;subst hk;obtain rfl:=Option.some.inj h
    exact ⟨_,by simp only[binOp,ne_eq,not_true_eq_false,if_false];rfl,.inl ⟨_,rfl,rfl⟩⟩
   ·cases h
 case add|sub|mul =>
  all_goals
   split at h
   ·rename_i hk;subst hk;obtain rfl:=Option.some.inj h
    exact ⟨_,by simp [binOp,Op.intArith],.inl ⟨_,rfl,rfl⟩⟩
   ·cases h
 all_goals
  split at h
  ·rename_i hk;subst hk;obtain rfl:=Option.some.inj h
   exact ⟨_,by simp [binOp,Op.intCmp],.inr ⟨_,rfl,rfl⟩⟩
  ·cases h
theorem Agd (f:BinOp) (t:TypeId) (x y:Operand) (k k':IntKind) (n n':Int) (w:World):(eqGuard f t x y (.int k n) (.int k' n')).run P w = .ok () w:=by
 unfold eqGuard
 cases f<;>simp
theorem Age (f:BinOp) (t:TypeId) (x y:Operand) (b b':Bool) (w:World):(eqGuard f t x y (.bool b) (.bool b')).run P w = .ok () w:=by
 unfold eqGuard
 cases f<;>simp
theorem zI (hm:BR B S w0 m) (hs:CS B S m ρ a.eval) {f:BinOp} {x' y':AQ} (h:BA P num o.op (.bin f x' y')=true) {k k':IntKind} {n n':Int} {v:AV} (hx:ρ x' = .int k n) (hy:ρ y' = .int k' n') (hv:DG f k n k' n'=some v) :
  CW B S w0 P o a m (.val v):=by
 obtain ⟨t,x,y,u,hop,h1,h2⟩:=Acz h
 have ex:=GR (hx ▸ hs x x' h1)
 have ey:=GR (hy ▸ hs y y' h2)
 obtain ⟨r,hr,hor⟩:=Agi (P:=P) f t k k' n n' v hv m.w
 refine DY hm (u:=r) ?_ ?_
 ·simp [execOp,hop,ex,ey,Agd,hr]
 ·rcases hor with ⟨q,rfl,rfl⟩|⟨q,rfl,rfl⟩
  ·exact M8 _ _
  ·exact UJ _
theorem Agg (t:TypeId) (b b':Bool) (hu:P.underlying t=some .bool) (w:World):(Op.equal t (.bool b) (.bool b')).run P w = .ok (b == b') w:=by
 have h : ∀ d:Nat,(Op.equalIn (d+1) t (.bool b) (.bool b')).run P w = .ok (b == b') w:=fun d=>by
  unfold Op.equalIn
  rw[Sem.run_bind,run_underlying hu]
  rfl
 exact h 9999
theorem zH (hm:BR B S w0 m) (hs:CS B S m ρ a.eval) {ne:Bool} {x' y':AQ} (h:BA P num o.op (.beq ne x' y')=true) {b b':Bool} (hx:ρ x' = .bool b) (hy:ρ y' = .bool b') :
  CW B S w0 P o a m (.val (.bool (if ne then !(b == b') else b == b'))):=by
 obtain ⟨t,x,y,u,hop,hu,h1,h2⟩:=Acy h
 have ex:=QC (hx ▸ hs x x' h1)
 have ey:=QC (hy ▸ hs y y' h2)
 refine DY hm (u := .bool (if ne then !(b == b') else b == b')) ?_ (UJ _)
 cases ne<;>simp [execOp,hop,ex,ey,Age,binOp,Agg t b b' hu]
theorem lN : ∀ {fs:List Field} {k n:Nat},fieldsI P k fs n=true->k<=n
 | [],k,n,h=>by simp only[fieldsI,beq_iff_eq]at h;omega
 | f::fs,k,n,h=>by
  simp only[fieldsI,Bool.and_eq_true]at h
  have:=lN h.2
  omega
theorem qB (d:Nat) (a b:List Int) (w:World) : ∀ {fs:List Field} {k:Nat},fieldsI P k fs a.length=true->b.length=a.length ->
  (Op.eqFields (d+1) (a.map (Value.int .i64)).toArray (b.map (Value.int .i64)).toArray fs).run P w = .ok (decide (a.drop k=b.drop k)) w
 | [],k,h,hl=>by
  simp only[fieldsI,beq_iff_eq]at h
  rw[List.drop_of_length_le (by omega),List.drop_of_length_le (by omega)]
  simp [Op.eqFields]
 | f::fs,k,h,hl=>by
  simp only[fieldsI,Bool.and_eq_true,bne_iff_ne,beq_iff_eq]at h
  obtain ⟨⟨⟨h1,h2⟩,h3⟩,h4⟩:=h
  have hk:=lN h4
  have hp:P.plainKey f.type=true:=by unfold Program.plainKey;split at h3<;>simp_all
  obtain ⟨kd,hu⟩ : ∃ kd,P.underlying f.type=some (.int kd):=by split at h3<;>simp_all
  have e1:(a.map (Value.int .i64)).toArray[f.offset]? = some (.int .i64 (a[k]'(by omega))):=by rw[h2];simp [zE (show k<a.length by omega)]
  have e2:(b.map (Value.int .i64)).toArray[f.offset]? = some (.int .i64 (b[k]'(by omega))):=by rw[h2];simp [zE (show k<b.length by omega)]
  have ih:=qB d a b w h4 hl
  have hd:(a.drop k=b.drop k)↔(a[k]'(by omega)=b[k]'(by omega)/\a.drop (k+1)=b.drop (k+1)):=by
   rw[List.drop_eq_getElem_cons (show k<a.length by omega),List.drop_eq_getElem_cons (show k<b.length by omega),List.cons.injEq]
  simp only[Op.eqFields,ne_eq,h1,not_false_eq_true,if_true,Sem.run_bind,run_part_plain w hp e1,run_part_plain w hp e2,Result.andThen_ok,run_equalIn_int w d f.type .i64 kd _ _ hu,Sem.run_ite]
  by_cases hab:a[k]'(by omega)=b[k]'(by omega)
  ·simp [hab,ih,hd]
  ·simp [hab,hd]
theorem aW : ∀ {cs:List AV} {a:List Int} {vs:List Value},HM cs=some a->CL B S m cs vs->vs=a.map (Value.int .i64)
 | [],a,vs,h,hc=>by
  simp only[HM,Option.some.injEq]at h
  subst h
  have:=hc.1
  exact List.eq_nil_of_length_eq_zero (by simpa using this.symm)
 | c::r,a,vs,h,hc=>by
  cases vs with
  | nil=>have:=hc.1;simp at this
  | cons v vs =>
   cases c with
   | int k n =>
    cases k<;>simp only[HM]at h<;>first|cases h|skip
    cases hr:HM r with
    | none=>rw[hr]at h;cases h
    | some b =>
     rw[hr]at h
     simp only[Option.map_some,Option.some.injEq]at h
     subst h
     have h0:=GR (.ca (.one (hc.2 0 _ v rfl rfl)))
     have ih:=aW (vs:=vs) hr ⟨by have:=hc.1;simpa using this,fun j c v h1 h2=>hc.2 (j+1) c v h1 h2⟩
     rw[h0,ih];rfl
   | _=>simp only[HM]at h;cases h
theorem zB (hm:BR B S w0 m) (hs:CS B S m ρ a.eval) {ne:Bool} {n:Nat} {x' y':AQ} (h:BA P num o.op (.aeq ne n x' y')=true) {cs ds:List AV} (hx:ρ x' = .agg cs) (hy:ρ y' = .agg ds) {p q:List Int} (hp:HM cs=some p) (hq:HM ds=some q) (hn:p.length=n/\q.length=n) :
  CW B S w0 P o a m (.val (.bool (if ne then !(decide (p=q)) else decide (p=q)))):=by
 obtain ⟨t,x,y,u,hop,hfl,h1,h2⟩:=Acs h
 obtain ⟨vx,ex,cx⟩:=WH (hx ▸ hs x x' h1)
 obtain ⟨vy,ey,cy⟩:=WH (hy ▸ hs y y' h2)
 obtain rfl:=aW hp cx
 obtain rfl:=aW hq cy
 obtain ⟨rfl,hql⟩:=hn
 simp only[aG,Bool.and_eq_true,Bool.not_eq_true']at hfl
 obtain ⟨⟨hf,hst⟩,hg⟩:=hfl
 obtain ⟨fs,hu,hfs⟩ : ∃ fs,P.underlying t=some (.struct fs)/\fieldsI P 0 fs.toList p.length=true:=by
  split at hf
  ·exact ⟨_,by assumption,hf⟩
  ·cases hf
 have hfo:P.fieldsOf t=fs:=by simp [Program.fieldsOf,hu]
 have hr:=run_equalIn_struct m.w 9999 t (p.map (Value.int .i64)).toArray (q.map (Value.int .i64)).toArray (by rw[hfo];exact hu) hst
 rw[hfo,qB 9998 p q m.w hfs hql,List.drop_zero,List.drop_zero]at hr
 refine DY hm (u := .bool (if ne then !(decide (p=q)) else decide (p=q))) ?_ (UJ _)
 cases ne
 ·simp [execOp,hop,ex,ey,run_eqGuard_agg m.w _ t x y _ _ hg,run_eql_struct,hr]
 ·simp [execOp,hop,ex,ey,run_eqGuard_agg m.w _ t x y _ _ hg,run_neq_struct,hr]
theorem Aas (hm:BR B S w0 m) (hs:CS B S m ρ a.eval) {f:UnOp} {x':AQ} (h:BA P num o.op (.un f x')=true) {v:AV} (hv:PU f (ρ x')=some v):CW B S w0 P o a m (.val v):=by
 obtain ⟨t,x,hop,h1⟩:=AcY h
 have hx:=hs x x' h1
 unfold PU at hv
 split at hv
 ·rename_i k n hk
  have ex:=GR (hk ▸ hx)
  split at hv
  ·obtain rfl:_=v:=by simpa using hv
   exact DY hm (by simp [execOp,hop,ex,Op.unary,Op.intArith]) (M8 _ _)
  ·obtain rfl:_=v:=by simpa using hv
   exact DY hm (by simp only[execOp,hop,ex,Op.unary];rfl) (M8 _ _)
  ·cases hv
 ·rename_i b hk
  have ex:=QC (hk ▸ hx)
  split at hv
  ·obtain rfl:_=v:=by simpa using hv
   exact DY hm (by simp [execOp,hop,ex,Op.unary]) (UJ _)
  ·cases hv
 ·cases hv
theorem zU (hm:BR B S w0 m) (hs:CS B S m ρ a.eval) {k:IntKind} {x':AQ} (h:BA P num o.op (.conv k x')=true) {k':IntKind} {n:Int} (hx:ρ x' = .int k' n):CW B S w0 P o a m (.val (.int k (k.wrap n))):=by
 obtain ⟨s,d,x,ds,hop,hds,hd,h1⟩:=AcI h
 have ex:=GR (hx ▸ hs x x' h1)
 refine DY hm (u := .int k (k.wrap n)) ?_ (M8 _ _)
 simp [execOp,hop,ex,convert,run_underlying hds,run_underlying hd,Conv.intToInt]
theorem Agh (t:TypeId) (a:Option Addr) (n c:Nat) {e:TypeId} (hu:P.underlying t=some (.slice e)) (w:World):(Op.equal t (.slice a n c) (.slice none 0 0)).run P w = .ok a.isNone w:=by
 have h : ∀ d:Nat,(Op.equalIn (d+1) t (.slice a n c) (.slice none 0 0)).run P w = .ok a.isNone w:=fun d=>by
  unfold Op.equalIn
  rw[Sem.run_bind,run_underlying hu]
  cases a<;>rfl
 exact h 9999
theorem Agf (f:BinOp) (t:TypeId) (x y:Operand) (a b:Option Addr) (n c n' c':Nat) (w:World):(eqGuard f t x y (.slice a n c) (.slice b n' c')).run P w = .ok () w:=by
 unfold eqGuard
 cases f<;>simp
theorem WP (hm:BR B S w0 m) (hs:CS B S m ρ a.eval) {ne:Bool} {x':AQ} (h:BA P num o.op (.isn ne x')=true) {b:Bool} (hx : ∀ v,CV B S m (ρ x') v -> ∃ ad n c,v = .slice ad n c/\ad.isNone=b) :
  CW B S w0 P o a m (.val (.bool (xor b ne))):=by
 obtain ⟨t,x,u,e,hop,hu,h1⟩:=AcN h
 obtain ⟨ad,n,c,ex,hb⟩:=hx _ (hs x x' h1)
 refine DY hm (u := .bool (xor b ne)) ?_ (UJ _)
 have e0:a.eval (.const (.slice none 0 0)) = .slice none 0 0:=rfl
 cases ne<;>cases b<;>simp [execOp,hop,ex,e0,Agf,binOp,Agh t ad n c hu,hb]
theorem OH {v:Value} (h:CV B S m .nil v):v = .slice none 0 0:=by
 cases h with
 | ca h=>cases h with
  | one h=>cases h with
   | rd h=>cases h
   | nil=>rfl
theorem iG {b:Bool} {v:Value} (h:CV B S m (.con (.bool b)) v) : ∃ ad c,v = .slice ad 0 c/\ad.isNone=b:=by
 cases h with
 | ca h=>cases h with
  | one h=>cases h with
   | rd h=>cases h with
    | emp b a cap h=>exact ⟨a,cap,rfl,h⟩
theorem yL {l:Bool} {e:List AV} {es:List (List AV)} {v:Value} (h:CV B S m (.sl l (e::es)) v) : ∃ ad n c,v = .slice ad n c/\ad.isNone=false:=by
 cases h with
 | ca h=>cases h with
  | one h=>cases h with
   | rd h=>cases h with
    | sl=>exact ⟨_,_,_,rfl,rfl⟩
theorem yK {s t z off n:Nat} {v:Value} (h:CV B S m (.row s t z off (n+1)) v) : ∃ ad n c,v = .slice ad n c/\ad.isNone=false:=by
 cases h with
 | ca h=>cases h with
  | one h=>cases h with
   | rd h=>cases h
   | row _ _ _ _ _ a cap _ _ _ ha=>exact ⟨_,_,_,rfl,by have:=ha (by omega);cases a<;>simp_all⟩
theorem Aao (hm:BR B S w0 m) (hs:CS B S m ρ a.eval) {tb:List Nat} {x':AQ} (h:BA P num o.op (.sidx tb x')=true) {k:IntKind} {n:Int} {v:Nat} (hx:ρ x' = .int k n) (h0:0<=n) (hv:tb[n.toNat]? = some v) :
  CW B S w0 P o a m (.val (.int .u8 v)):=by
 obtain ⟨t,s,i,hop,hu,htb,h1⟩:=AcU h
 have ex:=GR (hx ▸ hs i x' h1)
 have hb : ∃ b:UInt8,s[n.toNat]? = some b/\b.toNat=v:=by
  rw[<-htb,List.getElem?_map]at hv
  cases hg:s.data.toList[n.toNat]? with
  | none=>simp [hg]at hv
  | some b =>
   simp only[hg,Option.map_some,Option.some.injEq]at hv
   refine ⟨b,?_,hv⟩
   have hlt:n.toNat<s.size:=by
    have:=(zS hg).1
    simpa using this
   rw[getElem?_pos s n.toNat hlt]
   congr 1
   have:=(zS hg).2
   rw[<-this]
   rfl
 obtain ⟨b,hb1,hb2⟩:=hb
 refine DY hm (u := .int .u8 v) ?_ (M8 _ _)
 have e0:a.eval (.const (.string s)) = .string s:=rfl
 simp [execOp,hop,ex,e0,Instr.index,asIntOf,run_underlying hu,h0,hb1,hb2]
theorem AfJ {x c:AV} {v:Value} (h:CV B S m x v) (hc:GW x=some c):CC B S m c v:=by
 cases h with
 | any=>simp [GW]at hc
 | tup=>simp [GW]at hc
 | ca h=>cases h with
  | agg=>simp [GW]at hc
  | fn=>simp [GW]at hc
  | one h =>
   have:c=x:=by
    cases h with
    | rd h=>cases h<;>simp [GW]at hc<;>exact hc.symm
    | _=>simp [GW]at hc;exact hc.symm
   subst this
   exact h
theorem jS (hs:CS B S m ρ a.eval) : ∀ {xs:List Operand} {xs':List AQ} {cs:List AV},D5 xs xs'=true->xs'.mapM (fun x=>GW (ρ x))=some cs->CL B S m cs (xs.map a.eval)
 | [],[],cs,_,h=>by
  simp at h;subst h
  exact ⟨rfl,fun j c v h=>by simp at h⟩
 | x::r,y::l,cs,h,hc=>by
  simp only[D5,Bool.and_eq_true]at h
  simp only[List.mapM_cons,Option.bind_eq_bind,Option.pure_def]at hc
  cases h1:GW (ρ y) with
  | none=>simp [h1]at hc
  | some c =>
   cases h2:l.mapM (fun x=>GW (ρ x)) with
   | none=>simp [h1,h2]at hc
   | some cs' =>
    simp [h1,h2]at hc
    subst hc
    have ih:=jS hs h.2 h2
    refine ⟨by simpa using ih.1,fun j c' v hj hv => ?_⟩
    cases j with
    | zero =>
     simp at hj hv;subst hj hv
     exact AfJ (hs x y h.1) h1
    | succ j=>exact ih.2 j c' v (by simpa using hj) (by simpa using hv)
 | [],_::_,_,h,_=>by simp [D5]at h
 | _::_,[],_,h,_=>by simp [D5]at h
theorem Aaj (hm:BR B S w0 m) (hs:CS B S m ρ a.eval) {p:Bool} {f:Nat} {xs':List AQ} (h:BA P num o.op (.mkf p f xs')=true) {cs:List AV} (hc:xs'.mapM (fun x=>GW (ρ x))=some cs) :
  CW B S w0 P o a m (.val (.fn p f (num f) cs)):=by
 obtain ⟨first,xs,hop,rfl,he⟩:=AcQ h
 have hcl:=jS hs he hc
 have hmap:(xs.map a.eval)=(xs.toList.map a.eval).toArray:=by cases xs;simp
 refine DY hm (u := .func (.func (num f)) #[] (xs.toList.map a.eval).toArray) ?_ (.ca (.fn p f (num f) cs _ hcl))
 simp [execOp,hop,Instr.makeFunc,hmap]
end
end Go.Eng

namespace Go.Eng
open Go.RowKit
section
variable {B:Nat} {S:Nat->Prop} {w0:World} {m:M}
variable {P:Program} {num:Nat->Nat} {o:Oper} {a:Act} {ρ:AQ->AV}
theorem RS {cs:List AV} {vs:List Value} (h:CL B S m cs vs) {j:Nat} {c:AV} (hj:cs[j]? = some c) : ∃ u,vs[j]? = some u/\CC B S m c u:=by
 have hlt:j<cs.length:=(zS hj).1
 have hlt':j<vs.length:=by rw[<-h.1];exact hlt
 exact ⟨vs[j],zE hlt',h.2 j c _ hj (zE hlt')⟩
theorem AdA {s:Nat} {b:DN} {w':World} {g:Nat}:CV B S ⟨newν m s (some g),m.own.put s ((m.own s).new b),w'⟩ (.ptr s (m.own.cnt s) 0 0) (.pointer (some ⟨g,0,none⟩)):=by
 refine .ca (.one (.ptr s (m.own.cnt s) 0 0 ⟨g,0,none⟩ ?_ fun b' hb'=>⟨g,?_,by simp⟩))
 ·show _<AH.cnt _ s
  rw[M4];simp
 ·simp [newν]
theorem iZ (hm:BR B S w0 m) (s:Nat) (cs:List AV) (vs:Array Value) (e:TypeId) (hc:CL B S m cs vs.toList) (h:(execOp a.eval o).run P m.w = .ok (.value (.pointer (some ⟨m.w.heap.size,0,none⟩))) (m.w.alloc (.cells vs e))) :
  CW B S w0 P o a m (.new s ⟨cs.length,[cs]⟩ (fun t => .ptr s t 0 0)):=by
 intro K Q hK
 obtain ⟨h1,h2⟩:=TF hm s ⟨cs.length,[cs]⟩ vs e (by simp) (fun i cs' hi j c hj=>by
  cases i with
  | zero =>
   obtain rfl:cs=cs':=by simpa using hi
   obtain ⟨u,hu,hcc⟩:=RS hc hj
   exact ⟨u,by simpa using hu,hcc⟩
  | succ i=>simp at hi)
 exact MF h (hK _ ⟨newν m s (some m.w.heap.size),m.own.put s ((m.own s).new ⟨cs.length,[cs]⟩),m.w.alloc (.cells vs e)⟩ rfl h1 h2 AdA)
theorem zJ (hm:BR B S w0 m) (hs:CS B S m ρ a.eval) {s:Nat} {x':AQ} (h:BA P num o.op (.box s x')=true) {cs:List AV} (hc:cellsOf (ρ x')=some cs) :
  CW B S w0 P o a m (.new s ⟨cs.length,[cs]⟩ (fun t => .ptr s t 0 0)):=by
 obtain ⟨t,x,hop,h1⟩:=AcA h
 exact iZ hm s cs (a.eval x).cells t (WJ (hs x x' h1) hc) (by simp [execOp,hop,Instr.box,newVar,newRow])
theorem zC (hm:BR B S w0 m) {s:Nat} {z:List AV} (h:BA P num o.op (.alloc s z)=true):CW B S w0 P o a m (.new s ⟨z.length,[z]⟩ (fun t => .ptr s t 0 0)):=by
 obtain ⟨t,hop,h1⟩:=Acu h
 obtain ⟨i,v,hi,hz,he⟩:=dY h1
 exact iZ hm s z v.cells t (RY he) (by simp [execOp,hop,Instr.alloc,zeroValue,typeInfo,hi,hz,newVar,newRow])
theorem aK (off:Nat) : ∀ (vs:List Value) (k:Nat) (cells:Array Value),off+k+vs.length<=cells.size ->
  ((vs.zipIdx k).foldl (fun cs (x:Value × Nat)=>cs.setIfInBounds (off+x.2) x.1) cells).toList=cells.toList.take (off+k)++vs++cells.toList.drop (off+k+vs.length)
 | [],k,cells,_=>by simp
 | v::r,k,cells,h=>by
  simp only[List.length_cons]at h
  rw[List.zipIdx_cons,List.foldl_cons,aK off r (k+1) _ (by simp;omega)]
  simp only[Array.toList_setIfInBounds,List.length_cons]
  apply List.ext_getElem?
  intro q
  have e1:(cells.toList.set (off+k) v).drop (off+(k+1)+r.length)=cells.toList.drop (off+k+(r.length+1)):=by
   rw[show off+(k+1)+r.length=off+k+(r.length+1) by omega]
   exact List.drop_set_of_lt (by omega)
  have e2:(cells.toList.set (off+k) v).take (off+(k+1))=cells.toList.take (off+k)++[v]:=by
   rw[show off+(k+1)=off+k+1 by omega,List.take_succ_eq_append_getElem (by simp;omega)]
   simp [List.take_set_of_le]
  rw[e1,e2]
  simp
theorem aC (place:Nat->Option (Nat × Nat)) (hs:CS B S m ρ a.eval) : ∀ (ps:List (Nat × Operand)) (ps':List (Nat × Nat × AQ)) (cs cs':List AV) (vs:Array Value),QV place ps ps'=true->CL B S m cs vs.toList ->
  fill cs (ps'.map fun p=>(p.1,p.2.1,ρ p.2.2))=some cs' -> ∃ vs',Instr.fill place vs (ps.map fun p=>(p.1,a.eval p.2))=some vs'/\CL B S m cs' vs'.toList
 | [],[],cs,cs',vs,_,hc,hf=>by
  simp [fill]at hf
  subst hf
  exact ⟨vs,rfl,hc⟩
 | (i,x)::r,(off,n,y)::l,cs,cs',vs,hp,hc,hf=>by
  simp only[QV,Bool.and_eq_true,beq_iff_eq]at hp
  obtain ⟨⟨hp1,hp2⟩,hp3⟩:=hp
  simp only[List.map_cons,fill]at hf
  cases hcell:cellsOf (ρ y) with
  | none=>simp [hcell]at hf
  | some us =>
   simp only[hcell]at hf
   split at hf
   ·rename_i hn
    obtain ⟨hn1,hn2⟩:=hn
    have hcu:=WJ (hs x y hp2) hcell
    have hsz:(a.eval x).cells.size=n:=by rw[<-hn1,hcu.1];simp
    have hoff:off+(a.eval x).cells.size<=vs.size:=by rw[hsz];have:=hc.1;simp at this;omega
    have hfold:=aK off (a.eval x).cells.toList 0 vs (by simpa using hoff)
    have hstep:Instr.fill place vs (((i,x)::r).map fun p=>(p.1,a.eval p.2))=Instr.fill place ((a.eval x).cells.zipIdx.foldl (fun cs (c,j)=>cs.setIfInBounds (off+j) c) vs) (r.map fun p=>(p.1,a.eval p.2)):=by
     simp only[List.map_cons,Instr.fill,hp1]
     rw[if_neg (by simp;omega)]
    rw[hstep]
    refine aC place hs r l (splice cs off us) cs' _ hp3 ?_ hf
    have hz:((a.eval x).cells.zipIdx.foldl (fun cs (c,j)=>cs.setIfInBounds (off+j) c) vs).toList=vs.toList.take off++(a.eval x).cells.toList++vs.toList.drop (off+(a.eval x).cells.toList.length):=by
     rw[<-Array.foldl_toList]
     simpa using hfold
    rw[hz]
    unfold splice
    refine ⟨?_,fun j c v hj hv => ?_⟩
    ·have:=hc.1;have:=hcu.1;simp at *;omega
    ·have hl1:=hc.1
     have hl2:=hcu.1
     simp only[Array.length_toList]at hl1 hl2
     rw[List.getElem?_append]at hj hv
     simp only[List.length_append,List.length_take,Array.length_toList]at hj hv
     rw[List.getElem?_append]at hj hv
     simp only[List.length_take,Array.length_toList]at hj hv
     have hm1:min off cs.length=off:=by omega
     have hm2:min off vs.size=off:=by omega
     rw[hm1]at hj
     rw[hm2]at hv
     rw[<-hl2]at hv
     split at hj
     ·rename_i h1
      rw[if_pos h1]at hv
      split at hj
      ·rename_i h2
       rw[if_pos h2]at hv
       rw[List.getElem?_take]at hj hv
       rw[if_pos h2]at hj hv
       exact hc.2 j c v hj hv
      ·rename_i h2
       rw[if_neg h2]at hv
       exact hcu.2 _ c v hj hv
     ·rename_i h1
      rw[if_neg h1]at hv
      rw[List.getElem?_drop]at hj hv
      exact hc.2 _ c v hj hv
   ·cases hf
 | [],_::_,_,_,_,hp,_,_=>by simp [QV]at hp
 | _::_,[],_,_,_,hp,_,_=>by simp [QV]at hp
theorem zL (hm:BR B S w0 m) (hs:CS B S m ρ a.eval) {z:List AV} {ps':List (Nat × Nat × AQ)} (h:BA P num o.op (.build z ps')=true) {cs:List AV} (hf:fill z (ps'.map fun p=>(p.1,p.2.1,ρ p.2.2))=some cs) :
  CW B S w0 P o a m (.val (.agg cs)):=by
 obtain ⟨t,ps,hop,h1,h2⟩:=AcC h
 obtain ⟨i,v,hi,hz,he⟩:=dY h1
 have key : ∃ vs',P.built t (ps.map fun p=>(p.1,a.eval p.2)).toList=some vs'/\CL B S m cs vs'.toList:=by
  unfold Y0 at h2
  unfold Program.built
  split at h2
  ·rename_i fs hu
   split at h2
   ·rename_i places hp
    obtain ⟨vs',h3,h4⟩:=aC _ hs ps.toList ps' z cs v.cells h2 (RY he) hf
    refine ⟨vs',?_,h4⟩
    simp only[hi,hu,hz,hp,Array.toList_map]
    exact h3
   ·cases h2
  ·rename_i n e hu
   split at h2
   ·rename_i ie hie
    obtain ⟨vs',h3,h4⟩:=aC _ hs ps.toList ps' z cs v.cells h2 (RY he) hf
    refine ⟨vs',?_,h4⟩
    simp only[hi,hu,hz,hie,Array.toList_map]
    exact h3
   ·cases h2
  ·cases h2
 obtain ⟨vs',h3,h4⟩:=key
 refine DY hm (u := .agg vs') ?_ (.ca (by simpa using CA.agg cs vs'.toList h4))
 simp only[execOp,hop,Sem.run_bind]
 rw[run_build m.w t _ vs' h3]
 rfl
theorem lP (size:Nat) (hs:CS B S m ρ a.eval) : ∀ (ps:List (Nat × Operand)) (ps':List AQ) (k:Nat) (es:List (List AV)) (vs:Array Value),QI k ps ps'=true->ps'.mapM (fun x=>cellsOf (ρ x))=some es->(∀ e∈es,e.length=size)->vs.size=(k+ps'.length)*size ->
  ∃ vs',Instr.fill (fun i=>some (i*size,size)) vs (ps.map fun p=>(p.1,a.eval p.2))=some vs'/\vs'.size=vs.size/\(∀ q,q<k*size->vs'[q]? = vs[q]?) /\ ∀ i cs,es[i]? = some cs -> ∀ j c,cs[j]? = some c -> ∃ u,vs'[(k+i)*size+j]? = some u/\CC B S m c u
 | [],[],k,es,vs,_,hes,_,_=>by
  simp at hes
  subst hes
  exact ⟨vs,rfl,rfl,fun _ _=>rfl,fun i cs hi=>by simp at hi⟩
 | (i,x)::r,y::l,k,es,vs,he,hes,hz,hv=>by
  simp only[QI,Bool.and_eq_true,beq_iff_eq]at he
  obtain ⟨⟨rfl,h1⟩,h2⟩:=he
  simp only[List.mapM_cons,Option.bind_eq_bind,Option.pure_def]at hes
  cases hcell:cellsOf (ρ y) with
  | none=>simp [hcell]at hes
  | some us =>
   cases hrest:l.mapM (fun x=>cellsOf (ρ x)) with
   | none=>simp [hcell,hrest]at hes
   | some es' =>
    simp [hcell,hrest]at hes
    subst hes
    have hcu:=WJ (hs x y h1) hcell
    have hus:us.length=size:=hz us (by simp)
    have hsz:(a.eval x).cells.size=size:=by rw[<-hus,hcu.1];simp
    simp only[List.length_cons]at hv
    have hle:i*size+size<=vs.size:=by rw[hv,show i+(l.length+1)=i+1+l.length by omega,Nat.add_mul,Nat.add_mul];omega
    have hfold:=aK (i*size) (a.eval x).cells.toList 0 vs (by simp [hsz];omega)
    generalize hvs1:(a.eval x).cells.zipIdx.foldl (fun cs (c,j)=>cs.setIfInBounds (i*size+j) c) vs=vs1
    have hz1:vs1.toList=vs.toList.take (i*size)++(a.eval x).cells.toList++vs.toList.drop (i*size+size):=by
     rw[<-hvs1,<-Array.foldl_toList]
     simpa [hsz] using hfold
    have hs1:vs1.size=vs.size:=by
     have:=congrArg List.length hz1
     simp [hsz]at this
     omega
    obtain ⟨vs',h3,h4,h5,h6⟩:=lP size hs r l (i+1) es' vs1 h2 hrest (fun e he=>hz e (by simp [he])) (by rw[hs1,hv];congr 1;omega)
    refine ⟨vs',?_,h4.trans hs1,fun q hq => ?_,fun i' cs hi' j c hj => ?_⟩
    ·simp only[List.map_cons,Instr.fill]
     rw[if_neg (by simp [hsz];omega),hvs1]
     exact h3
    ·rw[h5 q (by rw[Nat.add_mul];omega)]
     have:vs1.toList[q]? = vs.toList[q]? := by
      rw[hz1,List.append_assoc,List.getElem?_append_left (by simp;omega),List.getElem?_take,if_pos hq]
     simpa using this
    ·cases i' with
     | zero =>
      obtain rfl:us=cs:=by simpa using hi'
      obtain ⟨u,hu,hcc⟩:=RS hcu hj
      have hjl:j<size:=by rw[<-hus];exact (zS hj).1
      refine ⟨u,?_,hcc⟩
      rw[Nat.add_zero,h5 _ (by rw[Nat.add_mul];omega)]
      have:vs1.toList[i*size+j]? = some u:=by
       rw[hz1,List.append_assoc,List.getElem?_append_right (by simp;omega)]
       simp only[List.length_take,Array.length_toList,show min (i*size) vs.size=i*size by omega,show i*size+j-i*size=j by omega]
       rw[List.getElem?_append_left (by simp [hsz];omega)]
       exact hu
      simpa using this
     | succ i' =>
      obtain ⟨u,hu,hcc⟩:=h6 i' cs (by simpa using hi') j c hj
      exact ⟨u,by rw[show i+(i'+1)=i+1+i' by omega];exact hu,hcc⟩
 | [],_::_,_,_,_,he,_,_,_=>by simp [QI]at he
 | _::_,[],_,_,_,he,_,_,_=>by simp [QI]at he
theorem W9 {s z n cap:Nat} {es:List (List AV)} {w':World} {g:Nat} {arr:Array Value} {e:TypeId} (hz:0<z) (hn:n<=cap) (hg:w'.heap[g]? = some (.cells arr e (0,0))) (hc:cap*z<=arr.size) :
  CV B S ⟨newν m s (some g),m.own.put s ((m.own s).new ⟨z,es⟩),w'⟩ (.row s (m.own.cnt s) z 0 n) (.slice (some ⟨g,0,none⟩) n cap):=by
 refine .ca (.one (.row s (m.own.cnt s) z 0 n _ cap ?_ hz hn (fun _=>rfl) fun b' hb'=>⟨?_,.inr ⟨g,arr,e,?_,by simp,hg,by simpa using hc⟩⟩))
 ·show _<AH.cnt _ s
  rw[M4];simp
 ·change AH.get _ s _=some b' at hb'
  rw[FU,if_pos ⟨rfl,rfl⟩]at hb'
  obtain rfl:(⟨z,es⟩:DN)=b':=by simpa using hb'
  rfl
 ·simp [newν]
theorem jC (hm:BR B S w0 m) (s z n cap:Nat) (es:List (List AV)) (vs:Array Value) (e:TypeId) (hz0:0<z) (hn:n<=cap) (hsz:cap*z<=vs.size) (hz : ∀ x∈es,x.length=z)
  (hc : ∀ i cs,es[i]? = some cs -> ∀ j c,cs[j]? = some c -> ∃ u,vs[i*z+j]? = some u/\CC B S m c u)
  (h:(execOp a.eval o).run P m.w = .ok (.value (.slice (some ⟨m.w.heap.size,0,none⟩) n cap)) (m.w.alloc (.cells vs e))) :
  CW B S w0 P o a m (.new s ⟨z,es⟩ (fun t => .row s t z 0 n)):=by
 intro K Q hK
 obtain ⟨h1,h2⟩:=TF hm s ⟨z,es⟩ vs e hz hc
 exact MF h (hK _ ⟨newν m s (some m.w.heap.size),m.own.put s ((m.own s).new ⟨z,es⟩),m.w.alloc (.cells vs e)⟩ rfl h1 h2 (W9 hz0 hn (heap_alloc_new _ _) hsz))
theorem zK (hm:BR B S w0 m) (hs:CS B S m ρ a.eval) {s esz:Nat} {ps':List AQ} (h:BA P num o.op (.bslice s esz ps')=true) {es:List (List AV)} (hes:ps'.mapM (fun x=>cellsOf (ρ x))=some es) (hz : ∀ e∈es,e.length=esz) :
  CW B S w0 P o a m (.new s ⟨esz,es⟩ (fun t => .row s t esz 0 es.length)):=by
 obtain ⟨t,n,ps,e,i,hop,hu,hi,hsz,h0,hn,hsmall,hel,hzero⟩:=AcB h
 have hlen:es.length=n:=by
  rw[hn]
  clear h hel hzero hn
  induction ps' generalizing es with
  | nil=>simp at hes;subst hes;rfl
  | cons y l ih =>
   simp only[List.mapM_cons,Option.bind_eq_bind,Option.pure_def]at hes
   cases hcell:cellsOf (ρ y) with
   | none=>simp [hcell]at hes
   | some us =>
    cases hrest:l.mapM (fun x=>cellsOf (ρ x)) with
    | none=>simp [hcell,hrest]at hes
    | some es' =>
     simp [hcell,hrest]at hes
     subst hes
     simp [ih hrest (fun e he=>hz e (by simp [he]))]
 obtain ⟨zc,hzc⟩ : ∃ zc:Array Value,(n*esz=0/\zc = #[])\/(¬ n*esz=0 /\ ∃ z,i.zero=some z/\zc=z.cells):=by
  by_cases hne:n*esz=0
  ·exact ⟨#[],.inl ⟨hne,rfl⟩⟩
  ·rcases hzero with h0'|⟨z,hz1,hz2⟩
   ·simp [h0']at hne
   ·exact ⟨z.cells,.inr ⟨hne,z,hz1,rfl⟩⟩
 have hzsz:((Array.range (n*esz)).map (zc[· % zc.size]!)).size=n*esz:=by simp
 obtain ⟨vs',h3,h4,_,h6⟩:=lP esz hs ps.toList ps' 0 es _ hel hes hz (by rw[hzsz,hn];simp)
 have hrun:(execOp a.eval o).run P m.w = .ok (.value (.slice (some ⟨m.w.heap.size,0,none⟩) n n)) (m.w.alloc (.cells vs' e)):=by
  simp only[execOp,hop,Instr.buildSlice,Sem.run_bind,run_underlying hu,Result.andThen_ok,sizeOf,typeInfo,run_program,hi,Sem.run_pure,hsz]
  simp only[show ¬ (n*esz>2^24) from by omega,if_false,Sem.run_bind,Sem.run_pure,Result.andThen_ok]
  rcases hzc with ⟨h0',rfl⟩|⟨h0',z,hz1,rfl⟩
  ·simp only[h0',if_true,Sem.run_bind,Sem.run_pure,Result.andThen_ok,Array.toList_map]
   rw[h0']at h3
   rw[h3]
   rfl
  ·simp only[h0',if_false,Sem.run_bind,Sem.run_pure,Result.andThen_ok,Array.toList_map,zeroValue,typeInfo,run_program,hi,hz1]
   rw[h3]
   rfl
 rw[hlen]
 exact jC hm s esz n n es vs' e (Nat.pos_of_ne_zero h0) (Nat.le_refl _) (by rw[h4,hzsz];exact Nat.le_refl _) hz (fun i cs hi' j c hj=>by simpa using h6 i cs hi' j c hj) hrun
end
end Go.Eng
