/-
  The abstract machine: data without memory. AV: a value; slices that are only read are lists ('sl'), rows and boxes of the call's own are named by a site and a stamp.
  Nothing here speaks of a program; EngSound ties it to the model.
-/
import Derived.Calls
import Derived.Below
import Derived.Laws.CopyRow
import Derived.Laws.Cells
import Derived.Laws.MakeOwn
import Derived.Laws.AppendOwn
import Derived.Deep.AppendSrc
import Derived.Deep.Draws
import Derived.ArgAppend
import Derived.Laws.StructEq
import Derived.ChangeKeysEq
set_option linter.unusedSimpArgs false
set_option linter.unusedVariables false
set_option linter.unnecessarySimpa false
namespace Go.b7
theorem zE {α : Type} {l : List α} {i : Nat} (h : i < l.length) : l[i]? = some l[i] :=
 List.getElem?_eq_getElem h
theorem zS {α : Type} {l : List α} {i : Nat} {a : α} (h : l[i]? = some a) : ∃ h : i < l.length, l[i] = a :=
 List.getElem?_eq_some_iff.1 h
theorem zM {α : Type} {l : List α} {i : Nat} {a : α} (h : l[i]? = some a) : a ∈ l :=
 List.mem_of_getElem? h
end Go.b7
namespace Go.b7
inductive AV where
 | int (k:IntKind) (n:Int)
 | bool (b:Bool)
 | sl (l:Bool) (es:List (List AV))
 | row (s t z off len:Nat)
 | nil
 | ptr (s t i j:Nat)
 | q8 (cs:List AV)
 | agg (cs:List AV)
 | g8 (vs:List AV)
 | x9 (v:Value)
 | fn (p:Bool) (f g:Nat) (cs:List AV)
 | any
 deriving Inhabited
inductive AP where
 | t (n:Nat)
 | c (v:AV)
 deriving Inhabited
structure DY where
 a9:Nat
 es:List (List AV)
structure CD where
 g7:Nat
 c9:Nat->Option DY
def AH:=Nat->CD
def AH.emp:AH:=λ_=>⟨0,λ_=>none⟩
def AH.put (o:AH) (s:Nat) (x:CD):AH:=λ s'=>if s'=s then x else o s'
def AH.get (o:AH) (s t:Nat):Option DY:=(o s).c9 t
def AH.g7 (o:AH) (s:Nat):Nat:=(o s).g7
def CD.n9 (x:CD) (t:Nat) (b:Option DY):CD:=⟨x.g7,λ t'=>if t'=t then b else x.c9 t'⟩
def CD.new (x:CD) (b:DY):CD:=⟨x.g7+1,λ t'=>if t'=x.g7 then some b else x.c9 t'⟩
theorem AH.j5 (o:AH) (s:Nat) (x:CD):o.put s x s=x:=by simp [AH.put]
theorem AH.dd (o:AH) (s s':Nat) (x:CD) (h:s'≠s):o.put s x s'=o s':=by simp [AH.put,h]
theorem AH.ig (o:AH) (s:Nat) (x y:CD):(o.put s x).put s y=o.put s y:=by
 funext s';by_cases h:s'=s<;>simp [AH.put,h]
inductive DR where
 | a8 (x:AP)
 | x8 (s a9:Nat)
 | pick (c a b:AP)
 | bin (op:BinOp) (x y:AP)
 | beq (ne:Bool) (x y:AP)
 | un (op:UnOp) (x:AP)
 | conv (k:IntKind) (x:AP)
 | box (s:Nat) (x:AP)
 | alloc (s:Nat) (zero:List AV)
 | build (zero:List AV) (parts:List (Nat × Nat × AP))
 | b8 (s a9:Nat) (parts:List AP)
 | a5 (x:AP) (off:Nat)
 | jy (x:AP) (off n:Nat) (agg:Bool)
 | a7 (arr:Option Nat) (a9:Nat) (x i:AP)
 | ld (agg:Bool) (n:Nat) (x:AP)
 | st (n:Nat) (x v:AP)
 | mk (s a9 bytes:Nat) (zero:List AV) (l c:AP)
 | bz (a9:Nat) (x:AP) (lo hi:Option AP)
 | ext (x:AP) (i:Nat)
 | len (x:AP)
 | mm (max:Bool) (xs:List AP)
 | app (s a9 bytes:Nat) (x y:AP)
 | call (f:Nat) (xs:List AP)
 | e9 (f:Nat) (xs:List AP)
 | nr (ne:Bool) (x:AP)
 | de (tb:List Nat) (x:AP)
 | ki (p:Bool) (f:Nat) (xs:List AP)
 | m6 (x:AP) (xs:List AP)
 | l8 (f:Nat) (xs:List AP)
 | kj (s n:Nat) (x v:AP)
 | o8 (s f:Nat) (xs:List AP)
 | z7 (s f:Nat) (xs:List AP)
 | bad
 deriving Inhabited
structure AI where
 dst:Option Nat
 op:DR
 guard:Option (Nat × Bool):=none
 c4:List Nat:=[]
 deriving Inhabited
inductive BD where
 | skip
 | ops (l:List AI) (draw:Bool)
 | dr (c:BD) (ts ss:List Nat)
 | scope (c:BD)
 | seq (a b:BD)
 | cond (c:AP) (a b:BD)
 | block (id:Nat) (c:BD)
 | loop (c:BD)
 | exit (id:Nat)
 | ret
 deriving Inhabited
inductive JN where
 | tmp (t:Nat)
 | cell (t:Nat) (agg:Bool) (n:Nat)
 deriving Inhabited
structure AFn where
 x5:Nat
 body:BD
 res:List JN
 mc:Bool
abbrev Tm:=List (Nat × AV)
def g6:Tm->Nat->AV
 | [],_ => .any
 | (i,v)::r,j=>if j=i then v else g6 r j
def ff:Tm->Nat->AV->Tm
 | [],j,u=>[(j,u)]
 | (i,v)::r,j,u=>if j=i then (i,u)::r else if j<i then (j,u)::(i,v)::r else (i,v)::ff r j u
def w4:Tm->List Nat->Tm
 | [],_=>[]
 | (i,v)::r,l=>if l.contains i then w4 r l else (i,v)::w4 r l
theorem WL (m:Tm) (i:Nat) (v:AV) (j:Nat):g6 (ff m i v) j=if j=i then v else g6 m j:=by
 induction m with
 | nil=>by_cases h:j=i<;>simp [ff,g6,h]
 | cons x r ih =>
  obtain ⟨a,u⟩:=x;by_cases h:i=a
  ·subst h
   by_cases h2:j=i<;>simp [ff,g6,h2]
  ·by_cases k6:i<a
   ·by_cases h2:j=i<;>simp [ff,g6,h,k6,h2]
   ·by_cases h2:j=a
    ·subst h2
     have : ¬ j=i:=λ e=>h e.symm
     simp [ff,g6,h,k6,this]
    ·simp [ff,g6,h,k6,h2,ih]
structure St where
 tm:Tm
 own:AH
def St.ev (st:St):AP->AV
 | .t n=>g6 st.tm n
 | .c v=>v
inductive CG where
 | val (v:AV)
 | new (s:Nat) (b:DY) (v:Nat->AV)
 | uf (s:Nat) (b:DY) (v:Nat->AV)
 | al (v:AV) (own:AH)
 | n9 (s:Nat) (x:CD)
 | rz (s:Nat) (x:CD) (v:AV)
def cellsOf:AV->Option (List AV)
 | .agg cs=>some cs
 | .fn _ _ _ _=>none
 | .g8 _=>none
 | .any=>none
 | v=>some [v]
def KL (agg:Bool) (cs:List AV):Option AV :=
 if agg then some (.agg cs) else match cs with|[c]=>some c|_=>none
def part (cs:List AV) (off n:Nat):Option (List AV) :=
 if off+n<=cs.length then some ((cs.drop off).take n) else none
def splice (cs:List AV) (off:Nat) (vs:List AV):List AV:=cs.take off++vs++cs.drop (off+vs.length)
def fill (cells:List AV):List (Nat × Nat × AV)->Option (List AV)
 | []=>some cells
 | (off,n,v)::r=>match cellsOf v with
  | some vs=>if vs.length=n/\off+n<=cells.length then fill (splice cells off vs) r else none
  | none=>none
def DB (op:BinOp) (k:IntKind) (a:Int) (k':IntKind) (b:Int):Option AV :=
 match op with
 | .shl=>if b<0 then none else some (.int k (k.wrap (a*2^(min b.toNat k.bits))))
 | .shr=>if b<0 then none else some (.int k (a.fdiv (2^(min b.toNat k.bits))))
 | .add=>if k=k' then some (.int k (k.wrap (a+b))) else none
 | .sub=>if k=k' then some (.int k (k.wrap (a-b))) else none
 | .mul=>if k=k' then some (.int k (k.wrap (a*b))) else none
 | .quo=>if k=k'/\b≠0 then some (.int k (k.wrap (a.tdiv b))) else none
 | .rem=>if k=k'/\b≠0 then some (.int k (a.tmod b)) else none
 | .and=>if k=k' then some (.int k (k.wrap (BitVec.ofInt k.bits a &&& BitVec.ofInt k.bits b).toNat)) else none
 | .or=>if k=k' then some (.int k (k.wrap (BitVec.ofInt k.bits a ||| BitVec.ofInt k.bits b).toNat)) else none
 | .xor=>if k=k' then some (.int k (k.wrap (BitVec.ofInt k.bits a ^^^ BitVec.ofInt k.bits b).toNat)) else none
 | .andNot=>if k=k' then some (.int k (k.wrap (BitVec.ofInt k.bits a &&& ~~~ BitVec.ofInt k.bits b).toNat)) else none
 | .eql=>if k=k' then some (.bool (a == b)) else none
 | .neq=>if k=k' then some (.bool (a != b)) else none
 | .lss=>if k=k' then some (.bool (decide (a<b))) else none
 | .leq=>if k=k' then some (.bool (decide (a<=b))) else none
 | .gtr=>if k=k' then some (.bool (decide (a>b))) else none
 | .geq=>if k=k' then some (.bool (decide (a≥b))) else none
def Q1 (op:UnOp):AV->Option AV
 | .int k n=>match op with
  | .neg=>some (.int k (k.wrap (0-n)))
  | .xor=>some (.int k (k.wrap (BitVec.ofInt k.bits (if k.signed then -1 else k.max) ^^^ BitVec.ofInt k.bits n).toNat))
  | _=>none
 | .bool b=>match op with
  | .not=>some (.bool (!b))
  | _=>none
 | _=>none
def PZ (max:Bool):AV->AV->Option AV
 | .int k a,.int _ b=>some (.int k (if max then (if b>a then b else a) else (if b<a then b else a)))
 | _,_=>none
def KI (max:Bool):AV->List AV->Option AV
 | v,[]=>some v
 | v,u::r=>match PZ max v u with|some x=>KI max x r|none=>none
def AH.m5 (o:AH):List Nat->AH
 | []=>o
 | s::r=>λ s'=>if s'=s then ⟨0,λ_=>none⟩ else o.m5 r s'
def AH.ma (own:AH) (s t i j n:Nat):Option (List AV) :=
 match own.get s t with
 | some b=>match b.es[i]? with
  | some cs=>part cs j n
  | none=>none
 | none=>none
def AH.ij (own:AH) (s t i j:Nat) (vs:List AV):Option AH :=
 match own.get s t with
 | some b=>match b.es[i]? with
  | some cs=>if j+vs.length<=cs.length then some (own.put s ((own s).n9 t (some ⟨b.a9,b.es.set i (splice cs j vs)⟩))) else none
  | none=>none
 | none=>none
def EH (own:AH):AV->Option (List (List AV))
 | .sl _ es=>some es
 | .nil=>some []
 | .x9 (.bool _)=>some []
 | .row s t z off len=>match own.get s t with
  | some b=>if off+len<=b.es.length/\b.a9=z then some ((b.es.drop off).take len) else none
  | none=>none
 | _=>none
def PX:AV->Option Nat
 | .sl _ es=>some es.length
 | .nil=>some 0
 | .row _ _ _ _ len=>some len
 | _=>none
def snap (own:AH) (l:Bool):Nat->AV->Option AV
 | _,.int k n=>some (.int k n)
 | _,.bool b=>some (.bool b)
 | _,.sl l' es=>some (.sl l' es)
 | _,.nil=>some (.sl false [])
 | _,.x9 v=>some (.x9 v)
 | d+1,.row s t z off len=>match EH own (.row s t z off len) with
  | some es=>(es.mapM (λ cs:List AV=>cs.mapM (snap own l d))).map (AV.sl l)
  | none=>none
 | _,_=>none
def CY (own:AH) (l:Bool):AV->Option AV
 | .agg cs=>(cs.mapM (snap own l 6)).map AV.agg
 | v=>snap own l 6 v
def O5 (own:AH) (l:Bool):AV->Option AV
 | .nil=>some .nil
 | v=>CY own l v
def QZ (own:AH) (l:Bool):AV->Option AV
 | .g8 cs=>(cs.mapM (CY own l)).map AV.g8
 | v=>CY own l v
mutual
def A4:AV->Prop
 | .int _ _=>True
 | .bool _=>True
 | .x9 _=>True
 | .sl l es=>l=false/\EN es
 | .agg cs=>CB cs
 | .g8 cs=>CB cs
 | _=>False
def CB:List AV->Prop
 | []=>True
 | c::r=>A4 c/\CB r
def EN:List (List AV)->Prop
 | []=>True
 | c::r=>CB c/\EN r
end
def EZ:Nat:=140737488355328
structure Cl where
 pure:Nat->List AV->Option AV
 dm:Nat->List AV->AH->Option (AV × AH)
 num:Nat->Nat
noncomputable def W7 (C:Cl) (f:Nat) (vs:List AV) (s:Nat) (q:CD):Option (AV × CD) :=
 open Classical in if h : ∃ p : AV × CD, ∀ o : AH, o s = q -> C.dm f vs o = some (p.1, o.put s p.2) then some h.choose else none
theorem W8 {C:Cl} {f:Nat} {vs:List AV} {s:Nat} {q:CD} {p:AV × CD}:W7 C f vs s q=some p ↔ ∀ o:AH,o s=q->C.dm f vs o=some (p.1,o.put s p.2):=by
 unfold W7;constructor
 ·intro h
  split at h
  ·rename_i hx
   obtain rfl:=Option.some.inj h;exact hx.choose_spec
  ·cases h
 ·intro h
  rw[dif_pos ⟨p,h⟩];have h1:=(⟨p,h⟩ : ∃ p:AV × CD,∀ o:AH,o s=q->C.dm f vs o=some (p.1,o.put s p.2)).choose_spec (λ_=>q) rfl;have h2:=h (λ_=>q) rfl;have h3:=Option.some.inj (h2.symm.trans h1);refine congrArg some ?_;generalize (Exists.choose _:AV × CD)=p' at h3;obtain ⟨a,b⟩:=p;obtain ⟨a',b'⟩:=p';simp only[Prod.mk.injEq]at h3;obtain ⟨h4,h5⟩:=h3;have h6:b=b':=by
   have:=congrFun h5 s
   simpa [AH.put] using this
  rw[h4,h6]
def UB:AV->AV
 | .sl _ es => .sl false es
 | .nil => .sl false []
 | v=>v
def ry:AV->AV
 | .agg cs => .agg (cs.map UB)
 | v=>UB v
def VQ:AV->AV
 | .sl _ es => .sl true es
 | v=>v
def uc:AV->AV
 | .agg cs => .agg (cs.map VQ)
 | v=>VQ v
mutual
def GM:AV->AV
 | .sl _ es => .sl true (JR es)
 | v=>v
def HR:List AV->List AV
 | []=>[]
 | c::r=>GM c::HR r
def JR:List (List AV)->List (List AV)
 | []=>[]
 | c::r=>HR c::JR r
end
def KG:AV->AV
 | .agg cs => .agg (HR cs)
 | v=>GM v
def Q4:AV->Prop
 | .g8 _=>False
 | .fn _ _ _ _=>False
 | _=>True
def GK:AV->Bool
 | .int _ _=>true | .bool _=>true | .sl _ _=>true | .nil=>true
 | _=>false
def dq:AV->Bool
 | .agg cs=>cs.all GK
 | v=>GK v
def eB:AV->Bool
 | .int _ _=>true | .bool _=>true
 | _=>false
def UI:AV->Prop
 | .int _ _=>True
 | .bool _=>True
 | .sl _ es => ∀ e∈es,∀ c∈e,eB c=true
 | _=>False
def IE:AV->Prop
 | .agg cs => ∀ c∈cs,UI c
 | v=>UI v
open Classical in
noncomputable def LM (r:AV):AV:=if IE r then uc r else KG r
theorem dQ {r:AV} (h:IE r):LM r=uc r:=if_pos h
theorem dP {r:AV} (h : ¬ IE r):LM r=KG r:=if_neg h
def dH:List AV->Option (List Int)
 | []=>some []
 | .int .i64 n::r=>(dH r).map (n :: ·)
 | _=>none
def G0:AV->Option AV
 | .agg _=>none
 | .fn _ _ _ _=>none
 | .g8 _=>none
 | .any=>none
 | v=>some v
open Classical in
noncomputable def ON (x:Option (AV × AH)):Option (Nat × List (List AV)):=match x with
 | some (.row s t z 0 n,o)=>match o.get s t with
  | some b=>if b.es.length=n/\EN b.es then some (z,b.es) else none
  | none=>none
 | _=>none
theorem yW {x:Option (AV × AH)} {z:Nat} {es:List (List AV)} (h:ON x=some (z,es)) : ∃ s t o b,x=some (.row s t z 0 es.length,o)/\o.get s t=some b/\b.es=es/\EN es:=by
 unfold ON at h;split at h
 ·split at h
  ·rename_i s t z' n o b hb
   split at h
   ·rename_i hc
    obtain ⟨rfl,hc⟩:=hc;simp only[Option.some.injEq,Prod.mk.injEq]at h;obtain ⟨rfl,rfl⟩:=h;exact ⟨_,_,_,_,rfl,hb,rfl,hc⟩
   ·cases h
  ·cases h
 ·cases h
open Classical in
noncomputable def e8 (C:Cl) (c4:List Nat) (ρ:AP->AV) (own:AH):DR->Option CG
 | .a8 x=>some (.val (ρ x))
 | .x8 s a9=>some (.uf s ⟨a9,[]⟩ (λ t => .row s t a9 0 0))
 | .pick c a b=>match ρ c with
  | .bool true=>some (.val (ρ a))
  | .bool false=>some (.val (ρ b))
  | _=>none
 | .bin op x y=>match ρ x,ρ y with
  | .int k a,.int k' b=>(DB op k a k' b).map .val
  | _,_=>none
 | .beq ne x y=>match ρ x,ρ y with
  | .bool a,.bool b=>some (.val (.bool (if ne then !(a == b) else a == b)))
  | _,_=>none
 | .un op x=>(Q1 op (ρ x)).map .val
 | .conv k x=>match ρ x with
  | .int _ n=>some (.val (.int k (k.wrap n)))
  | _=>none
 | .box s x=>match cellsOf (ρ x) with
  | some cs=>some (.new s ⟨cs.length,[cs]⟩ (λ t => .ptr s t 0 0))
  | none=>none
 | .alloc s zero=>some (.new s ⟨zero.length,[zero]⟩ (λ t => .ptr s t 0 0))
 | .build zero parts=>(fill zero (parts.map λ p=>(p.1,p.2.1,ρ p.2.2))).map (λ cs => .val (.agg cs))
 | .b8 s a9 parts=>match parts.mapM (λ x=>cellsOf (ρ x)) with
  | some es=>if ∀ e∈es,e.length=a9 then some (.new s ⟨a9,es⟩ (λ t => .row s t a9 0 es.length)) else none
  | none=>none
 | .a5 x off=>match ρ x with
  | .ptr s t i j=>some (.val (.ptr s t i (j+off)))
  | .q8 cs=>some (.val (.q8 (cs.drop off)))
  | _=>none
 | .jy x off n agg=>match ρ x with
  | .agg cs=>match part cs off n with
   | some ds=>(KL agg ds).map .val
   | none=>none
  | _=>none
 | .a7 arr a9 x i=>match ρ i with
  | .int _ n=>match arr,ρ x with
   | some len,.ptr s t i' j=>if 0<=n/\n<len then some (.val (.ptr s t i' (j+n.toNat*a9))) else none
   | some len,.q8 cs=>if 0<=n/\n<len then some (.val (.q8 (cs.drop (n.toNat*a9)))) else none
   | none,.row s t z off len=>if 0<=n/\n<len/\z=a9 then some (.val (.ptr s t (off+n.toNat) 0)) else none
   | none,.sl _ es=>if 0<=n then match es[n.toNat]? with
     | some cs=>if cs.length=a9 then some (.val (.q8 cs)) else none
     | none=>none
    else none
   | _,_=>none
  | _=>none
 | .ld agg n x=>match ρ x with
  | .ptr s t i j=>match (own.m5 c4).ma s t i j n with
   | some cs=>(KL agg cs).map .val
   | none=>none
  | .q8 cs=>match part cs 0 n with
   | some ds=>(KL agg ds).map .val
   | none=>none
  | _=>none
 | .st n x v=>match ρ x,cellsOf (ρ v) with
  | .ptr s t i j,some vs=>if vs.length=n then (own.ij s t i j vs).map (CG.al (.g8 [])) else none
  | _,_=>none
 | .mk s a9 bytes zero l c=>match ρ l,ρ c with
  | .int _ a,.int _ b=>if 0<=a/\a<=b/\b*bytes<=EZ/\b<=9223372036854775807/\zero.length=a9 then some (.new s ⟨a9,List.replicate a.toNat zero⟩ (λ t => .row s t a9 0 a.toNat)) else none
  | _,_=>none
 | .bz a9 x lo hi=>match ρ x with
  | .sl l es =>
   let h:Option Nat:=match hi with|none=>some es.length|some o=>match ρ o with | .int _ n=>if 0<=n/\n<=es.length then some n.toNat else none|_=>none
   let a:Option Nat:=match lo with|none=>some 0|some o=>match ρ o with | .int _ n=>if 0<=n then some n.toNat else none|_=>none
   match a,h with
   | some a,some h=>if a<=h /\ ∀ e∈es,e.length=a9 then some (.val (.sl l ((es.take h).drop a))) else none
   | _,_=>none
  | .nil =>
   let h:Option Nat:=match hi with|none=>some 0|some o=>match ρ o with | .int _ n=>if n=0 then some 0 else none|_=>none
   let a:Option Nat:=match lo with|none=>some 0|some o=>match ρ o with | .int _ n=>if n=0 then some 0 else none|_=>none
   match a,h with
   | some _,some _=>some (.val .nil)
   | _,_=>none
  | .row s t z off len =>
   let h:Option Nat:=match hi with|none=>some len|some o=>match ρ o with | .int _ n=>if 0<=n/\n<=len then some n.toNat else none|_=>none
   let a:Option Nat:=match lo with|none=>some 0|some o=>match ρ o with | .int _ n=>if 0<=n then some n.toNat else none|_=>none
   match a,h with
   | some a,some h=>if a<=h/\z=a9 then some (.val (.row s t z (off+a) (h-a))) else none
   | _,_=>none
  | _=>none
 | .ext x i=>match ρ x with
  | .g8 vs=>(vs[i]?).map .val
  | _=>none
 | .len x=>match PX (ρ x) with
  | some n=>some (.val (.int .i64 (n:Int)))
  | none=>none
 | .mm max xs=>match xs.map ρ with
  | []=>none
  | v::r=>(KI max v r).map .val
 | .app s a9 bytes x y=>match EH own (ρ y) with
  | some ys=>if ∀ e∈ys,e.length=a9 then match ρ x with
    | .row s' t z 0 len=>match own.get s' t with
     | some b=>if b.a9=a9/\z=a9/\len<=b.es.length/\(len+ys.length)*bytes<=EZ/\len+ys.length<=9223372036854775807 then
       some (.al (.row s' (own.g7 s') a9 0 (len+ys.length)) (own.put s' (((own s').n9 t none).new ⟨a9,b.es.take len++ys⟩)))
      else none
     | none=>none
    | .nil=>if ys.length*bytes<=EZ/\ys.length<=9223372036854775807 then
       some (.al (.row s (own.g7 s) a9 0 ys.length) (own.put s ((own s).new ⟨a9,ys⟩))) else none
    | _=>none
   else none
  | none=>none
 | .call f xs=>match (xs.map ρ).mapM (CY (own.m5 c4) true) with
  | some vs=>(C.pure f vs).map .val
  | none=>none
 | .e9 f xs=>(C.dm f (xs.map ρ) own).map (λ r => .al r.1 r.2)
 | .nr ne x=>match ρ x with
  | .nil=>some (.val (.bool (xor true ne)))
  | .x9 (.bool b)=>some (.val (.bool (xor b ne)))
  | .sl _ (_::_)=>some (.val (.bool (xor false ne)))
  | .row _ _ _ _ (_+1)=>some (.val (.bool (xor false ne)))
  | _=>none
 | .bad=>none
 | .z7 s f xs=>(W7 C f (xs.map ρ) s (own s)).map λ p => .rz s p.2 p.1
 | .de tb x=>match ρ x with
  | .int _ n=>if 0<=n then (match tb[n.toNat]? with
   | some v=>some (.val (.int .u8 v))
   | none=>none) else none
  | _=>none
 | .ki p f xs=>(xs.mapM (λ x=>G0 (ρ x))).map (λ cs => .val (.fn (p&&cs.isEmpty) f (C.num f) cs))
 | .l8 f xs=>if (xs.map ρ).all dq=true then (match C.pure f ((xs.map ρ).map ry) with
   | some r=>if IE r\/Q4 r then some (.val (LM r)) else none
   | none=>none) else none
 | .kj s n x v=>match ρ x,cellsOf (ρ v) with
  | .ptr s' t i j,some vs=>if s'=s/\vs.length=n then (own.ij s t i j vs).map (λ o'=>CG.n9 s (o' s)) else none
  | _,_=>none
 | .o8 s f xs=>match (xs.map ρ).mapM (O5 (own.m5 c4) true) with
  | some vs=>(ON (C.dm f vs AH.emp)).map (λ r => .new s ⟨r.1,r.2⟩ (λ t => .row s t r.1 0 r.2.length))
  | none=>none
 | .m6 x xs=>match ρ x with
  | .fn p f g cs=>if g=C.num f then (match p,cs with
   | true,[]=>(match (xs.map ρ).mapM (CY own true) with
    | some vs=>(C.pure f vs).map .val
    | none=>none)
   | false,cs=>(C.dm f (xs.map ρ++cs) own).map (λ r => .al r.1 r.2)
   | true,c::cs=>(match (AV.agg (c::cs)::xs.map ρ).mapM (CY own true) with
    | some vs=>(C.pure f vs).map .val
    | none=>none)) else none
  | _=>none
def St.dst (st:St) (d:Option Nat) (v:AV):St :=
 match d with
 | some d=>{ st with tm:=ff st.tm d v }
 | none=>st
def St.app (st:St) (d:Option Nat):CG->St
 | .val v=>st.dst d v
 | .new s b v=>{ (st.dst d (v (st.own.g7 s))) with own:=st.own.put s ((st.own s).new b) }
 | .uf s b v=>{ (st.dst d (v (st.own.g7 s))) with own:=st.own.put s ((st.own s).new b) }
 | .al v o=>{ (st.dst d v) with own:=o }
 | .n9 s x=>{ (st.dst d (.g8 [])) with own:=st.own.put s x }
 | .rz s x v=>{ (st.dst d v) with own:=st.own.put s x }
def FJ (st:St):Option (Nat × Bool)->Option Bool
 | none=>some true
 | some (g,want)=>match g6 st.tm g with
  | .bool b=>some (b == want)
  | .g8 []=>some false
  | _=>none
noncomputable def CZ (C:Cl) (o:AI) (st:St):Option St :=
 match FJ st o.guard with
 | some true=>(e8 C o.c4 st.ev st.own o.op).map (st.app o.dst)
 | some false=>some (st.dst o.dst (.g8 []))
 | none=>none
noncomputable def C9 (C:Cl):List AI->St->Option St
 | [],st=>some st
 | o::r,st=>match CZ C o st with
  | some j7=>C9 C r j7
  | none=>none
def EM:DR->Option Nat
 | .x8 s _=>some s
 | .box s _=>some s
 | .alloc s _=>some s
 | .b8 s _ _=>some s
 | .mk s _ _ _ _ _=>some s
 | .kj s _ _ _=>some s
 | .o8 s _ _=>some s
 | .z7 s _ _=>some s
 | _=>none
inductive It where
 | code (c:BD)
 | jx (ts ss:List Nat)
 | c9 (id:Nat)
 | lp (c:BD)
def FI (id:Nat):List It->Option (List It)
 | .c9 Fa::k=>if Fa=id then some k else FI id k
 | _::k=>FI id k
 | []=>none
def AH.drop (o:AH):List Nat->AH
 | []=>o
 | s::r=>(o.drop r).put s ⟨(o s).g7,λ_=>none⟩
noncomputable def run (C:Cl):Nat->List It->St->Option St
 | 0,_,_=>none
 | _+1,[],st=>some st
 | n+1,.c9 _::k,st=>run C n k st
 | n+1,.jx ts ss::k,st=>run C n k ⟨w4 st.tm ts,st.own.drop ss⟩
 | n+1,.lp c::k,st=>run C n (.code c :: .lp c::k) st
 | n+1,.code c::k,st=>match c with
  | .skip=>run C n k st
  | .ops l _=>match C9 C l st with
   | some j7=>run C n k j7
   | none=>none
  | .dr c ts ss=>run C n (.code c :: .jx ts ss::k) st
  | .scope c=>run C n (.code c::k) st
  | .seq a b=>run C n (.code a :: .code b::k) st
  | .cond c a b=>match st.ev c with
   | .bool true=>run C n (.code a::k) st
   | .bool false=>run C n (.code b::k) st
   | _=>none
  | .block id c=>run C n (.code c :: .c9 id::k) st
  | .loop c=>run C n (.code c :: .lp c::k) st
  | .exit id=>match FI id k with
   | some k'=>run C n k' st
   | none=>none
  | .ret=>some st
def CR (i:Nat):List AV->Tm
 | []=>[]
 | v::r=>(i,v)::CR (i+1) r
def I1:AV->Option AV
 | .any=>none
 | .g8 _=>none
 | v=>some v
def E6 (st:St):JN->Option AV
 | .tmp t=>I1 (g6 st.tm t)
 | .cell t agg n=>match g6 st.tm t with
  | .ptr s u i j=>match st.own.ma s u i j n with
   | some cs=>KL agg cs
   | none=>none
  | _=>none
def H5:List AV->AV
 | [v]=>v
 | vs => .g8 vs
structure Lib where
 fn:Nat->Option AFn
 num:Nat->Nat
instance : CoeFun Lib (λ_ => Nat -> Option AFn) := ⟨Lib.fn⟩
open Classical in
noncomputable def IV (I:List AV->Option (AV × AH)) (vs:List AV):Option AV :=
 match I vs with
 | some (r,o)=>match QZ o false r with
  | some r'=>if A4 r' then some r' else none
  | none=>none
 | none=>none
def Lib.mc (L:Lib) (f:Nat):Bool:=match L f with
 | some fn=>fn.mc
 | none=>false
open Classical in
noncomputable def KN (b:Bool) (I:List AV->Option (AV × AH)) (vs:List AV):Option AV:=match b,vs with
 | true,.sl _ []::vs=>match IV I (.x9 (.bool true)::vs),IV I (.x9 (.bool false)::vs) with
  | some r,some r'=>if r=r' then some r else none
  | _,_=>none
 | _,vs=>IV I vs
noncomputable def DJ (L:Lib):Nat->Nat->List AV->AH->Option (AV × AH)
 | 0,_,_,_=>none
 | n+1,f,args,own=>match L f with
  | none=>none
  | some fn=>if args.length=fn.x5 then
    match run ⟨λ f vs=>KN (L.mc f) (λ vs=>DJ L n f vs AH.emp) vs,DJ L n,L.num⟩ n [.code fn.body] ⟨CR 0 args,own⟩ with
    | some st=>match fn.res.mapM (E6 st) with
     | some vs=>some (H5 vs,st.own)
     | none=>none
    | none=>none
   else none
noncomputable def HC (L:Lib) (n f:Nat) (vs:List AV):Option AV:=KN (L.mc f) (λ vs=>DJ L n f vs AH.emp) vs
noncomputable def C4 (L:Lib) (n:Nat):Cl:=⟨HC L n,DJ L n,L.num⟩
theorem U3 (L:Lib) (n f:Nat) (args:List AV) (own:AH):DJ L (n+1) f args own =
  match L f with
  | none=>none
  | some fn=>if args.length=fn.x5 then
    match run (C4 L n) n [.code fn.body] ⟨CR 0 args,own⟩ with
    | some st=>match fn.res.mapM (E6 st) with
     | some vs=>some (H5 vs,st.own)
     | none=>none
    | none=>none
   else none:=rfl
namespace C
abbrev o (d:Nat) (op:DR):AI:=⟨some d,op,none,[]⟩
abbrev n (op:DR):AI:=⟨none,op,none,[]⟩
abbrev g (d i:Nat) (b:Bool) (op:DR):AI:=⟨some d,op,some (i,b),[]⟩
abbrev m (d s:Nat):AI:=⟨some d,.a8 (.t s),none,[]⟩
abbrev k (v:Int):AP := .c (.int .i64 v)
abbrev z:AV := .int .i64 0
abbrev q (d:Nat) (c4:List Nat) (op:DR):AI:=⟨some d,op,none,c4⟩
abbrev u (c4:List Nat) (op:DR):AI:=⟨none,op,none,c4⟩
abbrev v (d i:Nat) (b:Bool) (c4:List Nat) (op:DR):AI:=⟨some d,op,some (i,b),c4⟩
abbrev p (l:List AI):BD := .ops l false
abbrev P (l:List AI):BD := .ops l true
abbrev d (l:List AI) (ts:List Nat):BD := .dr (.ops l false) ts []
abbrev e (l:List AI) (ts:List Nat):BD := .dr (.ops l true) ts []
abbrev s (a b:BD):BD := .seq a b
abbrev i (c:AP) (a b:BD):BD := .cond c a b
abbrev b (id:Nat) (c:BD):BD := .block id c
abbrev w (c:BD):BD := .loop c
abbrev x (id:Nat):BD := .exit id
instance (i : Nat) : OfNat AP i := ⟨.t i⟩
end C
end Go.b7
namespace Go.b7
def XU:Value->AV->Bool
 | .int k n,.int k' n'=>k == k'&&n == n'
 | .bool b,.bool b'=>b == b'
 | .slice none 0 0,.nil=>true
 | .string s,.x9 (.string s')=>s.data.toList == s'.data.toList
 | .nilFunc,.x9 .nilFunc=>true
 | _,_=>false
def PP:List Value->List AV->Bool
 | [],[]=>true
 | v::r,a::l=>XU v a&&PP r l
 | _,_=>false
def bW:Value->AV->Bool
 | .agg cs,.agg l=>PP cs.toList l
 | v,a=>XU v a
def B3:Operand->AP->Bool
 | .tmp t,.t n=>t == n
 | .const v,.c a=>bW v a
 | .func g,.c (.fn _ _ g' [])=>g == g'
 | _,_=>false
def D6:List Operand->List AP->Bool
 | [],[]=>true
 | v::r,a::l=>B3 v a&&D6 r l
 | _,_=>false
def OU:Option Operand->Option AP->Bool
 | none,none=>true
 | some x,some y=>B3 x y
 | _,_=>false
section
variable (P:Program)
def S0 (t:TypeId):Option Bool :=
 match P.underlying t with
 | some (.struct _)=>some true
 | some (.array _ _)=>some true
 | some _=>some false
 | none=>none
def J3 (t:TypeId) (n:Nat):Bool:=match P.info? t with|some i=>i.size == n|none=>false
def W6 (t:TypeId) (n:Nat):Bool:=match P.info? t with|some i=>i.bytes == n|none=>false
def ST (t:TypeId) (l:List AV):Bool:=match P.info? t with|some i=>(match i.zero with|some z=>PP z.cells.toList l|none=>false)|none=>false
def N5 (t:TypeId) (f:TypeId->Bool):Bool:=match P.underlying t with|some (.slice e)=>f e|_=>false
def oG (t:TypeId) (i off n:Nat):Bool:=match P.underlying t with
 | some (.struct fs)=>(match fs[i]? with|some f=>f.offset == off&&J3 P f.type n&&n != 0|none=>false)
 | _=>false
def oH (t:TypeId) (i:Nat) (agg:Bool):Bool:=match P.underlying t with
 | some (.struct fs)=>(match fs[i]? with|some f=>S0 P f.type == some agg|none=>false)
 | _=>false
def R7 (place:Nat->Option (Nat × Nat)):List (Nat × Operand)->List (Nat × Nat × AP)->Bool
 | [],[]=>true
 | (i,x)::r,(off,n,y)::l=>place i == some (off,n)&&B3 x y&&R7 place r l
 | _,_=>false
def aM (t:TypeId) (ps:List (Nat × Operand)) (az:List (Nat × Nat × AP)):Bool:=match P.underlying t with
 | some (.struct fs)=>(match fs.toList.mapM (λ f=>(P.info? f.type).map λ i=>(f.offset,i.size)) with|some places=>R7 (places.toArray[·]?) ps az|none=>false)
 | some (.array _ e)=>(match P.info? e with|some ie=>R7 (λ i=>some (i*ie.size,ie.size)) ps az|none=>false)
 | _=>false
def RL (k:Nat):List (Nat × Operand)->List AP->Bool
 | [],[]=>true
 | (i,x)::r,y::l=>i == k&&B3 x y&&RL (k+1) r l
 | _,_=>false
def BA (num:Nat->Nat) (op:Op):DR->Bool
 | .a8 y=>match op with | .move x=>B3 x y | .assign x=>B3 x y|_=>false
 | .x8 _ z=>z != 0&&(match op with | .move (.const (.slice none 0 0))=>true | .assign (.const (.slice none 0 0))=>true|_=>false)
 | .pick c' a' b'=>match op with | .pick c a b=>B3 c c'&&B3 a a'&&B3 b b'|_=>false
 | .bin yp x' y'=>match op with | .binOp op _ x y _=>op == yp&&B3 x x'&&B3 y y'|_=>false
 | .beq ne x' y'=>match op with | .binOp op t x y _=>(if ne then op == .neq else op == .eql)&&(match P.underlying t with|some .bool=>true|_=>false)&&B3 x x'&&B3 y y'|_=>false
 | .un yp x'=>match op with | .unOp op _ x=>op == yp&&B3 x x'|_=>false
 | .conv k x'=>match op with | .convert s d x=>(P.underlying s).isSome&&(match P.underlying d with|some (.int k')=>k == k'|_=>false)&&B3 x x'|_=>false
 | .box _ x'=>match op with | .box _ x=>B3 x x'|_=>false
 | .alloc _ z=>match op with | .alloc t=>ST P t z|_=>false
 | .build z az=>match op with | .build t ps=>ST P t z&&aM P t ps.toList az|_=>false
 | .b8 _ a9 az=>match op with
  | .buildSlice t n ps=>N5 P t (λ e=>J3 P e a9)&&a9 != 0&&n == az.length&&decide (n*a9<=16777216)&&RL 0 ps.toList az&&(n == 0||N5 P t (λ e=>match P.info? e with|some i=>(match i.zero with|some z=>z.cells.size == a9|none=>false)|none=>false))
  | _=>false
 | .a5 x' off=>match op with
  | .fieldAddr s x f=>B3 x x'&&(match P.underlying s with|some (.struct fs)=>(match fs[f]? with|some fd=>fd.offset == off&&(match P.info? fd.type with|some i=>i.size != 0|none=>false)|none=>false)|_=>false)
  | _=>false
 | .jy x' off n agg=>match op with | .field t x f=>B3 x x'&&oG P t f off n&&oH P t f agg|_=>false
 | .a7 arr a9 x' i'=>match op with
  | .indexAddr t x i=>B3 x x'&&B3 i i'&&(match P.underlying t,arr with|some (.array len e),some nt=>len == nt&&J3 P e a9&&decide (1<len)|some (.slice e),none=>J3 P e a9&&a9 != 0|_,_=>false)
  | _=>false
 | .ld agg n x'=>match op with | .load t x=>B3 x x'&&S0 P t == some agg&&(if agg then J3 P t n else n == 1)|_=>false
 | .st n x' v'=>match op with | .store t x v=>B3 x x'&&B3 v v'&&J3 P t n|_=>false
 | .mk _ a9 bytes z l' c'=>match op with
  | .makeSlice t l c=>B3 l l'&&B3 c c'&&N5 P t (λ e=>J3 P e a9&&W6 P e bytes&&ST P e z)&&a9 != 0
  | _=>false
 | .bz a9 x' kg n8=>match op with
  | .slice t x lo hi none=>B3 x x'&&OU lo kg&&OU hi n8&&N5 P t (λ e=>J3 P e a9)&&a9 != 0
  | _=>false
 | .ext x' i'=>match op with | .extract x i=>B3 x x'&&i == i'|_=>false
 | .len x'=>match op with
  | .call ⟨.builtin .len,xs,ts⟩=>(match xs.toList,ts.toList with|[x],[t]=>B3 x x'&&N5 P t (λ_=>true)|_,_=>false)
  | _=>false
 | .mm max m8=>match op with
  | .call ⟨.builtin .min,xs,_⟩ => !max&&D6 xs.toList m8
  | .call ⟨.builtin .max,xs,_⟩=>max&&D6 xs.toList m8
  | _=>false
 | .app _ a9 bytes x' y'=>match op with
  | .call ⟨.builtin .append,xs,ts⟩=>(match xs.toList,ts.toList with
   | [x,y],[t,u]=>B3 x x'&&B3 y y'&&N5 P t (λ e=>J3 P e a9&&W6 P e bytes&&(match P.info? e with|some i=>(match i.zero with|some z=>z.cells.size == a9|none=>false)|none=>false))&&a9 != 0&&N5 P u (λ_=>true)
   | _,_=>false)
  | _=>false
 | .call f' m8=>match op with
  | .call ⟨.value (.func f),xs,_⟩=>f == num f'&&D6 xs.toList m8
  | _=>false
 | .e9 f' m8=>match op with
  | .call ⟨.value (.func f),xs,_⟩=>f == num f'&&D6 xs.toList m8
  | _=>false
 | .z7 _ f' m8=>match op with
  | .call ⟨.value (.func f),xs,_⟩=>f == num f'&&D6 xs.toList m8
  | _=>false
 | .nr ne x'=>match op with
  | .binOp op t x (.const (.slice none 0 0)) _=>(if ne then op == .neq else op == .eql)&&N5 P t (λ_=>true)&&B3 x x'
  | _=>false
 | .bad=>true
 | .de tb i'=>match op with
  | .index t (.const (.string s)) i=>(match P.underlying t with|some .string=>true|_=>false)&&s.data.toList.map (λ b=>b.toNat) == tb&&B3 i i'
  | _=>false
 | .ki _ f' m8=>match op with
  | .makeFunc (.func f) first xs=>f == num f'&&first.toList.isEmpty&&D6 xs.toList m8
  | _=>false
 | .l8 f' m8=>match op with
  | .call ⟨.value (.func f),xs,_⟩=>f == num f'&&D6 xs.toList m8
  | _=>false
 | .o8 _ f' m8=>match op with
  | .call ⟨.value (.func f),xs,_⟩=>f == num f'&&D6 xs.toList m8
  | _=>false
 | .kj _ n x' v'=>match op with | .store t x v=>B3 x x'&&B3 v v'&&J3 P t n|_=>false
 | .m6 x' m8=>match op with
  | .call ⟨.value x,xs,_⟩=>B3 x x'&&D6 xs.toList m8
  | _=>false
def VV (ops:Array Oper):Option (Nat × Bool)->Option (Nat × Bool)->Bool
 | none,none=>true
 | some (j,b),some (t,b')=>b == b'&&(match ops[j]? with|some o=>o.dst == some t|none=>false)
 | _,_=>false
def YL (num:Nat->Nat) (N:Nat) (ops:Array Oper) (o:Oper) (a:AI):Bool :=
 o.dst == a.dst&&(match a.dst with|some d=>decide (d<N)|none=>true)&&VV ops o.guard a.guard&&BA P num o.op a.op
def P0 (num:Nat->Nat) (N:Nat) (ops:Array Oper):List Oper->List AI->Bool
 | [],[]=>true
 | o::r,a::l=>YL P num N ops o a&&P0 num N ops r l
 | _,_=>false
def G2:DR->Bool
 | .st .. | .app .. | .e9 .. | .m6 .. => true
 | _=>false
def V3:DR->Bool
 | .ld .. | .call .. | .o8 .. => true
 | _=>false
def KH (a:DR):Bool:=G2 a||V3 a||(EM a).isSome
def C6:AP->List Nat
 | .t n=>[n]
 | .c _=>[]
def eT:Option AP->List Nat
 | some x=>C6 x
 | none=>[]
def ID:DR->List Nat
 | .a8 x=>C6 x
 | .x8 _ _=>[]
 | .pick c a b=>C6 c++C6 a++C6 b
 | .bin _ x y=>C6 x++C6 y
 | .beq _ x y=>C6 x++C6 y
 | .un _ x=>C6 x
 | .conv _ x=>C6 x
 | .box _ x=>C6 x
 | .alloc _ _=>[]
 | .build _ ps=>ps.flatMap (λ p=>C6 p.2.2)
 | .b8 _ _ ps=>ps.flatMap C6
 | .a5 x _=>C6 x
 | .jy x _ _ _=>C6 x
 | .a7 _ _ x i=>C6 x++C6 i
 | .ld _ _ x=>C6 x
 | .st _ x v=>C6 x++C6 v
 | .mk _ _ _ _ l c=>C6 l++C6 c
 | .bz _ x lo hi=>C6 x++eT lo++eT hi
 | .ext x _=>C6 x
 | .len x=>C6 x
 | .mm _ xs=>xs.flatMap C6
 | .app _ _ _ x y=>C6 x++C6 y
 | .call _ xs=>xs.flatMap C6
 | .e9 _ xs=>xs.flatMap C6
 | .nr _ x=>C6 x
 | .de _ x=>C6 x
 | .ki _ _ xs=>xs.flatMap C6
 | .m6 x xs=>C6 x++xs.flatMap C6
 | .l8 _ xs=>xs.flatMap C6
 | .kj _ _ x v=>C6 x++C6 v
 | .o8 _ _ xs=>xs.flatMap C6
 | .z7 _ _ xs=>xs.flatMap C6
 | .bad=>[]
def TK (x:AI):List Nat:=ID x.op++(match x.guard with|some (g,_)=>[g]|none=>[])++x.dst.toList
def IU (b:Array Nat) (i j:Nat):Bool:=(b.getD (max i j) 0).testBit (min i j)
def rU (b:Array Nat) (x:AI) (i:Nat) (y:AI) (j:Nat):Bool :=
 i == j||IU b i j ||
  ((match y.dst with|some t => !(TK x).contains t|none=>true) &&
   (!G2 x.op || !KH y.op) &&
   (!V3 x.op||(match EM y.op with|some s=>x.c4.contains s|none=>true)) )
def RJ (ops:Array Oper) (l:List AI):Bool :=
 let b:=Region.before ops
 (l.zipIdx.all λ(x,i)=>l.zipIdx.all λ(y,j)=>rU b x i y j&&(i == j||IU b i j||(match EM x.op,EM y.op with|some s,some s'=>s != s'|_,_=>true))) &&
 (ops.toList.zipIdx.all λ(o,i)=>o.after.all λ e=>decide (e.on<i)||(match e.ground with | .gcOnly _=>true|_=>false)) &&
 (!Region.departs ops||(List.range ops.size).all (λ i=>(Region.linearise .gc ops 0).contains i))
def EU (num:Nat->Nat) (N:Nat):Code->BD->Bool
 | c,.dr a _ _=>EU num N c a
 | c',.skip=>match c' with | .skip=>true | .label _=>true|_=>false
 | c',.scope a=>match c' with | .scope c=>EU num N c a|_=>false
 | c',.ops l mh=>match c' with | .region _ ops draw=>draw == mh&&P0 P num N ops ops.toList l&&(!draw||RJ ops l)|_=>false
 | c',.seq a' b'=>match c' with | .seq a b=>EU num N a a'&&EU num N b b'|_=>false
 | c',.cond x' a' b'=>match c' with | .cond x a b=>B3 x x'&&EU num N a a'&&EU num N b b'|_=>false
 | c',.block i' a=>match c' with | .block i c=>i == i'&&EU num N c a|_=>false
 | c',.loop a=>match c' with | .loop c=>EU num N c a|_=>false
 | c',.exit i'=>match c' with | .exit i=>i == i'|_=>false
 | c',.ret=>match c' with | .ret=>true|_=>false
def L7:List ResultVar->List JN->Bool
 | [],[]=>true
 | .tmp t::r,.tmp t'::l=>t == t'&&L7 r l
 | .cell a t::r,.cell a' agg n::l=>a == a'&&S0 P t == some agg&&(if agg then J3 P t n else n == 1)&&L7 r l
 | _,_=>false
def okFn (num:Nat->Nat) (fn:Func) (a:AFn):Bool :=
 fn.params.size+fn.nfree == a.x5&&decide (a.x5<=fn.ntmps)&&L7 P fn.results.toList a.res&&(match fn.body with|some c=>EU P num fn.ntmps c a.body|none=>false)
end
end Go.b7

namespace Go.b7
open Go.RowKit
theorem HI (b o n:Nat):(⟨b,o,none⟩:Addr).add n=⟨b,o+n,none⟩:=by
 unfold Addr.add;split<;>simp_all
inductive Rd (w:World) (R:Bool->Nat->Prop):AV->Value->Prop
 | int (k:IntKind) (n:Int):Rd w R (.int k n) (.int k n)
 | bool (b:Bool):Rd w R (.bool b) (.bool b)
 | str (s:ByteArray):Rd w R (.x9 (.string s)) (.string s)
 | ic:Rd w R (.x9 .nilFunc) .nilFunc
 | fe (l:Bool) (a:Option Addr) (cap:Nat):Rd w R (.sl l []) (.slice a 0 cap)
 | emp (b:Bool) (a:Option Addr) (cap:Nat) (h:a.isNone=b):Rd w R (.x9 (.bool b)) (.slice a 0 cap)
 | sl (l:Bool) (es:List (List AV)) (b o a9 cap:Nat) (u:Nat->Nat->Value) (l9:es≠[]) (hp:0<a9) (hR:R l b) (x7:es.length<=cap) (hz : ∀ e∈es,e.length=a9)
   (hc : ∀ i e,es[i]? = some e -> ∀ j c,e[j]? = some c->w.cell? ⟨b,o+(i*a9+j),none⟩=some (u i j))
   (hr : ∀ i e,es[i]? = some e -> ∀ j c,e[j]? = some c->Rd w R c (u i j)) :
   Rd w R (.sl l es) (.slice (some ⟨b,o,none⟩) es.length cap)
theorem Rd.one {w:World} {R:Bool->Nat->Prop} {a:AV} {v:Value} (h:Rd w R a v):v.oneCell'=true:=by
 cases h<;>rfl
theorem RE {w:World} {a:Addr} {u:Value} (h:w.cell? a=some u):a.block<w.heap.size:=by
 unfold World.cell? at h;split at h
 ·rename_i hh
  exact (Array.getElem?_eq_some_iff.1 hh).1
 ·cases h
theorem VE {es:List (List AV)} {a9:Nat} (l9:es≠[]) (hp:0<a9) (hz : ∀ e∈es,e.length=a9) : ∃ e c,es[0]? = some e/\e[0]? = some c:=by
 cases es with
 | nil=>exact absurd rfl l9
 | cons e r =>
  have:=hz e (by simp)
  cases e with
  | nil=>simp at this;omega
  | cons c q=>exact ⟨c::q,c,rfl,rfl⟩
theorem Rd.mono {w w':World} {R R':Bool->Nat->Prop} (hR : ∀ l b,b<w.heap.size->R l b->R' l b)
  (hw : ∀ l b,b<w.heap.size->R l b->w'.heap[b]? = w.heap[b]?) {a:AV} {v:Value} (h:Rd w R a v):Rd w' R' a v:=by
 induction h with
 | int k n=>exact .int k n
 | bool b=>exact .bool b
 | str s=>exact .str s
 | ic=>exact .ic
 | fe l a cap=>exact .fe l a cap
 | emp b a cap h=>exact .emp b a cap h
 | sl l es b o a9 cap u l9 hp h1 x7 hz hc hr ih =>
  obtain ⟨e,c,he,ep⟩:=VE l9 hp hz;have hb:b<w.heap.size:=RE (hc 0 e he 0 c ep);refine .sl l es b o a9 cap u l9 hp (hR l b hb h1) x7 hz (λ i e he j c zi => ?_) ih;rw[World.cell?_of_block (w:=w) (hw l b hb h1)];exact hc i e he j c zi
structure M where
 ν:Nat->Nat->Option Nat
 own:AH
 w:World
section
variable (B:Nat) (S:Nat->Prop)
def safe (m:M) (l:Bool) (b:Nat):Prop :=
 (S b/\b<B)\/(B<=b /\ ∀ s t,(m.own.get s t).isSome=true->m.ν s t≠some b)\/(l=true/\b<B)
inductive CC (m:M):AV->Value->Prop
 | rd {a:AV} {v:Value} (h:Rd m.w (safe B S m) a v):CC m a v
 | nil:CC m .nil (.slice none 0 0)
 | row (s t z off len:Nat) (a:Option Addr) (cap:Nat) (ht:t<m.own.g7 s) (cn:0<z) (iu:len<=cap) (ha:0<len->a.isSome=true)
   (h : ∀ b,m.own.get s t=some b->b.a9=z/\((len=0/\cap=0) \/ ∃ g arr e,m.ν s t=some g/\a=some ⟨g,off*z,none⟩/\m.w.heap[g]? = some (.cells arr e (0,0))/\(off+cap)*z<=arr.size)) :
   CC m (.row s t z off len) (.slice a len cap)
 | ptr (s t i j:Nat) (a:Addr) (ht:t<m.own.g7 s) (h : ∀ b,m.own.get s t=some b -> ∃ g,m.ν s t=some g/\a=⟨g,i*b.a9+j,none⟩):CC m (.ptr s t i j) (.pointer (some a))
 | q8 (cs:List AV) (b o:Nat) (u:Nat->Value) (l:Bool) (hR:cs≠[]->safe B S m l b) (hc : ∀ j c,cs[j]? = some c->m.w.cell? ⟨b,o+j,none⟩=some (u j)) (hr : ∀ j c,cs[j]? = some c->Rd m.w (safe B S m) c (u j)) :
   CC m (.q8 cs) (.pointer (some ⟨b,o,none⟩))
def CL (m:M) (cs:List AV) (vs:List Value):Prop:=cs.length=vs.length /\ ∀ (j:Nat) (c:AV) (v:Value),cs[j]? = some c->vs[j]? = some v->CC B S m c v
inductive CA (m:M):AV->Value->Prop
 | one {a:AV} {v:Value} (h:CC B S m a v):CA m a v
 | agg (cs:List AV) (vs:List Value) (h:CL B S m cs vs):CA m (.agg cs) (.agg vs.toArray)
 | fn (p:Bool) (f g:Nat) (cs:List AV) (vs:List Value) (hp:p=true->cs=[]) (h:CL B S m cs vs):CA m (.fn p f g cs) (.func (.func g) #[] vs.toArray)
 | ou (f g:Nat) (cs:List AV) (vs:List Value) (hp:cs≠[]) (h:CL B S m cs vs):CA m (.fn true f g cs) (.func (.func g) #[.agg vs.toArray] #[])
inductive CV (m:M):AV->Value->Prop
 | any (v:Value):CV m .any v
 | ca {a:AV} {v:Value} (h:CA B S m a v):CV m a v
 | g8 (as:List AV) (vs:List Value) (hl:as.length=vs.length) (h : ∀ (j:Nat) (c:AV) (v:Value),as[j]? = some c->vs[j]? = some v->CA B S m c v):CV m (.g8 as) (.tuple vs.toArray)
def wS (m:M) (s t:Nat) (b:DY):Prop :=
 (∀ e∈b.es,e.length=b.a9)/\match m.ν s t with
  | none=>b.es=[]
  | some g=>B<=g /\ ∃ arr e,m.w.heap[g]? = some (.cells arr e (0,0)) /\
    ∀ i cs,b.es[i]? = some cs -> ∀ j c,cs[j]? = some c -> ∃ u,arr[i*b.a9+j]? = some u/\CC B S m c u
structure BN (w0:World) (m:M):Prop where
 below:Below B w0 m.w
 size:B<=m.w.heap.size
 fresh : ∀ s t,m.own.g7 s<=t->m.own.get s t=none
 c9 : ∀ s t b,m.own.get s t=some b->wS B S m s t b
 inj : ∀ s t s' t' b b' g,m.own.get s t=some b->m.own.get s' t'=some b'->m.ν s t=some g->m.ν s' t'=some g->s=s'/\t=t'
structure DG (m m':M):Prop where
 size:m.w.heap.size<=m'.w.heap.size
 qu : ∀ b,b<m.w.heap.size->safe B S m true b->m'.w.heap[b]? = m.w.heap[b]?
 vm : ∀ l b,b<m.w.heap.size->safe B S m l b->safe B S m' l b
 g7 : ∀ s,m.own.g7 s<=m'.own.g7 s
 name : ∀ s t b',t<m.own.g7 s->m'.own.get s t=some b' -> ∃ b,m.own.get s t=some b/\b'.a9=b.a9/\m'.ν s t=m.ν s t /\
   ∀ g arr e,m.ν s t=some g->m.w.heap[g]? = some (.cells arr e (0,0)) -> ∃ s9,m'.w.heap[g]? = some (.cells s9 e (0,0))/\s9.size=arr.size
end
section
variable {B:Nat} {S:Nat->Prop}
theorem fW {m:M} {l:Bool} {b:Nat} (h:safe B S m l b):safe B S m true b:=by
 rcases h with h|h|⟨_,h⟩
 ·exact .inl h
 ·exact .inr (.inl h)
 ·exact .inr (.inr ⟨rfl,h⟩)
theorem DG.rd {m m':M} (h:DG B S m m') {a:AV} {v:Value} (hr:Rd m.w (safe B S m) a v):Rd m'.w (safe B S m') a v :=
 hr.mono h.vm (λ_ b hb hs=>h.qu b hb (fW hs))
theorem DG.cc {m m':M} (h:DG B S m m') {a:AV} {v:Value} (hc:CC B S m a v):CC B S m' a v:=by
 cases hc with
 | rd hr=>exact .rd (h.rd hr)
 | nil=>exact .nil
 | row s t z off len a cap ht cn iu ha hb =>
  refine .row s t z off len a cap (Nat.lt_of_lt_of_le ht (h.g7 s)) cn iu ha λ b' k7 => ?_
  obtain ⟨b,h1,h2,h3,h4⟩:=h.name s t b' ht k7;obtain ⟨hz,bk⟩:=hb b h1;refine ⟨h2.trans hz,?_⟩;rcases bk with h0|⟨g,arr,e,hg,gx,hh,hle⟩
  ·exact .inl h0
  ·obtain ⟨s9,Gj,rk⟩:=h4 g arr e hg hh
   exact .inr ⟨g,s9,e,h3.trans hg,gx,Gj,rk ▸ hle⟩
 | ptr s t i j a ht hb =>
  refine .ptr s t i j a (Nat.lt_of_lt_of_le ht (h.g7 s)) λ b' k7 => ?_
  obtain ⟨b,h1,h2,h3,_⟩:=h.name s t b' ht k7;obtain ⟨g,hg,gx⟩:=hb b h1;exact ⟨g,h3.trans hg,h2 ▸ gx⟩
 | q8 cs b o u l hR hc hr =>
  have k6:cs≠[]->b<m.w.heap.size:=λ l9=>by
   cases cs with
   | nil=>exact absurd rfl l9
   | cons c r=>exact RE (hc 0 c rfl)
  refine .q8 cs b o u l (λ l9=>h.vm l b (k6 l9) (hR l9)) (λ j c hj => ?_) (λ j c hj=>h.rd (hr j c hj));have l9:cs≠[]:=λ e=>by subst e;simp at hj
  rw[World.cell?_of_block (w:=m.w) (h.qu b (k6 l9) (fW (hR l9)))];exact hc j c hj
theorem DG.cl {m m':M} (h:DG B S m m') {cs:List AV} {vs:List Value} (hc:CL B S m cs vs):CL B S m' cs vs :=
 ⟨hc.1,λ j c v h1 h2=>h.cc (hc.2 j c v h1 h2)⟩
theorem DG.ca {m m':M} (h:DG B S m m') {a:AV} {v:Value} (hc:CA B S m a v):CA B S m' a v:=by
 cases hc with
 | one hc=>exact .one (h.cc hc)
 | agg cs vs hc=>exact .agg cs vs (h.cl hc)
 | fn p f g cs vs hp hc=>exact .fn p f g cs vs hp (h.cl hc)
 | ou f g cs vs hp hc=>exact .ou f g cs vs hp (h.cl hc)
theorem DG.cv {m m':M} (h:DG B S m m') {a:AV} {v:Value} (hc:CV B S m a v):CV B S m' a v:=by
 cases hc with
 | any v=>exact .any v
 | ca hc=>exact .ca (h.ca hc)
 | g8 as vs hl hc=>exact .g8 as vs hl λ j c v h1 h2=>h.ca (hc j c v h1 h2)
theorem DG.refl (m:M):DG B S m m :=
 ⟨Nat.le_refl _,λ_ _ _=>rfl,λ_ _ _ h=>h,λ_=>Nat.le_refl _,λ_ _ b' _ h=>⟨b',h,rfl,rfl,λ_ arr _ _ h=>⟨arr,h,rfl⟩⟩⟩
theorem DG.trans {m m' Mf:M} (h:DG B S m m') (k:DG B S m' Mf):DG B S m Mf where
 size:=Nat.le_trans h.size k.size
 qu b hb hs:=(k.qu b (Nat.lt_of_lt_of_le hb h.size) (h.vm true b hb hs)).trans (h.qu b hb hs)
 vm l b hb hs:=k.vm l b (Nat.lt_of_lt_of_le hb h.size) (h.vm l b hb hs)
 g7 s:=Nat.le_trans (h.g7 s) (k.g7 s)
 name s t b'' ht Gq:=by
  obtain ⟨b',h1,h2,h3,h4⟩:=k.name s t b'' (Nat.lt_of_lt_of_le ht (h.g7 s)) Gq;obtain ⟨b,g1,g2,g3,g4⟩:=h.name s t b' ht h1;refine ⟨b,g1,h2.trans g2,h3.trans g3,λ g arr e hg ha => ?_⟩;obtain ⟨s9,Gj,rk⟩:=g4 g arr e hg ha;obtain ⟨Af,Gk,Ih⟩:=h4 g s9 e (g3.trans hg) Gj;exact ⟨Af,Gk,Ih.trans rk⟩
theorem CC.one {m:M} {a:AV} {v:Value} (h:CC B S m a v):v.oneCell'=true:=by
 cases h with
 | rd h=>exact h.one
 | _=>rfl
end
end Go.b7

namespace Go.b7
open Go.RowKit
section
variable {B:Nat} {S:Nat->Prop} {w0:World}
def live (m:M) (s t:Nat):Prop := ∃ b,m.own.get s t=some b
theorem BN.ge {m:M} (h:BN B S w0 m) {s t g:Nat} (hl:live m s t) (hg:m.ν s t=some g):B<=g /\ ∃ arr e,m.w.heap[g]? = some (.cells arr e (0,0)):=by
 obtain ⟨b,hb⟩:=hl;obtain ⟨_,h2⟩:=h.c9 s t b hb;rw[hg]at h2;obtain ⟨h3,arr,e,h4,_⟩:=h2;exact ⟨h3,arr,e,h4⟩
theorem RR {m m':M} (hm:BN B S w0 m) (hs:m.w.heap.size<=m'.w.heap.size)
  (hk : ∀ b,b<m.w.heap.size->(∀ s t,live m s t->m.ν s t≠some b)->m'.w.heap[b]? = m.w.heap[b]?) (xf : ∀ s,m.own.g7 s<=m'.own.g7 s)
  (Cb : ∀ s t b',t<m.own.g7 s->m'.own.get s t=some b' -> ∃ b,m.own.get s t=some b/\b'.a9=b.a9/\m'.ν s t=m.ν s t /\
   ∀ g arr e,m.ν s t=some g->m.w.heap[g]? = some (.cells arr e (0,0)) -> ∃ s9,m'.w.heap[g]? = some (.cells s9 e (0,0))/\s9.size=arr.size)
  (ew : ∀ s t g,live m' s t->m'.ν s t=some g->g<m.w.heap.size -> ∃ s0 t0,live m s0 t0/\m.ν s0 t0=some g):DG B S m m':=by
 have ke : ∀ b,safe B S m true b -> ∀ s t,live m s t->m.ν s t≠some b:=by
  intro b hb s t hl hg;have jl:=(hm.ge hl hg).1;rcases hb with ⟨_,h⟩|⟨_,h⟩|⟨_,h⟩
  ·omega
  ·obtain ⟨b',k7⟩:=hl
   exact h s t (by simp [k7]) hg
  ·omega
 refine ⟨hs,λ b hb qk=>hk b hb (ke b qk),λ l b hb qk => ?_,xf,Cb⟩;rcases qk with h|⟨h,hn⟩|h
 ·exact .inl h
 ·refine .inr (.inl ⟨h,λ s t hl hg => ?_⟩)
  obtain ⟨b',k7⟩:=Option.isSome_iff_exists.1 hl;obtain ⟨s0,t0,⟨b0,ni⟩,xo⟩:=ew s t b ⟨b',k7⟩ hg hb;exact hn s0 t0 (by simp [ni]) xo
 ·exact .inr (.inr h)
theorem grow {m:M} (hm:BN B S w0 m) {w':World} (hb:Below m.w.heap.size m.w w') :
  BN B S w0 ⟨m.ν,m.own,w'⟩/\DG B S m ⟨m.ν,m.own,w'⟩:=by
 have he:DG B S m ⟨m.ν,m.own,w'⟩:=by
  refine RR hm hb.size (λ b k7 _=>hb.block b k7) (λ_=>Nat.le_refl _) (λ s t b' _ k7=>⟨b',k7,rfl,rfl,λ g arr e hg ha=>⟨arr,?_,rfl⟩⟩) (λ s t g hl hg _=>⟨s,t,hl,hg⟩);have:g<m.w.heap.size:=(Array.getElem?_eq_some_iff.1 ha).1
  exact (hb.block g this).trans ha
 refine ⟨⟨hm.below.trans (hb.mono hm.size),Nat.le_trans hm.size hb.size,hm.fresh,λ s t b hg => ?_,hm.inj⟩,he⟩;obtain ⟨h1,h2⟩:=hm.c9 s t b hg;refine ⟨h1,?_⟩;show match m.ν s t with|none=>_|some g=>_
 cases hν:m.ν s t with
 | none=>rw[hν]at h2;exact h2
 | some g =>
  rw[hν]at h2;obtain ⟨h3,arr,e,h4,h5⟩:=h2;refine ⟨h3,arr,e,?_,λ i cs hi j c hj => ?_⟩
  ·exact (hb.block g (Array.getElem?_eq_some_iff.1 h4).1).trans h4
  ·obtain ⟨u,hu,v8⟩:=h5 i cs hi j c hj
   exact ⟨u,hu,he.cc v8⟩
theorem GE (o:AH) (s s' t':Nat) (b:DY):(o.put s ((o s).new b)).get s' t'=if s'=s/\t'=o.g7 s then some b else o.get s' t':=by
 unfold AH.get AH.put CD.new AH.g7;by_cases h:s'=s
 ·subst h
  by_cases h2:t'=(o s').g7<;>simp [h2]
 ·simp [h]
theorem KX (o:AH) (s s':Nat) (b:DY):(o.put s ((o s).new b)).g7 s'=if s'=s then o.g7 s+1 else o.g7 s':=by
 unfold AH.g7 AH.put CD.new;by_cases h:s'=s<;>simp [h]
theorem VK (o:AH) (s t s' t':Nat) (b:Option DY):(o.put s ((o s).n9 t b)).get s' t'=if s'=s/\t'=t then b else o.get s' t':=by
 unfold AH.get AH.put CD.n9;by_cases h:s'=s
 ·subst h
  by_cases h2:t'=t<;>simp [h2]
 ·simp [h]
theorem kR (o:AH) (s t s':Nat) (b:Option DY):(o.put s ((o s).n9 t b)).g7 s'=o.g7 s':=by
 unfold AH.g7 AH.put CD.n9;by_cases h:s'=s<;>simp [h]
def g9 (m:M) (s:Nat) (g:Option Nat):Nat->Nat->Option Nat:=λ s' t'=>if s'=s/\t'=m.own.g7 s then g else m.ν s' t'
theorem YI {m:M} (hm:BN B S w0 m) (s:Nat) : ¬ live m s (m.own.g7 s):=λ⟨b,hb⟩=>by
 rw[hm.fresh s _ (Nat.le_refl _)]at hb;cases hb
theorem aE {m:M} (hm:BN B S w0 m) (s:Nat) (b:DY) (arr:Array Value) (e:TypeId) (hz : ∀ x∈b.es,x.length=b.a9)
  (hc : ∀ i cs,b.es[i]? = some cs -> ∀ j c,cs[j]? = some c -> ∃ u,arr[i*b.a9+j]? = some u/\CC B S m c u) :
  BN B S w0 ⟨g9 m s (some m.w.heap.size),m.own.put s ((m.own s).new b),m.w.alloc (.cells arr e)⟩ /\
  DG B S m ⟨g9 m s (some m.w.heap.size),m.own.put s ((m.own s).new b),m.w.alloc (.cells arr e)⟩:=by
 have u5:(m.w.alloc (.cells arr e)).heap.size=m.w.heap.size+1:=by simp
 have hν : ∀ s' t',live m s' t'->g9 m s (some m.w.heap.size) s' t'=m.ν s' t':=λ s' t' hl=>by
  unfold g9;rw[if_neg];rintro ⟨rfl,rfl⟩
  exact YI hm _ hl
 have he:DG B S m ⟨g9 m s (some m.w.heap.size),m.own.put s ((m.own s).new b),m.w.alloc (.cells arr e)⟩:=by
  refine RR hm (by rw[u5];omega) (λ k hk _=>Below.heap_alloc _ _ _ hk) (λ s' => ?_) (λ s' t' b' ht k7 => ?_) (λ s' t' g hl hg k6 => ?_)
  ·rw[KX];split
   ·rename_i h;subst h;omega
   ·exact Nat.le_refl _
  ·rw[GE]at k7
   rw[if_neg (by rintro ⟨rfl,rfl⟩;omega)]at k7;refine ⟨b',k7,rfl,hν s' t' ⟨b',k7⟩,λ g ar e' hg ha=>⟨ar,?_,rfl⟩⟩;exact (Below.heap_alloc _ _ _ (Array.getElem?_eq_some_iff.1 ha).1).trans ha
  ·obtain ⟨b',k7⟩:=hl
   have o9:=k7;rw[GE]at k7;by_cases h:s'=s/\t'=m.own.g7 s
   ·simp only[g9,if_pos h,Option.some.injEq]at hg
    omega
   ·rw[if_neg h]at k7
    exact ⟨s',t',⟨b',k7⟩,by rw[<-hν s' t' ⟨b',k7⟩];exact hg⟩
 refine ⟨⟨hm.below.alloc hm.size _,by rw[u5];have:=hm.size;omega,λ s' t' ht => ?_,λ s' t' b' k7 => ?_,λ s1 t1 s2 t2 b1 b2 g h1 h2 g1 g2 => ?_⟩,he⟩
 ·rw[KX]at ht
  rw[GE,if_neg]
  ·refine hm.fresh s' t' ?_
   split at ht
   ·rename_i h;subst h;omega
   ·exact ht
  ·rintro ⟨rfl,rfl⟩
   simp at ht;omega
 ·rw[GE]at k7
  by_cases h:s'=s/\t'=m.own.g7 s
  ·rw[if_pos h]at k7
   obtain rfl:b=b':=by simpa using k7
   refine ⟨hz,?_⟩;show match g9 m s (some m.w.heap.size) s' t' with|none=>_|some g=>_
   rw[show g9 m s (some m.w.heap.size) s' t'=some m.w.heap.size by simp [g9,h]];refine ⟨hm.size,arr,e,heap_alloc_new _ _,λ i cs hi j c hj => ?_⟩;obtain ⟨u,hu,v8⟩:=hc i cs hi j c hj;exact ⟨u,hu,he.cc v8⟩
  ·rw[if_neg h]at k7
   obtain ⟨h1,h2⟩:=hm.c9 s' t' b' k7;refine ⟨h1,?_⟩;show match g9 m s (some m.w.heap.size) s' t' with|none=>_|some g=>_
   rw[hν s' t' ⟨b',k7⟩];cases hv:m.ν s' t' with
   | none=>rw[hv]at h2;exact h2
   | some g =>
    rw[hv]at h2;obtain ⟨h3,ar,e',h4,h5⟩:=h2;refine ⟨h3,ar,e',(Below.heap_alloc _ _ _ (Array.getElem?_eq_some_iff.1 h4).1).trans h4,λ i cs hi j c hj => ?_⟩;obtain ⟨u,hu,v8⟩:=h5 i cs hi j c hj;exact ⟨u,hu,he.cc v8⟩
 ·rw[GE]at h1 h2
  have lt : ∀ s' t' b',m.own.get s' t'=some b'->g9 m s (some m.w.heap.size) s' t'=some g->g<m.w.heap.size:=λ s' t' b' hb hg=>by
   rw[hν s' t' ⟨b',hb⟩]at hg;obtain ⟨_,ar,e',h4⟩:=hm.ge ⟨b',hb⟩ hg;exact (Array.getElem?_eq_some_iff.1 h4).1
  have at_ : ∀ s' t',s'=s/\t'=m.own.g7 s->g9 m s (some m.w.heap.size) s' t'=some g->g=m.w.heap.size:=λ s' t' h hg=>by
   simp only[g9,if_pos h,Option.some.injEq]at hg;exact hg.symm
  by_cases p1:s1=s/\t1=m.own.g7 s<;>by_cases p2:s2=s/\t2=m.own.g7 s
  ·exact ⟨p1.1.trans p2.1.symm,p1.2.trans p2.2.symm⟩
  ·rw[if_neg p2]at h2
   have:=lt s2 t2 b2 h2 g2
   have:=at_ s1 t1 p1 g1
   omega
  ·rw[if_neg p1]at h1
   have:=lt s1 t1 b1 h1 g1
   have:=at_ s2 t2 p2 g2
   omega
  ·rw[if_neg p1]at h1
   rw[if_neg p2]at h2;exact hm.inj s1 t1 s2 t2 b1 b2 g h1 h2 (by rw[<-hν s1 t1 ⟨b1,h1⟩];exact g1) (by rw[<-hν s2 t2 ⟨b2,h2⟩];exact g2)
theorem uZ {m:M} (hm:BN B S w0 m) (s a9:Nat) :
  BN B S w0 ⟨g9 m s none,m.own.put s ((m.own s).new ⟨a9,[]⟩),m.w⟩/\DG B S m ⟨g9 m s none,m.own.put s ((m.own s).new ⟨a9,[]⟩),m.w⟩:=by
 have hν : ∀ s' t',live m s' t'->g9 m s none s' t'=m.ν s' t':=λ s' t' hl=>by
  unfold g9;rw[if_neg];rintro ⟨rfl,rfl⟩
  exact YI hm _ hl
 have he:DG B S m ⟨g9 m s none,m.own.put s ((m.own s).new ⟨a9,[]⟩),m.w⟩:=by
  refine RR hm (Nat.le_refl _) (λ k hk _=>rfl) (λ s' => ?_) (λ s' t' b' ht k7 => ?_) (λ s' t' g hl hg k6 => ?_)
  ·rw[KX];split
   ·rename_i h;subst h;omega
   ·exact Nat.le_refl _
  ·rw[GE]at k7
   rw[if_neg (by rintro ⟨rfl,rfl⟩;omega)]at k7;exact ⟨b',k7,rfl,hν s' t' ⟨b',k7⟩,λ g ar e' hg ha=>⟨ar,ha,rfl⟩⟩
  ·obtain ⟨b',k7⟩:=hl
   rw[GE]at k7;by_cases h:s'=s/\t'=m.own.g7 s
   ·simp [g9,if_pos h]at hg
   ·rw[if_neg h]at k7
    exact ⟨s',t',⟨b',k7⟩,by rw[<-hν s' t' ⟨b',k7⟩];exact hg⟩
 refine ⟨⟨hm.below,hm.size,λ s' t' ht => ?_,λ s' t' b' k7 => ?_,λ s1 t1 s2 t2 b1 b2 g h1 h2 g1 g2 => ?_⟩,he⟩
 ·rw[KX]at ht
  rw[GE,if_neg]
  ·refine hm.fresh s' t' ?_
   split at ht
   ·rename_i h;subst h;omega
   ·exact ht
  ·rintro ⟨rfl,rfl⟩
   simp at ht;omega
 ·rw[GE]at k7
  by_cases h:s'=s/\t'=m.own.g7 s
  ·rw[if_pos h]at k7
   obtain rfl:(⟨a9,[]⟩:DY)=b':=by simpa using k7
   refine ⟨by simp,?_⟩;show match g9 m s none s' t' with|none=>_|some g=>_
   rw[show g9 m s none s' t'=none by simp [g9,h]]
  ·rw[if_neg h]at k7
   obtain ⟨h1,h2⟩:=hm.c9 s' t' b' k7;refine ⟨h1,?_⟩;show match g9 m s none s' t' with|none=>_|some g=>_
   rw[hν s' t' ⟨b',k7⟩];cases hv:m.ν s' t' with
   | none=>rw[hv]at h2;exact h2
   | some g =>
    rw[hv]at h2;obtain ⟨h3,ar,e',h4,h5⟩:=h2;refine ⟨h3,ar,e',h4,λ i cs hi j c hj => ?_⟩;obtain ⟨u,hu,v8⟩:=h5 i cs hi j c hj;exact ⟨u,hu,he.cc v8⟩
 ·rw[GE]at h1 h2
  by_cases p1:s1=s/\t1=m.own.g7 s
  ·simp [g9,if_pos p1]at g1
  ·by_cases p2:s2=s/\t2=m.own.g7 s
   ·simp [g9,if_pos p2]at g2
   ·rw[if_neg p1]at h1
    rw[if_neg p2]at h2;exact hm.inj s1 t1 s2 t2 b1 b2 g h1 h2 (by rw[<-hν s1 t1 ⟨b1,h1⟩];exact g1) (by rw[<-hν s2 t2 ⟨b2,h2⟩];exact g2)
theorem Agt {m:M} (hm:BN B S w0 m) (s t:Nat) (b b':DY) (hb:m.own.get s t=some b) (g:Nat) (hg:m.ν s t=some g) (arr s9:Array Value) (e:TypeId)
  (ha:m.w.heap[g]? = some (.cells arr e (0,0))) (hz':b'.a9=b.a9) (hz : ∀ x∈b'.es,x.length=b'.a9) (u5:s9.size=arr.size)
  (hc : ∀ i cs,b'.es[i]? = some cs -> ∀ j c,cs[j]? = some c -> ∃ u,s9[i*b'.a9+j]? = some u/\CC B S m c u) (w':World) (eo:Below B w0 w') (va:w'.heap.size=m.w.heap.size)
  (hk : ∀ k,k≠g->w'.heap[k]? = m.w.heap[k]?) (Kz:w'.heap[g]? = some (.cells s9 e (0,0))) :
  BN B S w0 ⟨m.ν,m.own.put s ((m.own s).n9 t (some b')),w'⟩/\DG B S m ⟨m.ν,m.own.put s ((m.own s).n9 t (some b')),w'⟩:=by
 have k6:t<m.own.g7 s:=by
  rcases Nat.lt_or_ge t (m.own.g7 s) with h|h
  ·exact h
  ·rw[hm.fresh s t h]at hb;cases hb
 have he:DG B S m ⟨m.ν,m.own.put s ((m.own s).n9 t (some b')),w'⟩:=by
  refine RR hm (by rw[va];exact Nat.le_refl _) (λ k dz hn=>hk k (λ e=>hn s t ⟨b,hb⟩ (e ▸ hg))) (λ s'=>by rw[kR];exact Nat.le_refl _) (λ s' t' b2 ht o9 => ?_) (λ s' t' g' hl bj _ => ?_)
  ·rw[VK]at o9
   by_cases h:s'=s/\t'=t
   ·obtain ⟨rfl,rfl⟩:=h
    rw[if_pos ⟨rfl,rfl⟩]at o9;obtain rfl:b'=b2:=by simpa using o9
    refine ⟨b,hb,hz',rfl,λ g2 ar e' gj wv => ?_⟩;obtain rfl:g=g2:=by rw[hg]at gj;simpa using gj
    rw[ha]at wv;obtain ⟨rfl,rfl⟩:arr=ar/\e=e':=by simpa using wv
    exact ⟨s9,Kz,u5⟩
   ·rw[if_neg h]at o9
    refine ⟨b2,o9,rfl,rfl,λ g2 ar e' gj wv=>⟨ar,?_,rfl⟩⟩;rw[<-wv];exact hk g2 (λ e2=>h (by
     subst e2;exact hm.inj s' t' s t b2 b g2 o9 hb gj hg))
  ·obtain ⟨b2,o9⟩:=hl
   rw[VK]at o9;by_cases h:s'=s/\t'=t
   ·obtain ⟨rfl,rfl⟩:=h
    exact ⟨s',t',⟨b,hb⟩,bj⟩
   ·rw[if_neg h]at o9
    exact ⟨s',t',⟨b2,o9⟩,bj⟩
 refine ⟨⟨eo,by rw[va];exact hm.size,λ s' t' ht => ?_,λ s' t' b2 o9 => ?_,λ s1 t1 s2 t2 b1 b2 g1 h1 h2 e1 e2 => ?_⟩,he⟩
 ·rw[kR]at ht
  rw[VK,if_neg (by rintro ⟨rfl,rfl⟩;omega)];exact hm.fresh s' t' ht
 ·rw[VK]at o9
  by_cases h:s'=s/\t'=t
  ·obtain ⟨rfl,rfl⟩:=h
   rw[if_pos ⟨rfl,rfl⟩]at o9;obtain rfl:b'=b2:=by simpa using o9
   refine ⟨hz,?_⟩;show match m.ν s' t' with|none=>_|some g=>_
   rw[hg];refine ⟨(hm.ge ⟨b,hb⟩ hg).1,s9,e,Kz,λ i cs hi j c hj => ?_⟩;obtain ⟨u,hu,v8⟩:=hc i cs hi j c hj;exact ⟨u,hu,he.cc v8⟩
  ·rw[if_neg h]at o9
   obtain ⟨h1,h2⟩:=hm.c9 s' t' b2 o9;refine ⟨h1,?_⟩;show match m.ν s' t' with|none=>_|some g=>_
   cases hv:m.ν s' t' with
   | none=>rw[hv]at h2;exact h2
   | some g2 =>
    rw[hv]at h2;obtain ⟨h3,ar,e',h4,h5⟩:=h2;refine ⟨h3,ar,e',?_,λ i cs hi j c hj => ?_⟩
    ·rw[<-h4]
     exact hk g2 (λ e2=>h (by
      subst e2;exact hm.inj s' t' s t b2 b g2 o9 hb hv hg))
    ·obtain ⟨u,hu,v8⟩:=h5 i cs hi j c hj
     exact ⟨u,hu,he.cc v8⟩
 ·have old : ∀ s' t' b2,(m.own.put s ((m.own s).n9 t (some b'))).get s' t'=some b2 -> ∃ b3,m.own.get s' t'=some b3:=λ s' t' b2 h=>by
   rw[VK]at h;by_cases h':s'=s/\t'=t
   ·obtain ⟨rfl,rfl⟩:=h';exact ⟨b,hb⟩
   ·rw[if_neg h']at h;exact ⟨b2,h⟩
  obtain ⟨c1,k1⟩:=old s1 t1 b1 h1;obtain ⟨c2,k2⟩:=old s2 t2 b2 h2;exact hm.inj s1 t1 s2 t2 c1 c2 g1 k1 k2 e1 e2
theorem RT (o:AH) (s t s' t':Nat) (b:DY):(o.put s (((o s).n9 t none).new b)).get s' t'=if s'=s/\t'=o.g7 s then some b else if s'=s/\t'=t then none else o.get s' t':=by
 unfold AH.get AH.put CD.new CD.n9 AH.g7;by_cases h:s'=s
 ·subst h
  by_cases h2:t'=(o s').g7<;>by_cases h3:t'=t<;>simp [h2,h3]
 ·simp [h]
theorem XF (o:AH) (s t s':Nat) (b:DY):(o.put s (((o s).n9 t none).new b)).g7 s'=if s'=s then o.g7 s+1 else o.g7 s':=by
 unfold AH.g7 AH.put CD.new CD.n9;by_cases h:s'=s<;>simp [h]
theorem eA {m:M} (hm:BN B S w0 m) (s t:Nat) (b b':DY) (hb:m.own.get s t=some b) (au:Option Nat) (w':World) (eo:Below B w0 w') (u5:m.w.heap.size<=w'.heap.size)
  (hk : ∀ k,k<m.w.heap.size->m.ν s t≠some k->w'.heap[k]? = m.w.heap[k]?) (hz : ∀ x∈b'.es,x.length=b'.a9)
  (Ce:au=none->b'.es=[])
  (ql : ∀ g,au=some g->B<=g/\(m.w.heap.size<=g\/m.ν s t=some g) /\ ∃ arr e,w'.heap[g]? = some (.cells arr e (0,0)) /\
   ∀ i cs,b'.es[i]? = some cs -> ∀ j c,cs[j]? = some c -> ∃ u,arr[i*b'.a9+j]? = some u/\CC B S m c u) :
  BN B S w0 ⟨g9 m s au,m.own.put s (((m.own s).n9 t none).new b'),w'⟩/\DG B S m ⟨g9 m s au,m.own.put s (((m.own s).n9 t none).new b'),w'⟩:=by
 have k6:t<m.own.g7 s:=by
  rcases Nat.lt_or_ge t (m.own.g7 s) with h|h
  ·exact h
  ·rw[hm.fresh s t h]at hb;cases hb
 have hν : ∀ s' t',live m s' t'->g9 m s au s' t'=m.ν s' t':=λ s' t' hl=>by
  unfold g9;rw[if_neg];rintro ⟨rfl,rfl⟩
  exact YI hm _ hl
 have he:DG B S m ⟨g9 m s au,m.own.put s (((m.own s).n9 t none).new b'),w'⟩:=by
  refine RR hm u5 (λ k dz hn=>hk k dz (hn s t ⟨b,hb⟩)) (λ s' => ?_) (λ s' t' b2 ht o9 => ?_) (λ s' t' g' hl bj qa => ?_)
  ·rw[XF];split
   ·rename_i h;subst h;omega
   ·exact Nat.le_refl _
  ·rw[RT]at o9
   rw[if_neg (by rintro ⟨rfl,rfl⟩;omega)]at o9;by_cases h:s'=s/\t'=t
   ·rw[if_pos h]at o9;cases o9
   ·rw[if_neg h]at o9
    refine ⟨b2,o9,rfl,hν s' t' ⟨b2,o9⟩,λ g2 ar e' gj wv=>⟨ar,?_,rfl⟩⟩;rw[<-wv];exact hk g2 (Array.getElem?_eq_some_iff.1 wv).1 (λ e2=>h (hm.inj s' t' s t b2 b g2 o9 hb gj e2))
  ·obtain ⟨b2,o9⟩:=hl
   rw[RT]at o9;by_cases h0:s'=s/\t'=m.own.g7 s
   ·simp only[g9,if_pos h0]at bj
    obtain ⟨_,h2,_⟩:=ql g' bj;rcases h2 with h2|h2
    ·omega
    ·exact ⟨s,t,⟨b,hb⟩,h2⟩
   ·rw[if_neg h0]at o9
    by_cases h:s'=s/\t'=t
    ·rw[if_pos h]at o9;cases o9
    ·rw[if_neg h]at o9
     exact ⟨s',t',⟨b2,o9⟩,by rw[<-hν s' t' ⟨b2,o9⟩];exact bj⟩
 refine ⟨⟨eo,Nat.le_trans hm.size u5,λ s' t' ht => ?_,λ s' t' b2 o9 => ?_,λ s1 t1 s2 t2 b1 b2 g1 h1 h2 e1 e2 => ?_⟩,he⟩
 ·rw[XF]at ht
  have jq:m.own.g7 s'<=t' /\ ¬ (s'=s/\t'=m.own.g7 s):=by
   by_cases h:s'=s
   ·subst h
    simp at ht;exact ⟨by omega,by omega⟩
   ·simp [h]at ht
    exact ⟨ht,λ h'=>h h'.1⟩
  rw[RT,if_neg jq.2];split
  ·rfl
  ·exact hm.fresh s' t' jq.1
 ·rw[RT]at o9
  by_cases h0:s'=s/\t'=m.own.g7 s
  ·rw[if_pos h0]at o9
   obtain rfl:b'=b2:=by simpa using o9
   refine ⟨hz,?_⟩;show match g9 m s au s' t' with|none=>_|some g=>_
   rw[show g9 m s au s' t'=au by simp [g9,h0]];cases au with
   | none=>exact Ce rfl
   | some g =>
    obtain ⟨h1,_,arr,e,h4,h5⟩:=ql g rfl;refine ⟨h1,arr,e,h4,λ i cs hi j c hj => ?_⟩;obtain ⟨u,hu,v8⟩:=h5 i cs hi j c hj;exact ⟨u,hu,he.cc v8⟩
  ·rw[if_neg h0]at o9
   by_cases h:s'=s/\t'=t
   ·rw[if_pos h]at o9;cases o9
   ·rw[if_neg h]at o9
    obtain ⟨h1,h2⟩:=hm.c9 s' t' b2 o9;refine ⟨h1,?_⟩;show match g9 m s au s' t' with|none=>_|some g=>_
    rw[hν s' t' ⟨b2,o9⟩];cases hv:m.ν s' t' with
    | none=>rw[hv]at h2;exact h2
    | some g2 =>
     rw[hv]at h2;obtain ⟨h3,ar,e',h4,h5⟩:=h2;refine ⟨h3,ar,e',?_,λ i cs hi j c hj => ?_⟩
     ·rw[<-h4]
      exact hk g2 (Array.getElem?_eq_some_iff.1 h4).1 (λ e2=>h (hm.inj s' t' s t b2 b g2 o9 hb hv e2))
     ·obtain ⟨u,hu,v8⟩:=h5 i cs hi j c hj
      exact ⟨u,hu,he.cc v8⟩
 ·rw[RT]at h1 h2
  have old : ∀ s' t' b2,(if s'=s/\t'=t then none else m.own.get s' t')=some b2->m.own.get s' t'=some b2 /\ ¬ (s'=s/\t'=t):=λ s' t' b2 h=>by
   by_cases h':s'=s/\t'=t
   ·rw[if_pos h']at h;cases h
   ·rw[if_neg h']at h;exact ⟨h,h'⟩
  have jc : ∀ s' t' b2,m.own.get s' t'=some b2 -> ¬ (s'=s/\t'=t)->g9 m s au s' t'=some g1->au=some g1->False:=λ s' t' b2 o9 l9 e1 e2=>by
   rw[hν s' t' ⟨b2,o9⟩]at e1;obtain ⟨_,h2,_⟩:=ql g1 e2;obtain ⟨_,ar,e',h4⟩:=hm.ge ⟨b2,o9⟩ e1;have:=(Array.getElem?_eq_some_iff.1 h4).1
   rcases h2 with h2|h2
   ·omega
   ·exact l9 (hm.inj s' t' s t b2 b g1 o9 hb e1 h2)
  have at_ : ∀ s' t',s'=s/\t'=m.own.g7 s->g9 m s au s' t'=some g1->au=some g1:=λ s' t' h hg=>by simpa [g9,if_pos h] using hg
  by_cases p1:s1=s/\t1=m.own.g7 s<;>by_cases p2:s2=s/\t2=m.own.g7 s
  ·exact ⟨p1.1.trans p2.1.symm,p1.2.trans p2.2.symm⟩
  ·rw[if_neg p2]at h2
   obtain ⟨k2,n2⟩:=old s2 t2 b2 h2;exact (jc s2 t2 b2 k2 n2 e2 (at_ s1 t1 p1 e1)).elim
  ·rw[if_neg p1]at h1
   obtain ⟨k1,n1⟩:=old s1 t1 b1 h1;exact (jc s1 t1 b1 k1 n1 e1 (at_ s2 t2 p2 e2)).elim
  ·rw[if_neg p1]at h1
   rw[if_neg p2]at h2;obtain ⟨k1,n1⟩:=old s1 t1 b1 h1;obtain ⟨k2,n2⟩:=old s2 t2 b2 h2;exact hm.inj s1 t1 s2 t2 b1 b2 g1 k1 k2 (by rw[<-hν s1 t1 ⟨b1,k1⟩];exact e1) (by rw[<-hν s2 t2 ⟨b2,k2⟩];exact e2)
theorem oS (o:AH) (l:List Nat) (s t:Nat):(o.drop l).get s t=if s∈l then none else o.get s t:=by
 induction l with
 | nil=>simp [AH.drop]
 | cons x r ih =>
  unfold AH.get at *;by_cases h:s=x
  ·subst h;simp [AH.drop,AH.put]
  ·simp only[AH.drop,AH.put,if_neg h,List.mem_cons]
   rw[ih];by_cases h2:s∈r<;>simp [h,h2]
theorem kQ (o:AH) (l:List Nat) (s:Nat):(o.drop l).g7 s=o.g7 s:=by
 induction l with
 | nil=>simp [AH.drop]
 | cons x r ih =>
  unfold AH.g7 at *;by_cases h:s=x
  ·subst h;simp [AH.drop,AH.put]
  ·simp [AH.drop,AH.put,h,ih]
theorem Qr {m:M} (hm:BN B S w0 m) (l:List Nat):BN B S w0 ⟨m.ν,m.own.drop l,m.w⟩/\DG B S m ⟨m.ν,m.own.drop l,m.w⟩:=by
 have old : ∀ s t b,(m.own.drop l).get s t=some b->m.own.get s t=some b:=λ s t b h=>by
  rw[oS]at h;split at h
  ·cases h
  ·exact h
 have he:DG B S m ⟨m.ν,m.own.drop l,m.w⟩:=by
  refine RR hm (Nat.le_refl _) (λ_ _ _=>rfl) (λ s=>by rw[kQ];exact Nat.le_refl _) (λ s t b' _ k7=>⟨b',old s t b' k7,rfl,rfl,λ_ ar _ _ ha=>⟨ar,ha,rfl⟩⟩) (λ s t g hl hg _ => ?_);obtain ⟨b,hb⟩:=hl;exact ⟨s,t,⟨b,old s t b hb⟩,hg⟩
 refine ⟨⟨hm.below,hm.size,λ s t ht => ?_,λ s t b hb => ?_,λ s1 t1 s2 t2 b1 b2 g h1 h2=>hm.inj s1 t1 s2 t2 b1 b2 g (old _ _ _ h1) (old _ _ _ h2)⟩,he⟩
 ·rw[kQ]at ht
  rw[oS];split
  ·rfl
  ·exact hm.fresh s t ht
 ·obtain ⟨h1,h2⟩:=hm.c9 s t b (old s t b hb)
  refine ⟨h1,?_⟩;show match m.ν s t with|none=>_|some g=>_
  cases hv:m.ν s t with
  | none=>rw[hv]at h2;exact h2
  | some g =>
   rw[hv]at h2;obtain ⟨h3,ar,e',h4,h5⟩:=h2;refine ⟨h3,ar,e',h4,λ i cs hi j c hj => ?_⟩;obtain ⟨u,hu,v8⟩:=h5 i cs hi j c hj;exact ⟨u,hu,he.cc v8⟩
end
end Go.b7

namespace Go.b7
section
variable {P:Program} {num:Nat->Nat} {op:Op}
theorem Va {y:AP} (h:BA P num op (.a8 y)=true) : ∃ x,(op = .move x\/op = .assign x)/\B3 x y=true:=by
 cases op with
 | move x=>exact ⟨x,.inl rfl,h⟩
 | assign x=>exact ⟨x,.inr rfl,h⟩
 | _=>exact Bool.noConfusion h
theorem Yt {s z:Nat} (h:BA P num op (.x8 s z)=true):(op = .move (.const (.slice none 0 0))\/op = .assign (.const (.slice none 0 0)))/\z≠0:=by
 simp only[BA,Bool.and_eq_true,bne_iff_ne]at h;refine ⟨?_,h.1⟩;have h2:=h.2;split at h2<;>simp_all
theorem Vb {c' a' b':AP} (h:BA P num op (.pick c' a' b')=true) : ∃ c a b,op = .pick c a b/\B3 c c'=true/\B3 a a'=true/\B3 b b'=true:=by
 cases op with
 | pick c a b=>simp only[BA,Bool.and_eq_true]at h;exact ⟨c,a,b,rfl,h.1.1,h.1.2,h.2⟩
 | _=>exact Bool.noConfusion h
theorem Vw {f:BinOp} {x' y':AP} (h:BA P num op (.bin f x' y')=true) : ∃ t x y u,op = .binOp f t x y u/\B3 x x'=true/\B3 y y'=true:=by
 cases op with
 | binOp f' t x y u =>
  simp only[BA,Bool.and_eq_true,beq_iff_eq]at h;exact ⟨t,x,y,u,by rw[h.1.1],h.1.2,h.2⟩
 | _=>exact Bool.noConfusion h
theorem Vv {ne:Bool} {x' y':AP} (h:BA P num op (.beq ne x' y')=true) : ∃ t x y u,op = .binOp (if ne then .neq else .eql) t x y u/\P.underlying t=some .bool/\B3 x x'=true/\B3 y y'=true:=by
 cases op with
 | binOp f' t x y u =>
  simp only[BA,Bool.and_eq_true]at h;obtain ⟨⟨⟨h1,h2⟩,h3⟩,h4⟩:=h;refine ⟨t,x,y,u,?_,?_,h3,h4⟩
  ·cases ne<;>simp_all
  ·split at h2<;>simp_all
 | _=>exact Bool.noConfusion h
theorem Ys {f:UnOp} {x':AP} (h:BA P num op (.un f x')=true) : ∃ t x,op = .unOp f t x/\B3 x x'=true:=by
 cases op with
 | unOp f' t x =>
  simp only[BA,Bool.and_eq_true,beq_iff_eq]at h;exact ⟨t,x,by rw[h.1],h.2⟩
 | _=>exact Bool.noConfusion h
theorem Wf {k:IntKind} {x':AP} (h:BA P num op (.conv k x')=true) : ∃ s d x ds,op = .convert s d x/\P.underlying s=some ds/\P.underlying d=some (.int k)/\B3 x x'=true:=by
 cases op with
 | convert s d x =>
  simp only[BA,Bool.and_eq_true]at h;obtain ⟨⟨h1,h2⟩,h3⟩:=h;obtain ⟨ds,xi⟩:=Option.isSome_iff_exists.1 h1;refine ⟨s,d,x,ds,rfl,xi,?_,h3⟩;split at h2<;>simp_all
 | _=>exact Bool.noConfusion h
theorem Vx {s:Nat} {x':AP} (h:BA P num op (.box s x')=true) : ∃ t x,op = .box t x/\B3 x x'=true:=by
 cases op with
 | box t x=>exact ⟨t,x,rfl,h⟩
 | _=>exact Bool.noConfusion h
theorem Vu {s:Nat} {z:List AV} (h:BA P num op (.alloc s z)=true) : ∃ t,op = .alloc t/\ST P t z=true:=by
 cases op with
 | alloc t=>exact ⟨t,rfl,h⟩
 | _=>exact Bool.noConfusion h
theorem Vz {z:List AV} {az:List (Nat × Nat × AP)} (h:BA P num op (.build z az)=true) : ∃ t ps,op = .build t ps/\ST P t z=true/\aM P t ps.toList az=true:=by
 cases op with
 | build t ps=>simp only[BA,Bool.and_eq_true]at h;exact ⟨t,ps,rfl,h.1,h.2⟩
 | _=>exact Bool.noConfusion h
theorem SG {t:TypeId} {f:TypeId->Bool} (h:N5 P t f=true) : ∃ e,P.underlying t=some (.slice e)/\f e=true:=by
 unfold N5 at h;split at h
 ·rename_i e he;exact ⟨e,he,h⟩
 ·cases h
theorem O4 {t:TypeId} {n:Nat} (h:J3 P t n=true) : ∃ i,P.info? t=some i/\i.size=n:=by
 unfold J3 at h;split at h
 ·rename_i i hi;exact ⟨i,hi,by simpa using h⟩
 ·cases h
theorem jU {t:TypeId} {n:Nat} (h:W6 P t n=true) : ∃ i,P.info? t=some i/\i.bytes=n:=by
 unfold W6 at h;split at h
 ·rename_i i hi;exact ⟨i,hi,by simpa using h⟩
 ·cases h
theorem iD {t:TypeId} {l:List AV} (h:ST P t l=true) : ∃ i z,P.info? t=some i/\i.zero=some z/\PP z.cells.toList l=true:=by
 unfold ST at h;split at h
 ·rename_i i hi
  split at h
  ·rename_i z hz;exact ⟨i,z,hi,hz,h⟩
  ·cases h
 ·cases h
theorem aC {t:TypeId} {b:Bool} (h:(S0 P t == some b)=true) : ∀ w,(isAgg t).run P w = .ok b w:=by
 intro w;have h':S0 P t=some b:=by simpa using h
 unfold S0 at h';unfold isAgg;cases hu:P.underlying t with
 | none=>rw[hu]at h';cases h'
 | some d =>
  rw[hu]at h';rw[Sem.run_bind,run_underlying hu];cases d<;>simp_all<;>rfl
theorem vI {e:TypeId} {n:Nat} (h:(match P.info? e with|some i=>(match i.zero with|some z=>z.cells.size == n|none=>false)|none=>false)=true) : ∃ i z,P.info? e=some i/\i.zero=some z/\z.cells.size=n:=by
 split at h
 ·rename_i i hi
  split at h
  ·rename_i z hz;exact ⟨i,z,hi,hz,by simpa using h⟩
  ·cases h
 ·cases h
theorem Vy {s a9:Nat} {az:List AP} (h:BA P num op (.b8 s a9 az)=true) : ∃ t n ps e i,op = .buildSlice t n ps/\P.underlying t=some (.slice e)/\P.info? e=some i/\i.size=a9/\a9≠0/\n=az.length/\n*a9<=16777216/\RL 0 ps.toList az=true/\(n=0 \/ ∃ z,i.zero=some z/\z.cells.size=a9):=by
 cases op with
 | buildSlice t n ps =>
  simp only[BA,Bool.and_eq_true,decide_eq_true_eq,bne_iff_ne,beq_iff_eq,Bool.or_eq_true]at h;obtain ⟨⟨⟨⟨⟨h1,h2⟩,h3⟩,h4⟩,h5⟩,h6⟩:=h;obtain ⟨e,he,h1⟩:=SG h1;obtain ⟨i,hi,hs⟩:=O4 h1;refine ⟨t,n,ps,e,i,rfl,he,hi,hs,h2,h3,h4,h5,h6.imp id λ h6 => ?_⟩;obtain ⟨e',cr,h6⟩:=SG h6;rw[he]at cr;obtain rfl:e=e':=by simpa using cr
  obtain ⟨i',z,n8,hz,rk⟩:=vI h6;rw[hi]at n8;obtain rfl:i=i':=by simpa using n8
  exact ⟨z,hz,rk⟩
 | _=>exact Bool.noConfusion h
theorem pK {x':AP} {off:Nat} (h:BA P num op (.a5 x' off)=true) : ∃ t x f fs fd i,op = .fieldAddr t x f/\B3 x x'=true/\P.underlying t=some (.struct fs)/\fs[f]? = some fd/\fd.offset=off/\P.info? fd.type=some i/\i.size≠0:=by
 cases op with
 | fieldAddr t x f =>
  simp only[BA,Bool.and_eq_true]at h;obtain ⟨h1,h2⟩:=h;split at h2
  ·rename_i fs po
   split at h2
   ·rename_i fd Ed
    simp only[Bool.and_eq_true,beq_iff_eq]at h2;obtain ⟨h3,h4⟩:=h2;split at h4
    ·rename_i i hi
     exact ⟨t,x,f,fs,fd,i,rfl,h1,po,Ed,h3,hi,by simpa using h4⟩
    ·cases h4
   ·cases h2
  ·cases h2
 | _=>exact Bool.noConfusion h
theorem Uv {x':AP} {off n:Nat} {agg:Bool} (h:BA P num op (.jy x' off n agg)=true) : ∃ t x f fs fd i,op = .field t x f/\B3 x x'=true/\P.underlying t=some (.struct fs)/\fs[f]? = some fd/\fd.offset=off/\P.info? fd.type=some i/\i.size=n/\(∀ w,(isAgg fd.type).run P w = .ok agg w)/\n≠0:=by
 cases op with
 | field t x f =>
  simp only[BA,Bool.and_eq_true]at h;obtain ⟨⟨h1,h2⟩,h3⟩:=h;unfold oG at h2;unfold oH at h3;split at h2
  ·rename_i fs po
   split at h2
   ·rename_i fd Ed
    simp only[Bool.and_eq_true,beq_iff_eq,bne_iff_ne]at h2;obtain ⟨⟨h4,h5⟩,h6⟩:=h2;obtain ⟨i,hi,hs⟩:=O4 h5;rw[po]at h3;simp only[Ed]at h3;exact ⟨t,x,f,fs,fd,i,rfl,h1,po,Ed,h4,hi,hs,aC h3,h6⟩
   ·cases h2
  ·cases h2
 | _=>exact Bool.noConfusion h
theorem X7 {arr:Option Nat} {a9:Nat} {x' i':AP} (h:BA P num op (.a7 arr a9 x' i')=true) : ∃ t x i e inf,op = .indexAddr t x i/\B3 x x'=true/\B3 i i'=true/\P.info? e=some inf/\inf.size=a9 /\
  ((∃ len,arr=some len/\P.underlying t=some (.array len e)/\1<len)\/(arr=none/\P.underlying t=some (.slice e)/\a9≠0)):=by
 cases op with
 | indexAddr t x i =>
  simp only[BA,Bool.and_eq_true]at h;obtain ⟨⟨h1,h2⟩,h3⟩:=h;split at h3
  ·rename_i len e nt hu
   simp only[Bool.and_eq_true,beq_iff_eq,decide_eq_true_eq]at h3;obtain ⟨⟨h4,h5⟩,h6⟩:=h3;obtain ⟨inf,hi,hs⟩:=O4 h5;exact ⟨t,x,i,e,inf,rfl,h1,h2,hi,hs,.inl ⟨len,by rw[h4],hu,h6⟩⟩
  ·rename_i e hu
   simp only[Bool.and_eq_true,bne_iff_ne]at h3;obtain ⟨inf,hi,hs⟩:=O4 h3.1;exact ⟨t,x,i,e,inf,rfl,h1,h2,hi,hs,.inr ⟨rfl,hu,h3.2⟩⟩
  ·cases h3
 | _=>exact Bool.noConfusion h
theorem pL {agg:Bool} {n:Nat} {x':AP} (h:BA P num op (.ld agg n x')=true) : ∃ t x,op = .load t x/\B3 x x'=true/\(∀ w,(isAgg t).run P w = .ok agg w)/\(if agg then ∃ i,P.info? t=some i/\i.size=n else n=1):=by
 cases op with
 | load t x =>
  simp only[BA,Bool.and_eq_true]at h;obtain ⟨⟨h1,h2⟩,h3⟩:=h;refine ⟨t,x,rfl,h1,aC h2,?_⟩;cases agg
  ·simpa using h3
  ·exact O4 (by simpa using h3)
 | _=>exact Bool.noConfusion h
theorem Vd {n:Nat} {x' v':AP} (h:BA P num op (.st n x' v')=true) : ∃ t x v i,op = .store t x v/\B3 x x'=true/\B3 v v'=true/\P.info? t=some i/\i.size=n:=by
 cases op with
 | store t x v =>
  simp only[BA,Bool.and_eq_true]at h;obtain ⟨⟨h1,h2⟩,h3⟩:=h;obtain ⟨i,hi,hs⟩:=O4 h3;exact ⟨t,x,v,i,rfl,h1,h2,hi,hs⟩
 | _=>exact Bool.noConfusion h
theorem Uy {s a9 bytes:Nat} {zero:List AV} {l' c':AP} (h:BA P num op (.mk s a9 bytes zero l' c')=true) : ∃ t l c e i z,op = .makeSlice t l c/\B3 l l'=true/\B3 c c'=true/\P.underlying t=some (.slice e)/\P.info? e=some i/\i.size=a9/\i.bytes=bytes/\i.zero=some z/\PP z.cells.toList zero=true/\a9≠0:=by
 cases op with
 | makeSlice t l c =>
  simp only[BA,Bool.and_eq_true,bne_iff_ne]at h;obtain ⟨⟨⟨h1,h2⟩,h3⟩,h4⟩:=h;obtain ⟨e,he,h3⟩:=SG h3;simp only[Bool.and_eq_true]at h3;obtain ⟨⟨h5,h6⟩,h7⟩:=h3;obtain ⟨i,hi,hs⟩:=O4 h5;obtain ⟨i2,ti,yj⟩:=jU h6;obtain ⟨i3,z,zl,hz,fc⟩:=iD h7;rw[hi]at ti zl;obtain rfl:i=i2:=by simpa using ti
  obtain rfl:i=i3:=by simpa using zl
  exact ⟨t,l,c,e,i,z,rfl,h1,h2,he,hi,hs,yj,hz,fc,h4⟩
 | _=>exact Bool.noConfusion h
theorem dK {a9:Nat} {x':AP} {kg n8:Option AP} (h:BA P num op (.bz a9 x' kg n8)=true) : ∃ t x lo hi e i,op = .slice t x lo hi none/\B3 x x'=true/\OU lo kg=true/\OU hi n8=true/\P.underlying t=some (.slice e)/\P.info? e=some i/\i.size=a9/\a9≠0:=by
 cases op with
 | slice t x lo hi mx =>
  cases mx with
  | some _=>exact Bool.noConfusion h
  | none =>
   simp only[BA,Bool.and_eq_true,bne_iff_ne]at h;obtain ⟨⟨⟨⟨h1,h2⟩,h3⟩,h4⟩,h5⟩:=h;obtain ⟨e,he,h4⟩:=SG h4;obtain ⟨i,n8,hs⟩:=O4 h4;exact ⟨t,x,lo,hi,e,i,rfl,h1,h2,h3,he,n8,hs,h5⟩
 | _=>exact Bool.noConfusion h
theorem Uu {x':AP} {i:Nat} (h:BA P num op (.ext x' i)=true) : ∃ x,op = .extract x i/\B3 x x'=true:=by
 cases op with
 | extract x j =>
  simp only[BA,Bool.and_eq_true,beq_iff_eq]at h;exact ⟨x,by rw[h.2],h.1⟩
 | _=>exact Bool.noConfusion h
theorem uQ {α:Type} {xs:Array α} {x y:α} (h:xs.toList=[x,y]):xs = #[x,y]:=by cases xs;simp_all
theorem uP {α:Type} {xs:Array α} {x:α} (h:xs.toList=[x]):xs = #[x]:=by cases xs;simp_all
theorem Ux {x':AP} (h:BA P num op (.len x')=true) : ∃ x t e,op = .call ⟨.builtin .len,#[x],#[t]⟩/\B3 x x'=true/\P.underlying t=some (.slice e):=by
 cases op with
 | call c =>
  obtain ⟨cl,xs,ts⟩:=c;cases cl with
  | builtin b =>
   cases b<;>first|exact Bool.noConfusion h|skip
   simp only[BA]at h;split at h
   ·rename_i x t hx ht
    simp only[Bool.and_eq_true]at h;obtain ⟨e,he,_⟩:=SG h.2;exact ⟨x,t,e,by rw[uP hx,uP ht],h.1,he⟩
   ·cases h
  | value f=>cases f<;>exact Bool.noConfusion h
  | invoke=>exact Bool.noConfusion h
 | _=>exact Bool.noConfusion h
theorem pM {mx:Bool} {m8:List AP} (h:BA P num op (.mm mx m8)=true) : ∃ xs ts,op = .call ⟨.builtin (if mx then .max else .min),xs,ts⟩/\D6 xs.toList m8=true:=by
 cases op with
 | call c =>
  obtain ⟨cl,xs,ts⟩:=c;cases cl with
  | builtin b =>
   cases b<;>first|exact Bool.noConfusion h|skip
   all_goals
    simp only[BA,Bool.and_eq_true]at h;refine ⟨xs,ts,?_,h.2⟩;cases mx<;>simp_all
  | value f=>cases f<;>exact Bool.noConfusion h
  | invoke=>exact Bool.noConfusion h
 | _=>exact Bool.noConfusion h
theorem pJ {s a9 bytes:Nat} {x' y':AP} (h:BA P num op (.app s a9 bytes x' y')=true) : ∃ x y t e i z tx ex,op = .call ⟨.builtin .append,#[x,y],#[t,tx]⟩/\B3 x x'=true/\B3 y y'=true/\P.underlying t=some (.slice e)/\P.info? e=some i/\i.size=a9/\i.bytes=bytes/\i.zero=some z/\z.cells.size=a9/\a9≠0/\P.underlying tx=some (.slice ex):=by
 cases op with
 | call c =>
  obtain ⟨cl,xs,ts⟩:=c;cases cl with
  | builtin b =>
   cases b<;>first|exact Bool.noConfusion h|skip
   simp only[BA]at h;split at h
   ·rename_i x y t u hx ht
    simp only[Bool.and_eq_true,beq_iff_eq,bne_iff_ne]at h;obtain ⟨⟨⟨⟨h1,h2⟩,h3⟩,h4⟩,h5⟩:=h;obtain ⟨e,he,h3⟩:=SG h3;simp only[Bool.and_eq_true]at h3;obtain ⟨⟨h6,h7⟩,h8⟩:=h3;obtain ⟨i,hi,hs⟩:=O4 h6;obtain ⟨i2,ti,yj⟩:=jU h7;obtain ⟨i3,z,zl,hz,fc⟩:=vI h8;rw[hi]at ti zl;obtain rfl:i=i2:=by simpa using ti
    obtain rfl:i=i3:=by simpa using zl
    obtain ⟨ex,hex,_⟩:=SG h5;exact ⟨x,y,t,e,i,z,u,ex,by rw[uQ hx,uQ ht],h1,h2,he,hi,hs,yj,hz,fc,h4,hex⟩
   ·cases h
  | value f=>cases f<;>exact Bool.noConfusion h
  | invoke=>exact Bool.noConfusion h
 | _=>exact Bool.noConfusion h
theorem dI {f:Nat} {m8:List AP} (h:BA P num op (.call f m8)=true) : ∃ xs ts,op = .call ⟨.value (.func (num f)),xs,ts⟩/\D6 xs.toList m8=true:=by
 cases op with
 | call c =>
  obtain ⟨cl,xs,ts⟩:=c;cases cl with
  | builtin b=>cases b<;>exact Bool.noConfusion h
  | value g =>
   cases g with
   | func g =>
    simp only[BA,Bool.and_eq_true,beq_iff_eq]at h;exact ⟨xs,ts,by rw[h.1],h.2⟩
   | _=>exact Bool.noConfusion h
  | invoke=>exact Bool.noConfusion h
 | _=>exact Bool.noConfusion h
theorem Wa {f:Nat} {m8:List AP} (h:BA P num op (.e9 f m8)=true) : ∃ xs ts,op = .call ⟨.value (.func (num f)),xs,ts⟩/\D6 xs.toList m8=true:=by
 cases op with
 | call c =>
  obtain ⟨cl,xs,ts⟩:=c;cases cl with
  | builtin b=>cases b<;>exact Bool.noConfusion h
  | value g =>
   cases g with
   | func g =>
    simp only[BA,Bool.and_eq_true,beq_iff_eq]at h;exact ⟨xs,ts,by rw[h.1],h.2⟩
   | _=>exact Bool.noConfusion h
  | invoke=>exact Bool.noConfusion h
 | _=>exact Bool.noConfusion h
theorem Wb {f:Nat} {m8:List AP} (h:BA P num op (.l8 f m8)=true):BA P num op (.call f m8)=true:=by
 cases op<;>exact h
theorem We {s f:Nat} {m8:List AP} (h:BA P num op (.z7 s f m8)=true):BA P num op (.e9 f m8)=true:=by
 cases op<;>exact h
theorem Wc {s f:Nat} {m8:List AP} (h:BA P num op (.o8 s f m8)=true):BA P num op (.call f m8)=true:=by
 cases op<;>exact h
theorem Yr {s n:Nat} {x' v':AP} (h:BA P num op (.kj s n x' v')=true):BA P num op (.st n x' v')=true:=by
 cases op<;>exact h
theorem Uw {ne:Bool} {x':AP} (h:BA P num op (.nr ne x')=true) : ∃ t x u e,op = .binOp (if ne then .neq else .eql) t x (.const (.slice none 0 0)) u/\P.underlying t=some (.slice e)/\B3 x x'=true:=by
 cases op with
 | binOp f' t x y u =>
  simp only[BA]at h;split at h
  ·rename_i heq
   simp only[Op.binOp.injEq]at heq;obtain ⟨rfl,rfl,rfl,rfl,rfl⟩:=heq;simp only[Bool.and_eq_true]at h;obtain ⟨⟨h1,h2⟩,h3⟩:=h;unfold N5 at h2;split at h2
   ·rename_i e he
    refine ⟨t,x,u,e,?_,he,h3⟩;cases ne
    ·simp only[Bool.false_eq_true,if_false,beq_iff_eq]at h1;rw[h1];rfl
    ·simp only[if_true,beq_iff_eq]at h1;rw[h1];rfl
   ·cases h2
  ·cases h
 | _=>exact Bool.noConfusion h
theorem Vc {tb:List Nat} {i':AP} (h:BA P num op (.de tb i')=true) : ∃ t s i,op = .index t (.const (.string s)) i/\P.underlying t=some .string/\s.data.toList.map (λ b=>b.toNat)=tb/\B3 i i'=true:=by
 cases op with
 | index t x i =>
  simp only[BA]at h;split at h
  ·rename_i heq
   simp only[Op.index.injEq]at heq;obtain ⟨rfl,rfl,rfl⟩:=heq;simp only[Bool.and_eq_true,beq_iff_eq]at h;obtain ⟨⟨h1,h2⟩,h3⟩:=h;exact ⟨_,_,_,rfl,by split at h1<;>simp_all,h2,h3⟩
  ·cases h
 | _=>exact Bool.noConfusion h
theorem Uz {p:Bool} {f:Nat} {m8:List AP} (h:BA P num op (.ki p f m8)=true) : ∃ first xs,op = .makeFunc (.func (num f)) first xs/\first = #[]/\D6 xs.toList m8=true:=by
 cases op with
 | makeFunc g first xs =>
  cases g with
  | func g =>
   simp only[BA,Bool.and_eq_true,beq_iff_eq]at h;obtain ⟨⟨rfl,h2⟩,h3⟩:=h;refine ⟨first,xs,rfl,?_,h3⟩;obtain ⟨l⟩:=first
   simp at h2;rw[h2]
  | _=>exact Bool.noConfusion h
 | _=>exact Bool.noConfusion h
theorem dJ {x':AP} {m8:List AP} (h:BA P num op (.m6 x' m8)=true) : ∃ x xs ts,op = .call ⟨.value x,xs,ts⟩/\B3 x x'=true/\D6 xs.toList m8=true:=by
 cases op with
 | call c =>
  obtain ⟨cl,xs,ts⟩:=c;cases cl with
  | builtin b=>cases b<;>exact Bool.noConfusion h
  | value g =>
   simp only[BA,Bool.and_eq_true]at h;exact ⟨g,xs,ts,rfl,h.1,h.2⟩
  | invoke=>exact Bool.noConfusion h
 | _=>exact Bool.noConfusion h
end
end Go.b7

namespace Go.b7
open Go.RowKit
def CG.v7:CG->AH->AH
 | .val _,o=>o
 | .new s b _,o=>o.put s ((o s).new b)
 | .uf s b _,o=>o.put s ((o s).new b)
 | .al _ o',_=>o'
 | .n9 s x,o=>o.put s x
 | .rz s x _,o=>o.put s x
def CG.valOf:CG->AH->AV
 | .val v,_=>v
 | .new s _ v,o=>v (o.g7 s)
 | .uf s _ v,o=>v (o.g7 s)
 | .al v _,_=>v
 | .n9 _ _,_ => .g8 []
 | .rz _ _ v,_=>v
section
variable {B:Nat} {S:Nat->Prop} {w0:World} {m:M}
theorem IM {k:IntKind} {n:Int} {v:Value} (h:CV B S m (.int k n) v):v = .int k n:=by
 cases h with
 | ca h=>cases h with
  | one h=>cases h with
   | rd h=>cases h;rfl
theorem RI {b:Bool} {v:Value} (h:CV B S m (.bool b) v):v = .bool b:=by
 cases h with
 | ca h=>cases h with
  | one h=>cases h with
   | rd h=>cases h;rfl
theorem Nx {cs:List AV} {v:Value} (h:CV B S m (.agg cs) v) : ∃ vs:List Value,v = .agg vs.toArray/\CL B S m cs vs:=by
 cases h with
 | ca h=>cases h with
  | one h=>cases h with
   | rd h=>cases h
  | agg _ vs h=>exact ⟨vs,rfl,h⟩
theorem aW {cs:List AV} {v:Value} (h:CV B S m (.g8 cs) v) : ∃ vs:List Value,v = .tuple vs.toArray/\cs.length=vs.length /\ ∀ (j:Nat) (c:AV) (u:Value),cs[j]? = some c->vs[j]? = some u->CA B S m c u:=by
 cases h with
 | ca h=>cases h with
  | one h=>cases h with
   | rd h=>cases h
 | g8 _ vs hl h=>exact ⟨vs,rfl,hl,h⟩
theorem QT (k:IntKind) (n:Int):CV B S m (.int k n) (.int k n):= .ca (.one (.rd (.int k n)))
theorem YC (b:Bool):CV B S m (.bool b) (.bool b):= .ca (.one (.rd (.bool b)))
theorem qO:CV B S m (.g8 []) undef := .g8 [] [] rfl (λ j c v h=>by simp at h)
theorem XJ {a:AV} {cs:List AV} {v:Value} (h:CV B S m a v) (hc:cellsOf a=some cs):CL B S m cs v.cells.toList:=by
 cases h with
 | any v=>simp [cellsOf]at hc
 | g8=>simp [cellsOf]at hc
 | ca h=>cases h with
  | agg bg vs h =>
   obtain rfl:bg=cs:=by simpa [cellsOf] using hc
   simpa [Value.cells] using h
  | fn=>simp [cellsOf]at hc
  | ou=>simp [cellsOf]at hc
  | one h =>
   have h1:v.cells.toList=[v]:=by
    cases h with
    | rd h=>cases h<;>rfl
    | _=>rfl
   have h2:cs=[a]:=by
    cases h with
    | rd h=>cases h<;>simp [cellsOf]at hc<;>exact hc.symm
    | _=>simp [cellsOf]at hc;exact hc.symm
   rw[h1,h2];refine ⟨rfl,λ j c u hj hu => ?_⟩;cases j with
   | zero=>simp at hj hu;subst hj hu;exact h
   | succ j=>simp at hj
theorem Pb {cs:List AV} {vs:List Value} (h:CL B S m cs vs) : ∀ v∈vs,v.oneCell'=true:=by
 intro v hv;obtain ⟨j,hj,rfl⟩:=List.getElem_of_mem hv;have zm:j<cs.length:=by rw[h.1];exact hj
 exact (h.2 j cs[j] vs[j] (zE zm) (zE hj)).one
theorem Pc {cs:List AV} {vs:List Value} (h:CL B S m cs vs) (off n:Nat):CL B S m ((cs.drop off).take n) ((vs.drop off).take n):=by
 refine ⟨by simp [h.1],λ j c v hj hv => ?_⟩;rw[List.getElem?_take]at hj hv;split at hj
 ·rename_i k6
  rw[if_pos k6]at hv;rw[List.getElem?_drop]at hj hv;exact h.2 _ c v hj hv
 ·cases hj
theorem mM {v:Value} {a:AV} (h:XU v a=true):CC B S m a v:=by
 unfold XU at h;split at h
 ·simp only[Bool.and_eq_true,beq_iff_eq]at h
  obtain ⟨rfl,rfl⟩:=h;exact .rd (.int _ _)
 ·obtain rfl:_=_:=by simpa using h
  exact .rd (.bool _)
 ·exact .nil
 ·rename_i s s'
  obtain rfl:s=s':=by
   have h':s.data.toList=s'.data.toList:=by simpa using h
   obtain ⟨⟨l⟩⟩:=s;obtain ⟨⟨l'⟩⟩:=s';simp only at h';rw[h']
  exact .rd (.str _)
 ·exact .rd .ic
 ·cases h
theorem TB : ∀ {vs:List Value} {cs:List AV},PP vs cs=true->CL B S m cs vs
 | [],[],_=>⟨rfl,λ j c v h=>by simp at h⟩
 | v::r,c::l,h=>by
  simp only[PP,Bool.and_eq_true]at h;have ih:=TB (vs:=r) (cs:=l) h.2;refine ⟨by simp [ih.1],λ j c' v' hj hv => ?_⟩;cases j with
  | zero=>simp at hj hv;subst hj hv;exact mM h.1
  | succ j=>exact ih.2 j c' v' (by simpa using hj) (by simpa using hv)
 | [],_::_,h=>by simp [PP]at h
 | _::_,[],h=>by simp [PP]at h
theorem Rg {v:Value} {a:AV} (h:bW v a=true):CV B S m a v:=by
 unfold bW at h;split at h
 ·rename_i cs l
  have:=TB (B:=B) (S:=S) (m:=m) h
  exact .ca (by simpa using CA.agg l cs.toList this)
 ·exact .ca (.one (mM h))
def CT (B:Nat) (S:Nat->Prop) (m:M) (ρ:AP->AV) (e:Operand->Value):Prop := ∀ x y,B3 x y=true->CV B S m (ρ y) (e x)
theorem AfG {T:Nat->AV} {a:Act} {ρ:AP->AV} (hρt : ∀ n,ρ (.t n)=T n) (Mc : ∀ v,ρ (.c v)=v) (h : ∀ i,CV B S m (T i) (a.tmps.getD i undef)):CT B S m ρ a.eval:=by
 intro x y og;unfold B3 at og;split at og
 ·obtain rfl:_=_:=by simpa using og
  rw[hρt];exact h _
 ·rw[Mc]
  exact Rg og
 ·obtain rfl:_=_:=by simpa using og
  rw[Mc];exact .ca (.fn _ _ _ [] [] (λ_=>rfl) ⟨rfl,λ j c v h=>by simp at h⟩)
 ·cases og
variable {P:Program} {num:Nat->Nat} {o:Oper} {a:Act} {ρ:AP->AV} {K:Act->World->Prop} {Q:Exit->Act->World->Prop}
theorem P6 {w w':World} {u:Value} (h:(execOp a.eval o).run P w = .ok (.value u) w') (hk:K (a.put o.dst u) w'):o.wp P a w K Q:=by
 unfold Oper.wp;rw[h];exact hk
theorem AgD {w w':World} (h:(execOp a.eval o).run P w = .ok .skip w') (hk:K (a.put o.dst undef) w'):o.wp P a w K Q:=by
 unfold Oper.wp;rw[h];exact hk
def CX (B:Nat) (S:Nat->Prop) (w0:World) (P:Program) (o:Oper) (a:Act) (m:M) (E:CG):Prop :=
 ∀ (K:Act->World->Prop) (Q:Exit->Act->World->Prop),(∀ u m',m'.own=E.v7 m.own->BN B S w0 m'->DG B S m m'->CV B S m' (E.valOf m.own) u->K (a.put o.dst u) m'.w)->o.wp P a m.w K Q
theorem EG (hm:BN B S w0 m) {v:AV} {u:Value} (h:(execOp a.eval o).run P m.w = .ok (.value u) m.w) (hc:CV B S m v u):CX B S w0 P o a m (.val v) :=
 λ K Q hK=>P6 h (hK u m rfl hm (DG.refl m) hc)
theorem Sg (hm:BN B S w0 m) (hs:CT B S m ρ a.eval) {y:AP} (h:BA P num o.op (.a8 y)=true):CX B S w0 P o a m (.val (ρ y)):=by
 obtain ⟨x,hx,he⟩:=Va h;refine EG hm (u:=a.eval x) ?_ (hs x y he);rcases hx with hx|hx<;>simp [execOp,hx]
theorem Qm (hm:BN B S w0 m) {s z:Nat} (h:BA P num o.op (.x8 s z)=true):CX B S w0 P o a m (.uf s ⟨z,[]⟩ (λ t => .row s t z 0 0)):=by
 obtain ⟨hx,hz⟩:=Yt h;intro K Q hK;obtain ⟨h1,h2⟩:=uZ hm s z;refine P6 (u := .slice none 0 0) (w':=m.w) ?_ (hK _ ⟨g9 m s none,m.own.put s ((m.own s).new ⟨z,[]⟩),m.w⟩ rfl h1 h2 ?_)
 ·rcases hx with hx|hx<;>simp [execOp,hx,Act.eval]
 ·refine .ca (.one (.row s (m.own.g7 s) z 0 0 none 0 ?_ (by omega) (Nat.le_refl _) (λ h=>by omega) λ b hb => ?_))
  ·show _<AH.g7 _ s
   rw[KX];simp
  ·change AH.get _ s _=some b at hb
   rw[GE,if_pos ⟨rfl,rfl⟩]at hb;obtain rfl:(⟨z,[]⟩:DY)=b:=by simpa using hb
   exact ⟨rfl,.inl ⟨rfl,rfl⟩⟩
theorem lS (hm:BN B S w0 m) (hs:CT B S m ρ a.eval) {c' a' b':AP} (h:BA P num o.op (.pick c' a' b')=true) {t:Bool} (hc:ρ c' = .bool t) :
  CX B S w0 P o a m (.val (if t then ρ a' else ρ b')):=by
 obtain ⟨c,x,y,k8,h1,h2,h3⟩:=Vb h;have u6:=RI (hc ▸ hs c c' h1);refine EG hm (u:=if t then a.eval x else a.eval y) ?_ ?_
 ·cases t<;>simp [execOp,k8,u6,asBool]
 ·cases t
  ·exact hs y b' h3
  ·exact hs x a' h2
theorem AfB (f:BinOp) (t:TypeId) (k k':IntKind) (x y:Int) (v:AV) (h:DB f k x k' y=some v) (w:World) : ∃ u,(binOp f t (.int k x) (.int k' y)).run P w = .ok u w/\((∃ n,v = .int k n/\u = .int k n) \/ ∃ b,v = .bool b/\u = .bool b):=by
 cases f<;>simp only[DB]at h;case shl =>
  split at h
  ·cases h
  ·rename_i hy;simp at h;subst h
   exact ⟨_,by simp [binOp,Op.shift,hy],.inl ⟨_,rfl,rfl⟩⟩
 case shr =>
  split at h
  ·cases h
  ·rename_i hy;simp at h;subst h
   exact ⟨_,by simp [binOp,Op.shift,hy],.inl ⟨_,rfl,rfl⟩⟩
 case quo =>
  split at h
  ·rename_i hy;obtain ⟨rfl,hy⟩:=hy;simp at h;subst h
   exact ⟨_,by simp [binOp,Op.intDiv,hy],.inl ⟨_,rfl,rfl⟩⟩
  ·cases h
 case rem =>
  split at h
  ·rename_i hy;obtain ⟨rfl,hy⟩:=hy;simp at h;subst h
   exact ⟨_,by simp [binOp,Op.intDiv,hy],.inl ⟨_,rfl,rfl⟩⟩
  ·cases h
 case and|or|xor|andNot =>
  all_goals
   split at h
   ·rename_i hk;subst hk;obtain rfl:=Option.some.inj h
    exact ⟨_,by simp only[binOp,ne_eq,not_true_eq_false,if_false];rfl,.inl ⟨_,rfl,rfl⟩⟩
   ·cases h
 case add|sub|mul =>
  all_goals
   split at h
   ·rename_i hk;subst hk;obtain rfl:=Option.some.inj h
    exact ⟨_,by simp [binOp,Op.intArith],.inl ⟨_,rfl,rfl⟩⟩
   ·cases h
 all_goals
  split at h
  ·rename_i hk;subst hk;obtain rfl:=Option.some.inj h
   exact ⟨_,by simp [binOp,Op.intCmp],.inr ⟨_,rfl,rfl⟩⟩
  ·cases h
theorem Afv (f:BinOp) (t:TypeId) (x y:Operand) (k k':IntKind) (n n':Int) (w:World):(eqGuard f t x y (.int k n) (.int k' n')).run P w = .ok () w:=by
 unfold eqGuard;cases f<;>simp
theorem Afw (f:BinOp) (t:TypeId) (x y:Operand) (b b':Bool) (w:World):(eqGuard f t x y (.bool b) (.bool b')).run P w = .ok () w:=by
 unfold eqGuard;cases f<;>simp
theorem Nm (hm:BN B S w0 m) (hs:CT B S m ρ a.eval) {f:BinOp} {x' y':AP} (h:BA P num o.op (.bin f x' y')=true) {k k':IntKind} {n n':Int} {v:AV} (hx:ρ x' = .int k n) (hy:ρ y' = .int k' n') (hv:DB f k n k' n'=some v) :
  CX B S w0 P o a m (.val v):=by
 obtain ⟨t,x,y,u,k8,h1,h2⟩:=Vw h;have ex:=IM (hx ▸ hs x x' h1);have ey:=IM (hy ▸ hs y y' h2);obtain ⟨r,hr,bk⟩:=AfB (P:=P) f t k k' n n' v hv m.w;refine EG hm (u:=r) ?_ ?_
 ·simp [execOp,k8,ex,ey,Afv,hr]
 ·rcases bk with ⟨q,rfl,rfl⟩|⟨q,rfl,rfl⟩
  ·exact QT _ _
  ·exact YC _
theorem Afy (t:TypeId) (b b':Bool) (hu:P.underlying t=some .bool) (w:World):(Op.equal t (.bool b) (.bool b')).run P w = .ok (b == b') w:=by
 have h : ∀ d:Nat,(Op.equalIn (d+1) t (.bool b) (.bool b')).run P w = .ok (b == b') w:=λ d=>by
  unfold Op.equalIn;rw[Sem.run_bind,run_underlying hu];rfl
 exact h 9999
theorem Nl (hm:BN B S w0 m) (hs:CT B S m ρ a.eval) {ne:Bool} {x' y':AP} (h:BA P num o.op (.beq ne x' y')=true) {b b':Bool} (hx:ρ x' = .bool b) (hy:ρ y' = .bool b') :
  CX B S w0 P o a m (.val (.bool (if ne then !(b == b') else b == b'))):=by
 obtain ⟨t,x,y,u,k8,hu,h1,h2⟩:=Vv h;have ex:=RI (hx ▸ hs x x' h1);have ey:=RI (hy ▸ hs y y' h2);refine EG hm (u := .bool (if ne then !(b == b') else b == b')) ?_ (YC _);cases ne<;>simp [execOp,k8,ex,ey,Afw,binOp,Afy t b b' hu]
theorem Ql (hm:BN B S w0 m) (hs:CT B S m ρ a.eval) {f:UnOp} {x':AP} (h:BA P num o.op (.un f x')=true) {v:AV} (hv:Q1 f (ρ x')=some v):CX B S w0 P o a m (.val v):=by
 obtain ⟨t,x,k8,h1⟩:=Ys h;have hx:=hs x x' h1;unfold Q1 at hv;split at hv
 ·rename_i k n hk
  have ex:=IM (hk ▸ hx);split at hv
  ·obtain rfl:_=v:=by simpa using hv
   exact EG hm (by simp [execOp,k8,ex,Op.unary,Op.intArith]) (QT _ _)
  ·obtain rfl:_=v:=by simpa using hv
   exact EG hm (by simp only[execOp,k8,ex,Op.unary];rfl) (QT _ _)
  ·cases hv
 ·rename_i b hk
  have ex:=RI (hk ▸ hx);split at hv
  ·obtain rfl:_=v:=by simpa using hv
   exact EG hm (by simp [execOp,k8,ex,Op.unary]) (YC _)
  ·cases hv
 ·cases hv
theorem Rq (hm:BN B S w0 m) (hs:CT B S m ρ a.eval) {k:IntKind} {x':AP} (h:BA P num o.op (.conv k x')=true) {k':IntKind} {n:Int} (hx:ρ x' = .int k' n):CX B S w0 P o a m (.val (.int k (k.wrap n))):=by
 obtain ⟨s,d,x,ds,k8,xi,hd,h1⟩:=Wf h;have ex:=IM (hx ▸ hs x x' h1);refine EG hm (u := .int k (k.wrap n)) ?_ (QT _ _);simp [execOp,k8,ex,convert,run_underlying xi,run_underlying hd,Conv.intToInt]
theorem Afz (t:TypeId) (a:Option Addr) (n c:Nat) {e:TypeId} (hu:P.underlying t=some (.slice e)) (w:World):(Op.equal t (.slice a n c) (.slice none 0 0)).run P w = .ok a.isNone w:=by
 have h : ∀ d:Nat,(Op.equalIn (d+1) t (.slice a n c) (.slice none 0 0)).run P w = .ok a.isNone w:=λ d=>by
  unfold Op.equalIn;rw[Sem.run_bind,run_underlying hu];cases a<;>rfl
 exact h 9999
theorem Afx (f:BinOp) (t:TypeId) (x y:Operand) (a b:Option Addr) (n c n' c':Nat) (w:World):(eqGuard f t x y (.slice a n c) (.slice b n' c')).run P w = .ok () w:=by
 unfold eqGuard;cases f<;>simp
theorem XR (hm:BN B S w0 m) (hs:CT B S m ρ a.eval) {ne:Bool} {x':AP} (h:BA P num o.op (.nr ne x')=true) {b:Bool} (hx : ∀ v,CV B S m (ρ x') v -> ∃ ad n c,v = .slice ad n c/\ad.isNone=b) :
  CX B S w0 P o a m (.val (.bool (xor b ne))):=by
 obtain ⟨t,x,u,e,k8,hu,h1⟩:=Uw h;obtain ⟨ad,n,c,ex,hb⟩:=hx _ (hs x x' h1);refine EG hm (u := .bool (xor b ne)) ?_ (YC _);have e0:a.eval (.const (.slice none 0 0)) = .slice none 0 0:=rfl;cases ne<;>cases b<;>simp [execOp,k8,ex,e0,Afx,binOp,Afz t ad n c hu,hb]
theorem S7 {v:Value} (h:CV B S m .nil v):v = .slice none 0 0:=by
 cases h with
 | ca h=>cases h with
  | one h=>cases h with
   | rd h=>cases h
   | nil=>rfl
theorem kX {b:Bool} {v:Value} (h:CV B S m (.x9 (.bool b)) v) : ∃ ad c,v = .slice ad 0 c/\ad.isNone=b:=by
 cases h with
 | ca h=>cases h with
  | one h=>cases h with
   | rd h=>cases h with
    | emp b a cap h=>exact ⟨a,cap,rfl,h⟩
theorem Ob {l:Bool} {e:List AV} {es:List (List AV)} {v:Value} (h:CV B S m (.sl l (e::es)) v) : ∃ ad n c,v = .slice ad n c/\ad.isNone=false:=by
 cases h with
 | ca h=>cases h with
  | one h=>cases h with
   | rd h=>cases h with
    | sl=>exact ⟨_,_,_,rfl,rfl⟩
theorem Oa {s t z off n:Nat} {v:Value} (h:CV B S m (.row s t z off (n+1)) v) : ∃ ad n c,v = .slice ad n c/\ad.isNone=false:=by
 cases h with
 | ca h=>cases h with
  | one h=>cases h with
   | rd h=>cases h
   | row _ _ _ _ _ a cap _ _ _ ha=>exact ⟨_,_,_,rfl,by have:=ha (by omega);cases a<;>simp_all⟩
theorem Qh (hm:BN B S w0 m) (hs:CT B S m ρ a.eval) {tb:List Nat} {x':AP} (h:BA P num o.op (.de tb x')=true) {k:IntKind} {n:Int} {v:Nat} (hx:ρ x' = .int k n) (h0:0<=n) (hv:tb[n.toNat]? = some v) :
  CX B S w0 P o a m (.val (.int .u8 v)):=by
 obtain ⟨t,s,i,k8,hu,Iq,h1⟩:=Vc h;have ex:=IM (hx ▸ hs i x' h1);have hb : ∃ b:UInt8,s[n.toNat]? = some b/\b.toNat=v:=by
  rw[<-Iq,List.getElem?_map]at hv;cases hg:s.data.toList[n.toNat]? with
  | none=>simp [hg]at hv
  | some b =>
   simp only[hg,Option.map_some,Option.some.injEq]at hv;refine ⟨b,?_,hv⟩;have k6:n.toNat<s.size:=by
    have:=(zS hg).1
    simpa using this
   rw[getElem?_pos s n.toNat k6];congr 1;have:=(zS hg).2
   rw[<-this];rfl
 obtain ⟨b,sz,o9⟩:=hb;refine EG hm (u := .int .u8 v) ?_ (QT _ _);have e0:a.eval (.const (.string s)) = .string s:=rfl;simp [execOp,k8,ex,e0,Instr.index,asIntOf,run_underlying hu,h0,sz,o9]
theorem Yj {x c:AV} {v:Value} (h:CV B S m x v) (hc:G0 x=some c):CC B S m c v:=by
 cases h with
 | any=>simp [G0]at hc
 | g8=>simp [G0]at hc
 | ca h=>cases h with
  | agg=>simp [G0]at hc
  | fn=>simp [G0]at hc
  | ou=>simp [G0]at hc
  | one h =>
   have:c=x:=by
    cases h with
    | rd h=>cases h<;>simp [G0]at hc<;>exact hc.symm
    | _=>simp [G0]at hc;exact hc.symm
   subst this;exact h
theorem mL (hs:CT B S m ρ a.eval) : ∀ {xs:List Operand} {m8:List AP} {cs:List AV},D6 xs m8=true->m8.mapM (λ x=>G0 (ρ x))=some cs->CL B S m cs (xs.map a.eval)
 | [],[],cs,_,h=>by
  simp at h;subst h;exact ⟨rfl,λ j c v h=>by simp at h⟩
 | x::r,y::l,cs,h,hc=>by
  simp only[D6,Bool.and_eq_true]at h;simp only[List.mapM_cons,Option.bind_eq_bind,Option.pure_def]at hc;cases h1:G0 (ρ y) with
  | none=>simp [h1]at hc
  | some c =>
   cases h2:l.mapM (λ x=>G0 (ρ x)) with
   | none=>simp [h1,h2]at hc
   | some bg =>
    simp [h1,h2]at hc;subst hc;have ih:=mL hs h.2 h2;refine ⟨by simpa using ih.1,λ j c' v hj hv => ?_⟩;cases j with
    | zero =>
     simp at hj hv;subst hj hv;exact Yj (hs x y h.1) h1
    | succ j=>exact ih.2 j c' v (by simpa using hj) (by simpa using hv)
 | [],_::_,_,h,_=>by simp [D6]at h
 | _::_,[],_,h,_=>by simp [D6]at h
theorem Sd (hm:BN B S w0 m) (hs:CT B S m ρ a.eval) {p:Bool} {f:Nat} {m8:List AP} (h:BA P num o.op (.ki p f m8)=true) {cs:List AV} (hc:m8.mapM (λ x=>G0 (ρ x))=some cs) :
  CX B S w0 P o a m (.val (.fn (p&&cs.isEmpty) f (num f) cs)):=by
 obtain ⟨first,xs,k8,rfl,he⟩:=Uz h;have n6:=mL hs he hc;have cu:(xs.map a.eval)=(xs.toList.map a.eval).toArray:=by cases xs;simp
 refine EG hm (u := .func (.func (num f)) #[] (xs.toList.map a.eval).toArray) ?_ (.ca (.fn (p&&cs.isEmpty) f (num f) cs _ (λ h=>by simpa using (Bool.and_eq_true _ _ ▸ h:p=true/\cs.isEmpty=true).2) n6));simp [execOp,k8,Instr.makeFunc,cu]
end
end Go.b7

namespace Go.b7
open Go.RowKit
section
variable {B:Nat} {S:Nat->Prop} {w0:World} {m:M}
variable {P:Program} {num:Nat->Nat} {o:Oper} {a:Act} {ρ:AP->AV}
theorem S5 {cs:List AV} {vs:List Value} (h:CL B S m cs vs) {j:Nat} {c:AV} (hj:cs[j]? = some c) : ∃ u,vs[j]? = some u/\CC B S m c u:=by
 have k6:j<cs.length:=(zS hj).1;have qa:j<vs.length:=by rw[<-h.1];exact k6
 exact ⟨vs[j],zE qa,h.2 j c _ hj (zE qa)⟩
theorem Yc {s:Nat} {b:DY} {w':World} {g:Nat}:CV B S ⟨g9 m s (some g),m.own.put s ((m.own s).new b),w'⟩ (.ptr s (m.own.g7 s) 0 0) (.pointer (some ⟨g,0,none⟩)):=by
 refine .ca (.one (.ptr s (m.own.g7 s) 0 0 ⟨g,0,none⟩ ?_ λ b' k7=>⟨g,?_,by simp⟩))
 ·show _<AH.g7 _ s
  rw[KX];simp
 ·simp [g9]
theorem lR (hm:BN B S w0 m) (s:Nat) (cs:List AV) (vs:Array Value) (e:TypeId) (hc:CL B S m cs vs.toList) (h:(execOp a.eval o).run P m.w = .ok (.value (.pointer (some ⟨m.w.heap.size,0,none⟩))) (m.w.alloc (.cells vs e))) :
  CX B S w0 P o a m (.new s ⟨cs.length,[cs]⟩ (λ t => .ptr s t 0 0)):=by
 intro K Q hK;obtain ⟨h1,h2⟩:=aE hm s ⟨cs.length,[cs]⟩ vs e (by simp) (λ i bg hi j c hj=>by
  cases i with
  | zero =>
   obtain rfl:cs=bg:=by simpa using hi
   obtain ⟨u,hu,v8⟩:=S5 hc hj;exact ⟨u,by simpa using hu,v8⟩
  | succ i=>simp at hi)
 exact P6 h (hK _ ⟨g9 m s (some m.w.heap.size),m.own.put s ((m.own s).new ⟨cs.length,[cs]⟩),m.w.alloc (.cells vs e)⟩ rfl h1 h2 Yc)
theorem Rh (hm:BN B S w0 m) (hs:CT B S m ρ a.eval) {s:Nat} {x':AP} (h:BA P num o.op (.box s x')=true) {cs:List AV} (hc:cellsOf (ρ x')=some cs) :
  CX B S w0 P o a m (.new s ⟨cs.length,[cs]⟩ (λ t => .ptr s t 0 0)):=by
 obtain ⟨t,x,k8,h1⟩:=Vx h;exact lR hm s cs (a.eval x).cells t (XJ (hs x x' h1) hc) (by simp [execOp,k8,Instr.box,newVar,newRow])
theorem Ni (hm:BN B S w0 m) {s:Nat} {z:List AV} (h:BA P num o.op (.alloc s z)=true):CX B S w0 P o a m (.new s ⟨z.length,[z]⟩ (λ t => .ptr s t 0 0)):=by
 obtain ⟨t,k8,h1⟩:=Vu h;obtain ⟨i,v,hi,hz,he⟩:=iD h1;exact lR hm s z v.cells t (TB he) (by simp [execOp,k8,Instr.alloc,zeroValue,typeInfo,hi,hz,newVar,newRow])
theorem cV (off:Nat) : ∀ (vs:List Value) (k:Nat) (cells:Array Value),off+k+vs.length<=cells.size ->
  ((vs.zipIdx k).foldl (λ cs (x:Value × Nat)=>cs.setIfInBounds (off+x.2) x.1) cells).toList=cells.toList.take (off+k)++vs++cells.toList.drop (off+k+vs.length)
 | [],k,cells,_=>by simp
 | v::r,k,cells,h=>by
  simp only[List.length_cons]at h;rw[List.zipIdx_cons,List.foldl_cons,cV off r (k+1) _ (by simp;omega)];simp only[Array.toList_setIfInBounds,List.length_cons];apply List.ext_getElem?;intro q;have e1:(cells.toList.set (off+k) v).drop (off+(k+1)+r.length)=cells.toList.drop (off+k+(r.length+1)):=by
   rw[show off+(k+1)+r.length=off+k+(r.length+1) by omega];exact List.drop_set_of_lt (by omega)
  have e2:(cells.toList.set (off+k) v).take (off+(k+1))=cells.toList.take (off+k)++[v]:=by
   rw[show off+(k+1)=off+k+1 by omega,List.take_succ_eq_append_getElem (by simp;omega)];simp [List.take_set_of_le]
  rw[e1,e2];simp
theorem cN (place:Nat->Option (Nat × Nat)) (hs:CT B S m ρ a.eval) : ∀ (ps:List (Nat × Operand)) (az:List (Nat × Nat × AP)) (cs bg:List AV) (vs:Array Value),R7 place ps az=true->CL B S m cs vs.toList ->
  fill cs (az.map λ p=>(p.1,p.2.1,ρ p.2.2))=some bg -> ∃ y6,Instr.fill place vs (ps.map λ p=>(p.1,a.eval p.2))=some y6/\CL B S m bg y6.toList
 | [],[],cs,bg,vs,_,hc,hf=>by
  simp [fill]at hf;subst hf;exact ⟨vs,rfl,hc⟩
 | (i,x)::r,(off,n,y)::l,cs,bg,vs,hp,hc,hf=>by
  simp only[R7,Bool.and_eq_true,beq_iff_eq]at hp;obtain ⟨⟨Hv,ye⟩,hp3⟩:=hp;simp only[List.map_cons,fill]at hf;cases hcell:cellsOf (ρ y) with
  | none=>simp [hcell]at hf
  | some us =>
   simp only[hcell]at hf;split at hf
   ·rename_i hn
    obtain ⟨hn1,Hq⟩:=hn;have cb:=XJ (hs x y ye) hcell;have u5:(a.eval x).cells.size=n:=by rw[<-hn1,cb.1];simp
    have yd:off+(a.eval x).cells.size<=vs.size:=by rw[u5];have:=hc.1;simp at this;omega
    have pn:=cV off (a.eval x).cells.toList 0 vs (by simpa using yd);have mw:Instr.fill place vs (((i,x)::r).map λ p=>(p.1,a.eval p.2))=Instr.fill place ((a.eval x).cells.zipIdx.foldl (λ cs (c,j)=>cs.setIfInBounds (off+j) c) vs) (r.map λ p=>(p.1,a.eval p.2)):=by
     simp only[List.map_cons,Instr.fill,Hv];rw[if_neg (by simp;omega)]
    rw[mw];refine cN place hs r l (splice cs off us) bg _ hp3 ?_ hf;have hz:((a.eval x).cells.zipIdx.foldl (λ cs (c,j)=>cs.setIfInBounds (off+j) c) vs).toList=vs.toList.take off++(a.eval x).cells.toList++vs.toList.drop (off+(a.eval x).cells.toList.length):=by
     rw[<-Array.foldl_toList];simpa using pn
    rw[hz];unfold splice;refine ⟨?_,λ j c v hj hv => ?_⟩
    ·have:=hc.1;have:=cb.1;simp at *;omega
    ·have ch:=hc.1
     have eu:=cb.1;simp only[Array.length_toList]at ch eu;rw[List.getElem?_append]at hj hv;simp only[List.length_append,List.length_take,Array.length_toList]at hj hv;rw[List.getElem?_append]at hj hv;simp only[List.length_take,Array.length_toList]at hj hv;have iw:min off cs.length=off:=by omega
     have fh:min off vs.size=off:=by omega
     rw[iw]at hj;rw[fh]at hv;rw[<-eu]at hv;split at hj
     ·rename_i h1
      rw[if_pos h1]at hv;split at hj
      ·rename_i h2
       rw[if_pos h2]at hv;rw[List.getElem?_take]at hj hv;rw[if_pos h2]at hj hv;exact hc.2 j c v hj hv
      ·rename_i h2
       rw[if_neg h2]at hv;exact cb.2 _ c v hj hv
     ·rename_i h1
      rw[if_neg h1]at hv;rw[List.getElem?_drop]at hj hv;exact hc.2 _ c v hj hv
   ·cases hf
 | [],_::_,_,_,_,hp,_,_=>by simp [R7]at hp
 | _::_,[],_,_,_,hp,_,_=>by simp [R7]at hp
theorem Rj (hm:BN B S w0 m) (hs:CT B S m ρ a.eval) {z:List AV} {az:List (Nat × Nat × AP)} (h:BA P num o.op (.build z az)=true) {cs:List AV} (hf:fill z (az.map λ p=>(p.1,p.2.1,ρ p.2.2))=some cs) :
  CX B S w0 P o a m (.val (.agg cs)):=by
 obtain ⟨t,ps,k8,h1,h2⟩:=Vz h;obtain ⟨i,v,hi,hz,he⟩:=iD h1;have key : ∃ y6,P.built t (ps.map λ p=>(p.1,a.eval p.2)).toList=some y6/\CL B S m cs y6.toList:=by
  unfold aM at h2;unfold Program.built;split at h2
  ·rename_i fs hu
   split at h2
   ·rename_i places hp
    obtain ⟨y6,h3,h4⟩:=cN _ hs ps.toList az z cs v.cells h2 (TB he) hf;refine ⟨y6,?_,h4⟩;simp only[hi,hu,hz,hp,Array.toList_map];exact h3
   ·cases h2
  ·rename_i n e hu
   split at h2
   ·rename_i ie Hk
    obtain ⟨y6,h3,h4⟩:=cN _ hs ps.toList az z cs v.cells h2 (TB he) hf;refine ⟨y6,?_,h4⟩;simp only[hi,hu,hz,Hk,Array.toList_map];exact h3
   ·cases h2
  ·cases h2
 obtain ⟨y6,h3,h4⟩:=key;refine EG hm (u := .agg y6) ?_ (.ca (by simpa using CA.agg cs y6.toList h4));simp only[execOp,k8,Sem.run_bind];rw[run_build m.w t _ y6 h3];rfl
theorem oI (size:Nat) (hs:CT B S m ρ a.eval) : ∀ (ps:List (Nat × Operand)) (az:List AP) (k:Nat) (es:List (List AV)) (vs:Array Value),RL k ps az=true->az.mapM (λ x=>cellsOf (ρ x))=some es->(∀ e∈es,e.length=size)->vs.size=(k+az.length)*size ->
  ∃ y6,Instr.fill (λ i=>some (i*size,size)) vs (ps.map λ p=>(p.1,a.eval p.2))=some y6/\y6.size=vs.size/\(∀ q,q<k*size->y6[q]? = vs[q]?) /\ ∀ i cs,es[i]? = some cs -> ∀ j c,cs[j]? = some c -> ∃ u,y6[(k+i)*size+j]? = some u/\CC B S m c u
 | [],[],k,es,vs,_,er,_,_=>by
  simp at er;subst er;exact ⟨vs,rfl,rfl,λ_ _=>rfl,λ i cs hi=>by simp at hi⟩
 | (i,x)::r,y::l,k,es,vs,he,er,hz,hv=>by
  simp only[RL,Bool.and_eq_true,beq_iff_eq]at he;obtain ⟨⟨rfl,h1⟩,h2⟩:=he;simp only[List.mapM_cons,Option.bind_eq_bind,Option.pure_def]at er;cases hcell:cellsOf (ρ y) with
  | none=>simp [hcell]at er
  | some us =>
   cases aq:l.mapM (λ x=>cellsOf (ρ x)) with
   | none=>simp [hcell,aq]at er
   | some es' =>
    simp [hcell,aq]at er;subst er;have cb:=XJ (hs x y h1) hcell;have Lw:us.length=size:=hz us (by simp);have u5:(a.eval x).cells.size=size:=by rw[<-Lw,cb.1];simp
    simp only[List.length_cons]at hv;have hle:i*size+size<=vs.size:=by rw[hv,show i+(l.length+1)=i+1+l.length by omega,Nat.add_mul,Nat.add_mul];omega
    have pn:=cV (i*size) (a.eval x).cells.toList 0 vs (by simp [u5];omega);generalize Cx:(a.eval x).cells.zipIdx.foldl (λ cs (c,j)=>cs.setIfInBounds (i*size+j) c) vs=Ad;have fw:Ad.toList=vs.toList.take (i*size)++(a.eval x).cells.toList++vs.toList.drop (i*size+size):=by
     rw[<-Cx,<-Array.foldl_toList];simpa [u5] using pn
    have rl:Ad.size=vs.size:=by
     have:=congrArg List.length fw
     simp [u5]at this;omega
    obtain ⟨y6,h3,h4,h5,h6⟩:=oI size hs r l (i+1) es' Ad h2 aq (λ e he=>hz e (by simp [he])) (by rw[rl,hv];congr 1;omega);refine ⟨y6,?_,h4.trans rl,λ q hq => ?_,λ i' cs n8 j c hj => ?_⟩
    ·simp only[List.map_cons,Instr.fill]
     rw[if_neg (by simp [u5];omega),Cx];exact h3
    ·rw[h5 q (by rw[Nat.add_mul];omega)]
     have:Ad.toList[q]? = vs.toList[q]? := by
      rw[fw,List.append_assoc,List.getElem?_append_left (by simp;omega),List.getElem?_take,if_pos hq]
     simpa using this
    ·cases i' with
     | zero =>
      obtain rfl:us=cs:=by simpa using n8
      obtain ⟨u,hu,v8⟩:=S5 cb hj;have cg:j<size:=by rw[<-Lw];exact (zS hj).1
      refine ⟨u,?_,v8⟩;rw[Nat.add_zero,h5 _ (by rw[Nat.add_mul];omega)];have:Ad.toList[i*size+j]? = some u:=by
       rw[fw,List.append_assoc,List.getElem?_append_right (by simp;omega)];simp only[List.length_take,Array.length_toList,show min (i*size) vs.size=i*size by omega,show i*size+j-i*size=j by omega];rw[List.getElem?_append_left (by simp [u5];omega)];exact hu
      simpa using this
     | succ i' =>
      obtain ⟨u,hu,v8⟩:=h6 i' cs (by simpa using n8) j c hj;exact ⟨u,by rw[show i+(i'+1)=i+1+i' by omega];exact hu,v8⟩
 | [],_::_,_,_,_,he,_,_,_=>by simp [RL]at he
 | _::_,[],_,_,_,he,_,_,_=>by simp [RL]at he
theorem rC {s z n cap:Nat} {es:List (List AV)} {w':World} {g:Nat} {arr:Array Value} {e:TypeId} (hz:0<z) (hn:n<=cap) (hg:w'.heap[g]? = some (.cells arr e (0,0))) (hc:cap*z<=arr.size) :
  CV B S ⟨g9 m s (some g),m.own.put s ((m.own s).new ⟨z,es⟩),w'⟩ (.row s (m.own.g7 s) z 0 n) (.slice (some ⟨g,0,none⟩) n cap):=by
 refine .ca (.one (.row s (m.own.g7 s) z 0 n _ cap ?_ hz hn (λ_=>rfl) λ b' k7=>⟨?_,.inr ⟨g,arr,e,?_,by simp,hg,by simpa using hc⟩⟩))
 ·show _<AH.g7 _ s
  rw[KX];simp
 ·change AH.get _ s _=some b' at k7
  rw[GE,if_pos ⟨rfl,rfl⟩]at k7;obtain rfl:(⟨z,es⟩:DY)=b':=by simpa using k7
  rfl
 ·simp [g9]
theorem lW (hm:BN B S w0 m) (s z n cap:Nat) (es:List (List AV)) (vs:Array Value) (e:TypeId) (cn:0<z) (hn:n<=cap) (u5:cap*z<=vs.size) (hz : ∀ x∈es,x.length=z)
  (hc : ∀ i cs,es[i]? = some cs -> ∀ j c,cs[j]? = some c -> ∃ u,vs[i*z+j]? = some u/\CC B S m c u)
  (h:(execOp a.eval o).run P m.w = .ok (.value (.slice (some ⟨m.w.heap.size,0,none⟩) n cap)) (m.w.alloc (.cells vs e))) :
  CX B S w0 P o a m (.new s ⟨z,es⟩ (λ t => .row s t z 0 n)):=by
 intro K Q hK;obtain ⟨h1,h2⟩:=aE hm s ⟨z,es⟩ vs e hz hc;exact P6 h (hK _ ⟨g9 m s (some m.w.heap.size),m.own.put s ((m.own s).new ⟨z,es⟩),m.w.alloc (.cells vs e)⟩ rfl h1 h2 (rC cn hn (heap_alloc_new _ _) u5))
theorem Ri (hm:BN B S w0 m) (hs:CT B S m ρ a.eval) {s a9:Nat} {az:List AP} (h:BA P num o.op (.b8 s a9 az)=true) {es:List (List AV)} (er:az.mapM (λ x=>cellsOf (ρ x))=some es) (hz : ∀ e∈es,e.length=a9) :
  CX B S w0 P o a m (.new s ⟨a9,es⟩ (λ t => .row s t a9 0 es.length)):=by
 obtain ⟨t,n,ps,e,i,k8,hu,hi,u5,h0,hn,Im,bh,hzero⟩:=Vy h;have hlen:es.length=n:=by
  rw[hn];clear h bh hzero hn;induction az generalizing es with
  | nil=>simp at er;subst er;rfl
  | cons y l ih =>
   simp only[List.mapM_cons,Option.bind_eq_bind,Option.pure_def]at er;cases hcell:cellsOf (ρ y) with
   | none=>simp [hcell]at er
   | some us =>
    cases aq:l.mapM (λ x=>cellsOf (ρ x)) with
    | none=>simp [hcell,aq]at er
    | some es' =>
     simp [hcell,aq]at er;subst er;simp [ih aq (λ e he=>hz e (by simp [he]))]
 obtain ⟨zc,ua⟩ : ∃ zc:Array Value,(n*a9=0/\zc = #[])\/(¬ n*a9=0 /\ ∃ z,i.zero=some z/\zc=z.cells):=by
  by_cases l9:n*a9=0
  ·exact ⟨#[],.inl ⟨l9,rfl⟩⟩
  ·rcases hzero with sf|⟨z,fw,vj⟩
   ·simp [sf]at l9
   ·exact ⟨z.cells,.inr ⟨l9,z,fw,rfl⟩⟩
 have Dc:((Array.range (n*a9)).map (zc[· % zc.size]!)).size=n*a9:=by simp
 obtain ⟨y6,h3,h4,_,h6⟩:=oI a9 hs ps.toList az 0 es _ bh er hz (by rw[Dc,hn];simp);have o7:(execOp a.eval o).run P m.w = .ok (.value (.slice (some ⟨m.w.heap.size,0,none⟩) n n)) (m.w.alloc (.cells y6 e)):=by
  simp only[execOp,k8,Instr.buildSlice,Sem.run_bind,run_underlying hu,Result.andThen_ok,sizeOf,typeInfo,run_program,hi,Sem.run_pure,u5];simp only[show ¬ (n*a9>2^24) from by omega,if_false,Sem.run_bind,Sem.run_pure,Result.andThen_ok];rcases ua with ⟨sf,rfl⟩|⟨sf,z,fw,rfl⟩
  ·simp only[sf,if_true,Sem.run_bind,Sem.run_pure,Result.andThen_ok,Array.toList_map]
   rw[sf]at h3;rw[h3];rfl
  ·simp only[sf,if_false,Sem.run_bind,Sem.run_pure,Result.andThen_ok,Array.toList_map,zeroValue,typeInfo,run_program,hi,fw]
   rw[h3];rfl
 rw[hlen];exact lW hm s a9 n n es y6 e (Nat.pos_of_ne_zero h0) (Nat.le_refl _) (by rw[h4,Dc];exact Nat.le_refl _) hz (λ i cs n8 j c hj=>by simpa using h6 i cs n8 j c hj) o7
end
end Go.b7

namespace Go.b7
open Go.RowKit
section
variable {B:Nat} {S:Nat->Prop} {w0:World} {m:M}
variable {P:Program} {num:Nat->Nat} {o:Oper} {a:Act} {ρ:AP->AV}
theorem XH {x:AV} {v:Value} (h:CV B S m x v) (h1:x ≠ .any) (h2 : ∀ cs,x ≠ .agg cs) (h3 : ∀ cs,x ≠ .g8 cs) (h4 : ∀ p f g cs,x ≠ .fn p f g cs:=by intros;simp):CC B S m x v:=by
 cases h with
 | any=>exact absurd rfl h1
 | g8 as=>exact absurd rfl (h3 as)
 | ca h=>cases h with
  | one h=>exact h
  | agg cs=>exact absurd rfl (h2 cs)
  | fn p f g cs=>exact absurd rfl (h4 p f g cs)
  | ou f g cs=>exact absurd rfl (h4 true f g cs)
theorem UY {s t i j:Nat} {v:Value} (h:CV B S m (.ptr s t i j) v) : ∃ ad,v = .pointer (some ad)/\t<m.own.g7 s /\ ∀ b,m.own.get s t=some b -> ∃ g,m.ν s t=some g/\ad=⟨g,i*b.a9+j,none⟩:=by
 cases XH h (by simp) (by simp) (by simp) with
 | rd h=>cases h
 | ptr s t i j ad ht h'=>exact ⟨ad,rfl,ht,h'⟩
theorem aU {cs:List AV} {v:Value} (h:CV B S m (.q8 cs) v) : ∃ (b o:Nat) (u:Nat->Value) (l:Bool),v = .pointer (some ⟨b,o,none⟩)/\(cs≠[]->safe B S m l b)/\(∀ j c,cs[j]? = some c->m.w.cell? ⟨b,o+j,none⟩=some (u j))/\(∀ j c,cs[j]? = some c->Rd m.w (safe B S m) c (u j)):=by
 cases XH h (by simp) (by simp) (by simp) with
 | rd h=>cases h
 | q8 _ b o u l h1 h2 h3=>exact ⟨b,o,u,l,rfl,h1,h2,h3⟩
theorem S8 {s t z off len:Nat} {v:Value} (h:CV B S m (.row s t z off len) v) : ∃ (ad:Option Addr) (cap:Nat),v = .slice ad len cap/\t<m.own.g7 s/\0<z/\len<=cap/\(0<len->ad.isSome=true) /\
  ∀ b,m.own.get s t=some b->b.a9=z/\((len=0/\cap=0) \/ ∃ g arr e,m.ν s t=some g/\ad=some ⟨g,off*z,none⟩/\m.w.heap[g]? = some (.cells arr e (0,0))/\(off+cap)*z<=arr.size):=by
 cases XH h (by simp) (by simp) (by simp) with
 | rd h=>cases h
 | row s t z off len ad cap ht cn iu ha h'=>exact ⟨ad,cap,rfl,ht,cn,iu,ha,h'⟩
theorem XL {l:Bool} {es:List (List AV)} {v:Value} (h:CV B S m (.sl l es) v):Rd m.w (safe B S m) (.sl l es) v:=by
 cases XH h (by simp) (by simp) (by simp) with
 | rd h=>exact h
theorem Rt (hm:BN B S w0 m) (hs:CT B S m ρ a.eval) {x':AP} {off:Nat} (h:BA P num o.op (.a5 x' off)=true) {s t i j:Nat} (hx:ρ x' = .ptr s t i j):CX B S w0 P o a m (.val (.ptr s t i (j+off))):=by
 obtain ⟨ty,x,f,fs,fd,inf,k8,h1,hu,hf,ho,hi,u5⟩:=pK h;obtain ⟨ad,hv,ht,hb⟩:=UY (hx ▸ hs x x' h1);refine EG hm (u := .pointer (some (ad.add off))) ?_ (.ca (.one (.ptr s t i (j+off) _ ht λ b k7 => ?_)))
 ·simp [execOp,k8,hv,Instr.fieldAt,run_underlying hu,hf,Instr.sureAddr,fieldPlace,sizeOf,typeInfo,hi,u5,ho]
 ·obtain ⟨g,hg,rfl⟩:=hb b k7
  exact ⟨g,hg,by rw[HI];simp;omega⟩
theorem Rs (hm:BN B S w0 m) (hs:CT B S m ρ a.eval) {x':AP} {off:Nat} (h:BA P num o.op (.a5 x' off)=true) {cs:List AV} (hx:ρ x' = .q8 cs):CX B S w0 P o a m (.val (.q8 (cs.drop off))):=by
 obtain ⟨ty,x,f,fs,fd,inf,k8,h1,hu,hf,ho,hi,u5⟩:=pK h;obtain ⟨b,ob,u,l,hv,hR,hc,hr⟩:=aU (hx ▸ hs x x' h1);refine EG hm (u := .pointer (some ⟨b,ob+off,none⟩)) ?_ (.ca (.one (.q8 _ b (ob+off) (λ j=>u (off+j)) l (λ l9=>hR (λ e=>l9 (by simp [e]))) (λ j c hj => ?_) (λ j c hj => ?_))))
 ·simp [execOp,k8,hv,Instr.fieldAt,run_underlying hu,hf,Instr.sureAddr,fieldPlace,sizeOf,typeInfo,hi,u5,ho,HI]
 ·rw[List.getElem?_drop]at hj
  rw[Nat.add_assoc];exact hc _ c hj
 ·rw[List.getElem?_drop]at hj
  exact hr _ c hj
theorem YK {agg:Bool} {cs:List AV} {v:AV} (h:KL agg cs=some v) {vs:List Value} (hc:CL B S m cs vs):CV B S m v (if agg then .agg vs.toArray else vs.getD 0 undef)/\(agg=false->vs.length=1):=by
 unfold KL at h;cases agg with
 | true =>
  obtain rfl:AV.agg cs=v:=by simpa using h
  exact ⟨.ca (.agg cs vs hc),by simp⟩
 | false =>
  simp only[Bool.false_eq_true,if_false]at h;split at h
  ·rename_i c
   obtain rfl:c=v:=by simpa using h
   obtain ⟨u,hu,v8⟩:=S5 hc (j:=0) (c:=c) rfl;refine ⟨?_,λ_=>by rw[<-hc.1];rfl⟩;simp only[Bool.false_eq_true,if_false,List.getD,hu,Option.getD_some];exact .ca (.one v8)
  ·cases h
theorem AfC (t:TypeId) (agg:Bool) (inf:TypeInfo) (eg : ∀ w,(isAgg t).run P w = .ok agg w) (hi:P.info? t=some inf) (vs:List Value) (off n:Nat) (hn:inf.size=n) (hle:off+n<=vs.length) (h1:agg=false->n=1) (w:World) :
  (Go.part t vs.toArray off).run P w = .ok (if agg then .agg ((vs.drop off).take n).toArray else ((vs.drop off).take n).getD 0 undef) w:=by
 unfold Go.part;rw[Sem.run_bind,eg w];cases agg with
 | true=>simp [sizeOf,typeInfo,hi,hn,List.extract_eq_take_drop]
 | false =>
  have k6:off<vs.length:=by have:=h1 rfl;omega
  simp [k6,h1 rfl]
theorem Ru (hm:BN B S w0 m) (hs:CT B S m ρ a.eval) {x':AP} {off n:Nat} {agg:Bool} (h:BA P num o.op (.jy x' off n agg)=true) {cs ds:List AV} {v:AV} (hx:ρ x' = .agg cs) (hp:part cs off n=some ds) (hv:KL agg ds=some v) :
  CX B S w0 P o a m (.val v):=by
 obtain ⟨ty,x,f,fs,fd,inf,k8,h1,hu,hf,ho,hi,u5,eg,h0⟩:=Uv h;obtain ⟨vs,z0,n6⟩:=Nx (hx ▸ hs x x' h1);unfold b7.part at hp;split at hp
 ·rename_i hle
  obtain rfl:(cs.drop off).take n=ds:=by simpa using hp
  obtain ⟨u6,gy⟩:=YK hv (Pc n6 off n);have hl:=n6.1;have nb:agg=false->n=1:=λ e=>by have:=gy e;simp at this;omega
  refine EG hm ?_ u6;simp only[execOp,k8,Sem.run_bind,Instr.field,run_underlying hu,Result.andThen_ok,hf,z0,asAgg,Sem.run_pure,ho];rw[AfC fd.type agg inf eg hi vs off n u5 (by omega) nb];rfl
 ·cases hp
theorem Rv (hm:BN B S w0 m) (hs:CT B S m ρ a.eval) {len a9:Nat} {x' i':AP} (h:BA P num o.op (.a7 (some len) a9 x' i')=true) {k:IntKind} {n:Int} {s t i0 j:Nat} (n8:ρ i' = .int k n) (hx:ρ x' = .ptr s t i0 j) (h0:0<=n) (hn:n<len) :
  CX B S w0 P o a m (.val (.ptr s t i0 (j+n.toNat*a9))):=by
 obtain ⟨ty,x,i,e,inf,k8,h1,h2,hi,u5,bk⟩:=X7 h;rcases bk with ⟨nt,hl,hu,k6⟩|⟨hl,_⟩
 ·obtain rfl:len=nt:=by simpa using hl
  obtain ⟨ad,hv,ht,hb⟩:=UY (hx ▸ hs x x' h1);have rf:=IM (n8 ▸ hs i i' h2);refine EG hm (u := .pointer (some (ad.add (n.toNat*a9)))) ?_ (.ca (.one (.ptr s t i0 (j+n.toNat*a9) _ ht λ b k7 => ?_)))
  ·simp [execOp,k8,hv,rf,Instr.indexAt,asIntOf,run_underlying hu,Instr.sureAddr,sizeOf,typeInfo,hi,u5,h0,hn]
  ·obtain ⟨g,hg,rfl⟩:=hb b k7
   exact ⟨g,hg,by rw[HI];simp;omega⟩
 ·cases hl
theorem Rw (hm:BN B S w0 m) (hs:CT B S m ρ a.eval) {len a9:Nat} {x' i':AP} (h:BA P num o.op (.a7 (some len) a9 x' i')=true) {k:IntKind} {n:Int} {cs:List AV} (n8:ρ i' = .int k n) (hx:ρ x' = .q8 cs) (h0:0<=n) (hn:n<len) :
  CX B S w0 P o a m (.val (.q8 (cs.drop (n.toNat*a9)))):=by
 obtain ⟨ty,x,i,e,inf,k8,h1,h2,hi,u5,bk⟩:=X7 h;rcases bk with ⟨nt,hl,hu,k6⟩|⟨hl,_⟩
 ·obtain rfl:len=nt:=by simpa using hl
  obtain ⟨b,ob,u,l,hv,hR,hc,hr⟩:=aU (hx ▸ hs x x' h1);have rf:=IM (n8 ▸ hs i i' h2);refine EG hm (u := .pointer (some ⟨b,ob+n.toNat*a9,none⟩)) ?_ (.ca (.one (.q8 _ b (ob+n.toNat*a9) (λ j=>u (n.toNat*a9+j)) l (λ l9=>hR (λ e=>l9 (by simp [e]))) (λ j c hj => ?_) (λ j c hj => ?_))))
  ·simp [execOp,k8,hv,rf,Instr.indexAt,asIntOf,run_underlying hu,Instr.sureAddr,sizeOf,typeInfo,hi,u5,h0,hn,HI]
  ·rw[List.getElem?_drop]at hj
   rw[Nat.add_assoc];exact hc _ c hj
  ·rw[List.getElem?_drop]at hj
   exact hr _ c hj
 ·cases hl
theorem sP (ty e:TypeId) (inf:TypeInfo) (hu:P.underlying ty=some (.slice e)) (hi:P.info? e=some inf) (ad:Addr) (len cap:Nat) (k:IntKind) (n:Int) (h0:0<=n) (hn:n<len) (w:World) :
  (Instr.indexAt ty (.slice (some ad) len cap) (.int k n)).run P w = .ok (.pointer (some (ad.add (n.toNat*inf.size)))) w:=by
 simp [Instr.indexAt,asIntOf,run_underlying hu,sizeOf,typeInfo,hi,h0,hn]
theorem Rx (hm:BN B S w0 m) (hs:CT B S m ρ a.eval) {a9:Nat} {x' i':AP} (h:BA P num o.op (.a7 none a9 x' i')=true) {k:IntKind} {n:Int} {s t z off len:Nat} (n8:ρ i' = .int k n) (hx:ρ x' = .row s t z off len) (h0:0<=n) (hn:n<len) (hz:z=a9) :
  CX B S w0 P o a m (.val (.ptr s t (off+n.toNat) 0)):=by
 obtain ⟨ty,x,i,e,inf,k8,h1,h2,hi,u5,bk⟩:=X7 h;rcases bk with ⟨_,hl,_⟩|⟨_,hu,_⟩
 ·cases hl
 ·obtain ⟨ad,cap,hv,ht,cn,iu,ha,hb⟩:=S8 (hx ▸ hs x x' h1)
  have rf:=IM (n8 ▸ hs i i' h2);obtain ⟨yw,rfl⟩:=Option.isSome_iff_exists.1 (ha (by omega));refine EG hm (u := .pointer (some (yw.add (n.toNat*a9)))) ?_ (.ca (.one (.ptr s t (off+n.toNat) 0 _ ht λ b k7 => ?_)))
  ·simp only[execOp,k8,hv,rf,Sem.run_bind]
   rw[sP ty e inf hu hi yw len cap k n h0 hn,u5];rfl
  ·obtain ⟨mn,bk⟩:=hb b k7
   rcases bk with ⟨pt,_⟩|⟨g,arr,e',hg,gx,_,_⟩
   ·omega
   ·obtain rfl:yw=⟨g,off*z,none⟩:=by simpa using gx
    exact ⟨g,hg,by rw[HI,mn,<-hz,Nat.add_mul];rfl⟩
theorem Ry (hm:BN B S w0 m) (hs:CT B S m ρ a.eval) {a9:Nat} {x' i':AP} (h:BA P num o.op (.a7 none a9 x' i')=true) {k:IntKind} {n:Int} {l:Bool} {es:List (List AV)} {cs:List AV} (n8:ρ i' = .int k n) (hx:ρ x' = .sl l es) (h0:0<=n) (hn:es[n.toNat]? = some cs) (hz:cs.length=a9) :
  CX B S w0 P o a m (.val (.q8 cs)):=by
 obtain ⟨ty,x,i,e,inf,k8,h1,h2,hi,u5,bk⟩:=X7 h;rcases bk with ⟨_,hl,_⟩|⟨_,hu,_⟩
 ·cases hl
 ·have ix:=XL (hx ▸ hs x x' h1)
  have rf:=IM (n8 ▸ hs i i' h2);have k6:n.toNat<es.length:=(zS hn).1;generalize z0:a.eval x=v at ix;cases ix with
  | fe=>simp at k6
  | sl _ _ b ob u4 cap u l9 hp hR x7 fc hc hr =>
   have Db:u4=a9:=by
    rw[<-hz];exact (fc cs (zM hn)).symm
   subst Db;refine EG hm (u := .pointer (some ⟨b,ob+n.toNat*u4,none⟩)) ?_ (.ca (.one (.q8 _ b (ob+n.toNat*u4) (u n.toNat) l (λ_=>hR) (λ j c hj => ?_) (λ j c hj=>hr _ cs hn j c hj))))
   ·simp only[execOp,k8,z0,rf,Sem.run_bind]
    rw[sP ty e inf hu hi ⟨b,ob,none⟩ es.length cap k n h0 (by omega),u5,HI];rfl
   ·rw[Nat.add_assoc]
    exact hc _ cs hn j c hj
end
end Go.b7
