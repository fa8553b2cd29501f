/-
  The abstract machine: data without memory. AV: a value; slices that are only read are lists ('sl'), rows and boxes of the call's own are named by a site and a stamp.
  Nothing here speaks of a program; EngSound ties it to the model.
-/
import Derived.Calls
import Derived.Below
import Derived.Laws.CopyRow
import Derived.Laws.Cells
import Derived.Laws.MakeOwn
import Derived.Laws.AppendOwn
import Derived.Deep.AppendSrc
import Derived.Deep.Draws
import Derived.ArgAppend
import Derived.Laws.StructEq
import Derived.ChangeKeysEq
set_option linter.unusedSimpArgs false
set_option linter.unusedVariables false
set_option linter.unnecessarySimpa false
namespace Go.e8
theorem zE {α : Type} {l : List α} {i : Nat} (h : i < l.length) : l[i]? = some l[i] :=
 List.getElem?_eq_getElem h
theorem zS {α : Type} {l : List α} {i : Nat} {a : α} (h : l[i]? = some a) : ∃ h : i < l.length, l[i] = a :=
 List.getElem?_eq_some_iff.1 h
theorem zM {α : Type} {l : List α} {i : Nat} {a : α} (h : l[i]? = some a) : a ∈ l :=
 List.mem_of_getElem? h
end Go.e8
namespace Go.e8
inductive AV where
 | int (k:IntKind) (n:Int)
 | bool (b:Bool)
 | sl (l:Bool) (es:List (List AV))
 | row (s t z off len:Nat)
 | nil
 | ptr (s t i j:Nat)
 | x7 (cs:List AV)
 | agg (cs:List AV)
 | j9 (vs:List AV)
 | ep (v:Value)
 | fn (p:Bool) (f g:Nat) (cs:List AV)
 | any
 deriving Inhabited
inductive AQ where
 | t (n:Nat)
 | c (v:AV)
 deriving Inhabited
structure ED where
 c6:Nat
 es:List (List AV)
structure CH where
 k6:Nat
 j5:Nat->Option ED
def AH:=Nat->CH
def AH.emp:AH:=λ_=>⟨0,λ_=>none⟩
def AH.put (o:AH) (s:Nat) (x:CH):AH:=λ s'=>if s'=s then x else o s'
def AH.get (o:AH) (s t:Nat):Option ED:=(o s).j5 t
def AH.k6 (o:AH) (s:Nat):Nat:=(o s).k6
def CH.u7 (x:CH) (t:Nat) (b:Option ED):CH:=⟨x.k6,λ t'=>if t'=t then b else x.j5 t'⟩
def CH.new (x:CH) (b:ED):CH:=⟨x.k6+1,λ t'=>if t'=x.k6 then some b else x.j5 t'⟩
theorem AH.k9 (o:AH) (s:Nat) (x:CH):o.put s x s=x:=by simp [AH.put]
theorem AH.jf (o:AH) (s s':Nat) (x:CH) (h:s'≠s):o.put s x s'=o s':=by simp [AH.put,h]
theorem AH.nu (o:AH) (s:Nat) (x y:CH):(o.put s x).put s y=o.put s y:=by
 funext s';by_cases h:s'=s<;>simp [AH.put,h]
inductive D4 where
 | b9 (x:AQ)
 | ag (s c6:Nat)
 | pick (c a b:AQ)
 | bin (op:BinOp) (x y:AQ)
 | beq (ne:Bool) (x y:AQ)
 | un (op:UnOp) (x:AQ)
 | conv (k:IntKind) (x:AQ)
 | box (s:Nat) (x:AQ)
 | alloc (s:Nat) (zero:List AV)
 | build (zero:List AV) (parts:List (Nat × Nat × AQ))
 | g8 (s c6:Nat) (parts:List AQ)
 | a7 (x:AQ) (off:Nat)
 | qa (x:AQ) (off n:Nat) (agg:Bool)
 | a5 (arr:Option Nat) (c6:Nat) (x i:AQ)
 | idx (len c6:Nat) (agg:Bool) (x i:AQ)
 | ld (agg:Bool) (n:Nat) (x:AQ)
 | st (n:Nat) (x v:AQ)
 | mk (s c6 bytes:Nat) (zero:List AV) (l c:AQ)
 | jq (c6:Nat) (x:AQ) (lo hi:Option AQ)
 | ext (x:AQ) (i:Nat)
 | len (x:AQ)
 | mm (max:Bool) (xs:List AQ)
 | app (s c6 bytes:Nat) (x y:AQ)
 | call (f:Nat) (xs:List AQ)
 | j7 (f:Nat) (xs:List AQ)
 | vb (ne:Bool) (x:AQ)
 | jg (tb:List Nat) (x:AQ)
 | si (p:Bool) (f:Nat) (xs:List AQ)
 | o7 (x:AQ) (xs:List AQ)
 | vu (agg:Bool) (n:Nat) (x:AQ)
 | tu (f:Nat) (x:AQ)
 | n6 (f:Nat) (xs:List AQ)
 | px (s n:Nat) (x v:AQ)
 | x9 (s f:Nat) (xs:List AQ)
 | tv (ne:Bool) (n:Nat) (x y:AQ)
 | gf (x:AQ)
 | pz (s c6 bytes:Nat) (x y:AQ)
 | dv (s f:Nat) (xs:List AQ)
 | bad
 deriving Inhabited
structure AI where
 dst:Option Nat
 op:D4
 guard:Option (Nat × Bool):=none
 g7:List Nat:=[]
 deriving Inhabited
inductive BH where
 | skip
 | ops (l:List AI) (draw:Bool)
 | dr (c:BH) (ts ss:List Nat)
 | scope (c:BH)
 | seq (a b:BH)
 | cond (c:AQ) (a b:BH)
 | block (id:Nat) (c:BH)
 | loop (c:BH)
 | exit (id:Nat)
 | ret
 deriving Inhabited
inductive KE where
 | tmp (t:Nat)
 | cell (t:Nat) (agg:Bool) (n:Nat)
 deriving Inhabited
structure AFn where
 cu:Nat
 body:BH
 res:List KE
 sn:Bool
abbrev Tm:=List (Nat × AV)
def j8:Tm->Nat->AV
 | [],_ => .any
 | (i,v)::r,j=>if j=i then v else j8 r j
def lg:Tm->Nat->AV->Tm
 | [],j,u=>[(j,u)]
 | (i,v)::r,j,u=>if j=i then (i,u)::r else if j<i then (j,u)::(i,v)::r else (i,v)::lg r j u
def bq:Tm->List Nat->Tm
 | [],_=>[]
 | (i,v)::r,l=>if l.contains i then bq r l else (i,v)::bq r l
theorem jH (m:Tm) (i:Nat) (v:AV) (j:Nat):j8 (lg m i v) j=if j=i then v else j8 m j:=by
 induction m with
 | nil=>by_cases h:j=i<;>simp [lg,j8,h]
 | cons x r ih =>
  obtain ⟨a,u⟩:=x;by_cases h:i=a
  ·subst h
   by_cases h2:j=i<;>simp [lg,j8,h2]
  ·by_cases m7:i<a
   ·by_cases h2:j=i<;>simp [lg,j8,h,m7,h2]
   ·by_cases h2:j=a
    ·subst h2
     have : ¬ j=i:=λ e=>h e.symm
     simp [lg,j8,h,m7,this]
    ·simp [lg,j8,h,m7,h2,ih]
structure St where
 tm:Tm
 own:AH
def St.ev (st:St):AQ->AV
 | .t n=>j8 st.tm n
 | .c v=>v
inductive CG where
 | val (v:AV)
 | new (s:Nat) (b:ED) (v:Nat->AV)
 | As (s:Nat) (b:ED) (v:Nat->AV)
 | fk (v:AV) (own:AH)
 | u7 (s:Nat) (x:CH)
 | zi (s:Nat) (x:CH) (v:AV)
def cellsOf:AV->Option (List AV)
 | .agg cs=>some cs
 | .fn _ _ _ _=>none
 | .j9 _=>none
 | .any=>none
 | v=>some [v]
def JC (agg:Bool) (cs:List AV):Option AV :=
 if agg then some (.agg cs) else match cs with|[c]=>some c|_=>none
def part (cs:List AV) (off n:Nat):Option (List AV) :=
 if off+n<=cs.length then some ((cs.drop off).take n) else none
def splice (cs:List AV) (off:Nat) (vs:List AV):List AV:=cs.take off++vs++cs.drop (off+vs.length)
def fill (cells:List AV):List (Nat × Nat × AV)->Option (List AV)
 | []=>some cells
 | (off,n,v)::r=>match cellsOf v with
  | some vs=>if vs.length=n/\off+n<=cells.length then fill (splice cells off vs) r else none
  | none=>none
def DI (op:BinOp) (k:IntKind) (a:Int) (k':IntKind) (b:Int):Option AV :=
 match op with
 | .shl=>if b<0 then none else some (.int k (k.wrap (a*2^(min b.toNat k.bits))))
 | .shr=>if b<0 then none else some (.int k (a.fdiv (2^(min b.toNat k.bits))))
 | .add=>if k=k' then some (.int k (k.wrap (a+b))) else none
 | .sub=>if k=k' then some (.int k (k.wrap (a-b))) else none
 | .mul=>if k=k' then some (.int k (k.wrap (a*b))) else none
 | .quo=>if k=k'/\b≠0 then some (.int k (k.wrap (a.tdiv b))) else none
 | .rem=>if k=k'/\b≠0 then some (.int k (a.tmod b)) else none
 | .and=>if k=k' then some (.int k (k.wrap (BitVec.ofInt k.bits a &&& BitVec.ofInt k.bits b).toNat)) else none
 | .or=>if k=k' then some (.int k (k.wrap (BitVec.ofInt k.bits a ||| BitVec.ofInt k.bits b).toNat)) else none
 | .xor=>if k=k' then some (.int k (k.wrap (BitVec.ofInt k.bits a ^^^ BitVec.ofInt k.bits b).toNat)) else none
 | .andNot=>if k=k' then some (.int k (k.wrap (BitVec.ofInt k.bits a &&& ~~~ BitVec.ofInt k.bits b).toNat)) else none
 | .eql=>if k=k' then some (.bool (a == b)) else none
 | .neq=>if k=k' then some (.bool (a != b)) else none
 | .lss=>if k=k' then some (.bool (decide (a<b))) else none
 | .leq=>if k=k' then some (.bool (decide (a<=b))) else none
 | .gtr=>if k=k' then some (.bool (decide (a>b))) else none
 | .geq=>if k=k' then some (.bool (decide (a≥b))) else none
def Z7 (op:UnOp):AV->Option AV
 | .int k n=>match op with
  | .neg=>some (.int k (k.wrap (0-n)))
  | .xor=>some (.int k (k.wrap (BitVec.ofInt k.bits (if k.signed then -1 else k.max) ^^^ BitVec.ofInt k.bits n).toNat))
  | _=>none
 | .bool b=>match op with
  | .not=>some (.bool (!b))
  | _=>none
 | _=>none
def YT (max:Bool):AV->AV->Option AV
 | .int k a,.int _ b=>some (.int k (if max then (if b>a then b else a) else (if b<a then b else a)))
 | _,_=>none
def PM (max:Bool):AV->List AV->Option AV
 | v,[]=>some v
 | v,u::r=>match YT max v u with|some x=>PM max x r|none=>none
def AH.n7 (o:AH):List Nat->AH
 | []=>o
 | s::r=>λ s'=>if s'=s then ⟨0,λ_=>none⟩ else o.n7 r s'
def AH.sf (own:AH) (s t i j n:Nat):Option (List AV) :=
 match own.get s t with
 | some b=>match b.es[i]? with
  | some cs=>part cs j n
  | none=>none
 | none=>none
def AH.nv (own:AH) (s t i j:Nat) (vs:List AV):Option AH :=
 match own.get s t with
 | some b=>match b.es[i]? with
  | some cs=>if j+vs.length<=cs.length then some (own.put s ((own s).u7 t (some ⟨b.c6,b.es.set i (splice cs j vs)⟩))) else none
  | none=>none
 | none=>none
def EQ (own:AH):AV->Option (List (List AV))
 | .sl _ es=>some es
 | .nil=>some []
 | .ep (.bool _)=>some []
 | .row s t z off len=>match own.get s t with
  | some b=>if off+len<=b.es.length/\b.c6=z then some ((b.es.drop off).take len) else none
  | none=>none
 | _=>none
def YP:AV->Option Nat
 | .sl _ es=>some es.length
 | .nil=>some 0
 | .row _ _ _ _ len=>some len
 | _=>none
def snap (own:AH) (l:Bool):Nat->AV->Option AV
 | _,.int k n=>some (.int k n)
 | _,.bool b=>some (.bool b)
 | _,.sl l' es=>some (.sl l' es)
 | _,.nil=>some (.sl false [])
 | _,.ep v=>some (.ep v)
 | d+1,.row s t z off len=>match EQ own (.row s t z off len) with
  | some es=>(es.mapM (λ cs:List AV=>cs.mapM (snap own l d))).map (AV.sl l)
  | none=>none
 | _,_=>none
def C5 (own:AH) (l:Bool):AV->Option AV
 | .agg cs=>(cs.mapM (snap own l 6)).map AV.agg
 | v=>snap own l 6 v
def X3 (own:AH) (l:Bool):AV->Option AV
 | .nil=>some .nil
 | v=>C5 own l v
def Z2 (own:AH) (l:Bool):AV->Option AV
 | .j9 cs=>(cs.mapM (C5 own l)).map AV.j9
 | v=>C5 own l v
mutual
def A0:AV->Prop
 | .int _ _=>True
 | .bool _=>True
 | .ep _=>True
 | .sl l es=>l=false/\FH es
 | .agg cs=>CE cs
 | .j9 cs=>CE cs
 | _=>False
def CE:List AV->Prop
 | []=>True
 | c::r=>A0 c/\CE r
def FH:List (List AV)->Prop
 | []=>True
 | c::r=>CE c/\FH r
end
def EB:Nat:=140737488355328
structure Cl where
 pure:Nat->List AV->Option AV
 ju:Nat->List AV->AH->Option (AV × AH)
 num:Nat->Nat
noncomputable def kO (C:Cl) (f:Nat) (vs:List AV) (s:Nat) (q:CH):Option (AV × CH) :=
 open Classical in if h : ∃ p : AV × CH, ∀ o : AH, o s = q -> C.ju f vs o = some (p.1, o.put s p.2) then some h.choose else none
theorem kP {C:Cl} {f:Nat} {vs:List AV} {s:Nat} {q:CH} {p:AV × CH}:kO C f vs s q=some p ↔ ∀ o:AH,o s=q->C.ju f vs o=some (p.1,o.put s p.2):=by
 unfold kO;constructor
 ·intro h
  split at h
  ·rename_i hx
   obtain rfl:=Option.some.inj h;exact hx.choose_spec
  ·cases h
 ·intro h
  rw[dif_pos ⟨p,h⟩];have h1:=(⟨p,h⟩ : ∃ p:AV × CH,∀ o:AH,o s=q->C.ju f vs o=some (p.1,o.put s p.2)).choose_spec (λ_=>q) rfl;have h2:=h (λ_=>q) rfl;have h3:=Option.some.inj (h2.symm.trans h1);refine congrArg some ?_;generalize (Exists.choose _:AV × CH)=p' at h3;obtain ⟨a,b⟩:=p;obtain ⟨a',b'⟩:=p';simp only[Prod.mk.injEq]at h3;obtain ⟨h4,h5⟩:=h3;have h6:b=b':=by
   have:=congrFun h5 s
   simpa [AH.put] using this
  rw[h4,h6]
def eK:AV->AV
 | .sl _ es => .sl false es
 | .nil => .sl false []
 | v=>v
def zh:AV->AV
 | .agg cs => .agg (cs.map eK)
 | v=>eK v
def iA:AV->AV
 | .sl _ es => .sl true es
 | v=>v
def An:AV->AV
 | .agg cs => .agg (cs.map iA)
 | v=>iA v
mutual
def HT:AV->AV
 | .sl _ es => .sl true (gZ es)
 | v=>v
def TR:List AV->List AV
 | []=>[]
 | c::r=>HT c::TR r
def gZ:List (List AV)->List (List AV)
 | []=>[]
 | c::r=>TR c::gZ r
end
def XV:AV->AV
 | .agg cs => .agg (TR cs)
 | v=>HT v
def cC:AV->Prop
 | .j9 _=>False
 | .fn _ _ _ _=>False
 | _=>True
def GS:AV->Bool
 | .int _ _=>true | .bool _=>true | .sl _ _=>true | .nil=>true
 | _=>false
def dq:AV->Bool
 | .agg cs=>cs.all GS
 | v=>GS v
def Ww:AV->Bool
 | .int _ _=>true | .bool _=>true
 | _=>false
def fD:AV->Prop
 | .int _ _=>True
 | .bool _=>True
 | .sl _ es => ∀ e∈es,∀ c∈e,Ww c=true
 | _=>False
def OS:AV->Prop
 | .agg cs => ∀ c∈cs,fD c
 | v=>fD v
open Classical in
noncomputable def TS (r:AV):AV:=if OS r then An r else XV r
theorem sS {r:AV} (h:OS r):TS r=An r:=if_pos h
theorem Uc {r:AV} (h : ¬ OS r):TS r=XV r:=if_neg h
def IG:List AV->Option (List Int)
 | []=>some []
 | .int .i64 n::r=>(IG r).map (n :: ·)
 | _=>none
def GZ:AV->Option AV
 | .agg _=>none
 | .fn _ _ _ _=>none
 | .j9 _=>none
 | .any=>none
 | v=>some v
open Classical in
noncomputable def XC (x:Option (AV × AH)):Option (Nat × List (List AV)):=match x with
 | some (.row s t z 0 n,o)=>match o.get s t with
  | some b=>if b.es.length=n/\FH b.es then some (z,b.es) else none
  | none=>none
 | _=>none
theorem AfZ {x:Option (AV × AH)} {z:Nat} {es:List (List AV)} (h:XC x=some (z,es)) : ∃ s t o b,x=some (.row s t z 0 es.length,o)/\o.get s t=some b/\b.es=es/\FH es:=by
 unfold XC at h;split at h
 ·split at h
  ·rename_i s t z' n o b hb
   split at h
   ·rename_i hc
    obtain ⟨rfl,hc⟩:=hc;simp only[Option.some.injEq,Prod.mk.injEq]at h;obtain ⟨rfl,rfl⟩:=h;exact ⟨_,_,_,_,rfl,hb,rfl,hc⟩
   ·cases h
  ·cases h
 ·cases h
open Classical in
noncomputable def j6 (C:Cl) (g7:List Nat) (ρ:AQ->AV) (own:AH):D4->Option CG
 | .b9 x=>some (.val (ρ x))
 | .ag s c6=>some (.As s ⟨c6,[]⟩ (λ t => .row s t c6 0 0))
 | .pick c a b=>match ρ c with
  | .bool true=>some (.val (ρ a))
  | .bool false=>some (.val (ρ b))
  | _=>none
 | .bin op x y=>match ρ x,ρ y with
  | .int k a,.int k' b=>(DI op k a k' b).map .val
  | _,_=>none
 | .beq ne x y=>match ρ x,ρ y with
  | .bool a,.bool b=>some (.val (.bool (if ne then !(a == b) else a == b)))
  | _,_=>none
 | .un op x=>(Z7 op (ρ x)).map .val
 | .conv k x=>match ρ x with
  | .int _ n=>some (.val (.int k (k.wrap n)))
  | _=>none
 | .box s x=>match cellsOf (ρ x) with
  | some cs=>some (.new s ⟨cs.length,[cs]⟩ (λ t => .ptr s t 0 0))
  | none=>none
 | .alloc s zero=>some (.new s ⟨zero.length,[zero]⟩ (λ t => .ptr s t 0 0))
 | .build zero parts=>(fill zero (parts.map λ p=>(p.1,p.2.1,ρ p.2.2))).map (λ cs => .val (.agg cs))
 | .g8 s c6 parts=>match parts.mapM (λ x=>cellsOf (ρ x)) with
  | some es=>if ∀ e∈es,e.length=c6 then some (.new s ⟨c6,es⟩ (λ t => .row s t c6 0 es.length)) else none
  | none=>none
 | .a7 x off=>match ρ x with
  | .ptr s t i j=>some (.val (.ptr s t i (j+off)))
  | .x7 cs=>some (.val (.x7 (cs.drop off)))
  | _=>none
 | .qa x off n agg=>match ρ x with
  | .agg cs=>match part cs off n with
   | some ds=>(JC agg ds).map .val
   | none=>none
  | _=>none
 | .a5 arr c6 x i=>match ρ i with
  | .int _ n=>match arr,ρ x with
   | some len,.ptr s t i' j=>if 0<=n/\n<len then some (.val (.ptr s t i' (j+n.toNat*c6))) else none
   | some len,.x7 cs=>if 0<=n/\n<len then some (.val (.x7 (cs.drop (n.toNat*c6)))) else none
   | none,.row s t z off len=>if 0<=n/\n<len/\z=c6 then some (.val (.ptr s t (off+n.toNat) 0)) else none
   | none,.sl _ es=>if 0<=n then match es[n.toNat]? with
     | some cs=>if cs.length=c6 then some (.val (.x7 cs)) else none
     | none=>none
    else none
   | _,_=>none
  | _=>none
 | .idx len c6 agg x i=>match ρ i,ρ x with
  | .int _ n,.agg cs=>if 0<=n/\n<len then match part cs (n.toNat*c6) c6 with
    | some ds=>(JC agg ds).map .val
    | none=>none
   else none
  | _,_=>none
 | .ld agg n x=>match ρ x with
  | .ptr s t i j=>match (own.n7 g7).sf s t i j n with
   | some cs=>(JC agg cs).map .val
   | none=>none
  | .x7 cs=>match part cs 0 n with
   | some ds=>(JC agg ds).map .val
   | none=>none
  | _=>none
 | .vu agg n x=>match ρ x with
  | .x7 cs=>match part cs 0 n with
   | some ds=>(JC agg ds).map .val
   | none=>none
  | _=>none
 | .st n x v=>match ρ x,cellsOf (ρ v) with
  | .ptr s t i j,some vs=>if vs.length=n then (own.nv s t i j vs).map (CG.fk (.j9 [])) else none
  | _,_=>none
 | .mk s c6 bytes zero l c=>match ρ l,ρ c with
  | .int _ a,.int _ b=>if 0<=a/\a<=b/\b*bytes<=EB/\b<=9223372036854775807/\zero.length=c6 then some (.new s ⟨c6,List.replicate a.toNat zero⟩ (λ t => .row s t c6 0 a.toNat)) else none
  | _,_=>none
 | .jq c6 x lo hi=>match ρ x with
  | .sl l es =>
   let h:Option Nat:=match hi with|none=>some es.length|some o=>match ρ o with | .int _ n=>if 0<=n/\n<=es.length then some n.toNat else none|_=>none
   let a:Option Nat:=match lo with|none=>some 0|some o=>match ρ o with | .int _ n=>if 0<=n then some n.toNat else none|_=>none
   match a,h with
   | some a,some h=>if a<=h /\ ∀ e∈es,e.length=c6 then some (.val (.sl l ((es.take h).drop a))) else none
   | _,_=>none
  | .nil =>
   let h:Option Nat:=match hi with|none=>some 0|some o=>match ρ o with | .int _ n=>if n=0 then some 0 else none|_=>none
   let a:Option Nat:=match lo with|none=>some 0|some o=>match ρ o with | .int _ n=>if n=0 then some 0 else none|_=>none
   match a,h with
   | some _,some _=>some (.val .nil)
   | _,_=>none
  | .row s t z off len =>
   let h:Option Nat:=match hi with|none=>some len|some o=>match ρ o with | .int _ n=>if 0<=n/\n<=len then some n.toNat else none|_=>none
   let a:Option Nat:=match lo with|none=>some 0|some o=>match ρ o with | .int _ n=>if 0<=n then some n.toNat else none|_=>none
   match a,h with
   | some a,some h=>if a<=h/\z=c6 then some (.val (.row s t z (off+a) (h-a))) else none
   | _,_=>none
  | _=>none
 | .ext x i=>match ρ x with
  | .j9 vs=>(vs[i]?).map .val
  | _=>none
 | .len x=>match YP (ρ x) with
  | some n=>some (.val (.int .i64 (n:Int)))
  | none=>none
 | .mm max xs=>match xs.map ρ with
  | []=>none
  | v::r=>(PM max v r).map .val
 | .app s c6 bytes x y=>match EQ own (ρ y) with
  | some ys=>if ∀ e∈ys,e.length=c6 then match ρ x with
    | .row s' t z 0 len=>match own.get s' t with
     | some b=>if b.c6=c6/\z=c6/\len<=b.es.length/\(len+ys.length)*bytes<=EB/\len+ys.length<=9223372036854775807 then
       some (.fk (.row s' (own.k6 s') c6 0 (len+ys.length)) (own.put s' (((own s').u7 t none).new ⟨c6,b.es.take len++ys⟩)))
      else none
     | none=>none
    | .nil=>if ys.length*bytes<=EB/\ys.length<=9223372036854775807 then
       some (.fk (.row s (own.k6 s) c6 0 ys.length) (own.put s ((own s).new ⟨c6,ys⟩))) else none
    | _=>none
   else none
  | none=>none
 | .call f xs=>match (xs.map ρ).mapM (C5 (own.n7 g7) true) with
  | some vs=>(C.pure f vs).map .val
  | none=>none
 | .j7 f xs=>(C.ju f (xs.map ρ) own).map (λ r => .fk r.1 r.2)
 | .vb ne x=>match ρ x with
  | .nil=>some (.val (.bool (xor true ne)))
  | .ep (.bool b)=>some (.val (.bool (xor b ne)))
  | .sl _ (_::_)=>some (.val (.bool (xor false ne)))
  | .row _ _ _ _ (_+1)=>some (.val (.bool (xor false ne)))
  | _=>none
 | .bad=>none
 | .gf x=>match ρ x with
  | .nil=>some (.val (.int .i64 0))
  | _=>none
 | .pz s c6 bytes x y=>match ρ x,ρ y with
  | .nil,.int _ n=>if 0<n/\n*bytes<=EB/\n<=9223372036854775807 then some (.new s ⟨c6,[]⟩ (λ t => .row s t c6 0 n.toNat)) else none
  | _,_=>none
 | .dv s f xs=>(kO C f (xs.map ρ) s (own s)).map λ p => .zi s p.2 p.1
 | .jg tb x=>match ρ x with
  | .int _ n=>if 0<=n then (match tb[n.toNat]? with
   | some v=>some (.val (.int .u8 v))
   | none=>none) else none
  | _=>none
 | .si p f xs=>(xs.mapM (λ x=>GZ (ρ x))).map (λ cs => .val (.fn (p&&cs.isEmpty) f (C.num f) cs))
 | .tu f x=>match ρ x with
  | .agg (c::cs)=>some (.val (.fn true f (C.num f) (c::cs)))
  | _=>none
 | .n6 f xs=>if (xs.map ρ).all dq=true then (match C.pure f ((xs.map ρ).map zh) with
   | some r=>if OS r\/cC r then some (.val (TS r)) else none
   | none=>none) else none
 | .px s n x v=>match ρ x,cellsOf (ρ v) with
  | .ptr s' t i j,some vs=>if s'=s/\vs.length=n then (own.nv s t i j vs).map (λ o'=>CG.u7 s (o' s)) else none
  | _,_=>none
 | .tv ne n x y=>match ρ x,ρ y with
  | .agg cs,.agg ds=>match IG cs,IG ds with
   | some a,some b=>if a.length=n/\b.length=n then some (.val (.bool (if ne then !(decide (a=b)) else decide (a=b)))) else none
   | _,_=>none
  | _,_=>none
 | .x9 s f xs=>match (xs.map ρ).mapM (X3 (own.n7 g7) true) with
  | some vs=>(XC (C.ju f vs AH.emp)).map (λ r => .new s ⟨r.1,r.2⟩ (λ t => .row s t r.1 0 r.2.length))
  | none=>none
 | .o7 x xs=>match ρ x with
  | .fn p f g cs=>if g=C.num f then (match p,cs with
   | true,[]=>(match (xs.map ρ).mapM (C5 own true) with
    | some vs=>(C.pure f vs).map .val
    | none=>none)
   | false,cs=>(C.ju f (xs.map ρ++cs) own).map (λ r => .fk r.1 r.2)
   | true,c::cs=>(match (AV.agg (c::cs)::xs.map ρ).mapM (C5 own true) with
    | some vs=>(C.pure f vs).map .val
    | none=>none)) else none
  | _=>none
def St.dst (st:St) (d:Option Nat) (v:AV):St :=
 match d with
 | some d=>{ st with tm:=lg st.tm d v }
 | none=>st
def St.app (st:St) (d:Option Nat):CG->St
 | .val v=>st.dst d v
 | .new s b v=>{ (st.dst d (v (st.own.k6 s))) with own:=st.own.put s ((st.own s).new b) }
 | .As s b v=>{ (st.dst d (v (st.own.k6 s))) with own:=st.own.put s ((st.own s).new b) }
 | .fk v o=>{ (st.dst d v) with own:=o }
 | .u7 s x=>{ (st.dst d (.j9 [])) with own:=st.own.put s x }
 | .zi s x v=>{ (st.dst d v) with own:=st.own.put s x }
def FL (st:St):Option (Nat × Bool)->Option Bool
 | none=>some true
 | some (g,want)=>match j8 st.tm g with
  | .bool b=>some (b == want)
  | .j9 []=>some false
  | _=>none
noncomputable def C6 (C:Cl) (o:AI) (st:St):Option St :=
 match FL st o.guard with
 | some true=>(j6 C o.g7 st.ev st.own o.op).map (st.app o.dst)
 | some false=>some (st.dst o.dst (.j9 []))
 | none=>none
noncomputable def DC (C:Cl):List AI->St->Option St
 | [],st=>some st
 | o::r,st=>match C6 C o st with
  | some l7=>DC C r l7
  | none=>none
def ER:D4->Option Nat
 | .ag s _=>some s
 | .box s _=>some s
 | .alloc s _=>some s
 | .g8 s _ _=>some s
 | .mk s _ _ _ _ _=>some s
 | .px s _ _ _=>some s
 | .x9 s _ _=>some s
 | .pz s _ _ _ _=>some s
 | .dv s _ _=>some s
 | _=>none
inductive It where
 | code (c:BH)
 | mr (ts ss:List Nat)
 | j5 (id:Nat)
 | lp (c:BH)
def DX (id:Nat):List It->Option (List It)
 | .j5 Ki::k=>if Ki=id then some k else DX id k
 | _::k=>DX id k
 | []=>none
def AH.drop (o:AH):List Nat->AH
 | []=>o
 | s::r=>(o.drop r).put s ⟨(o s).k6,λ_=>none⟩
noncomputable def run (C:Cl):Nat->List It->St->Option St
 | 0,_,_=>none
 | _+1,[],st=>some st
 | n+1,.j5 _::k,st=>run C n k st
 | n+1,.mr ts ss::k,st=>run C n k ⟨bq st.tm ts,st.own.drop ss⟩
 | n+1,.lp c::k,st=>run C n (.code c :: .lp c::k) st
 | n+1,.code c::k,st=>match c with
  | .skip=>run C n k st
  | .ops l _=>match DC C l st with
   | some l7=>run C n k l7
   | none=>none
  | .dr c ts ss=>run C n (.code c :: .mr ts ss::k) st
  | .scope c=>run C n (.code c::k) st
  | .seq a b=>run C n (.code a :: .code b::k) st
  | .cond c a b=>match st.ev c with
   | .bool true=>run C n (.code a::k) st
   | .bool false=>run C n (.code b::k) st
   | _=>none
  | .block id c=>run C n (.code c :: .j5 id::k) st
  | .loop c=>run C n (.code c :: .lp c::k) st
  | .exit id=>match DX id k with
   | some k'=>run C n k' st
   | none=>none
  | .ret=>some st
def C0 (i:Nat):List AV->Tm
 | []=>[]
 | v::r=>(i,v)::C0 (i+1) r
def JS:AV->Option AV
 | .any=>none
 | .j9 _=>none
 | v=>some v
def E8 (st:St):KE->Option AV
 | .tmp t=>JS (j8 st.tm t)
 | .cell t agg n=>match j8 st.tm t with
  | .ptr s u i j=>match st.own.sf s u i j n with
   | some cs=>JC agg cs
   | none=>none
  | _=>none
def IH:List AV->AV
 | [v]=>v
 | vs => .j9 vs
structure Lib where
 fn:Nat->Option AFn
 num:Nat->Nat
instance : CoeFun Lib (λ_ => Nat -> Option AFn) := ⟨Lib.fn⟩
open Classical in
noncomputable def JJ (I:List AV->Option (AV × AH)) (vs:List AV):Option AV :=
 match I vs with
 | some (r,o)=>match Z2 o false r with
  | some r'=>if A0 r' then some r' else none
  | none=>none
 | none=>none
def Lib.sn (L:Lib) (f:Nat):Bool:=match L f with
 | some fn=>fn.sn
 | none=>false
open Classical in
noncomputable def QG (b:Bool) (I:List AV->Option (AV × AH)) (vs:List AV):Option AV:=match b,vs with
 | true,.sl _ []::vs=>match JJ I (.ep (.bool true)::vs),JJ I (.ep (.bool false)::vs) with
  | some r,some r'=>if r=r' then some r else none
  | _,_=>none
 | _,vs=>JJ I vs
noncomputable def DQ (L:Lib):Nat->Nat->List AV->AH->Option (AV × AH)
 | 0,_,_,_=>none
 | n+1,f,args,own=>match L f with
  | none=>none
  | some fn=>if args.length=fn.cu then
    match run ⟨λ f vs=>QG (L.sn f) (λ vs=>DQ L n f vs AH.emp) vs,DQ L n,L.num⟩ n [.code fn.body] ⟨C0 0 args,own⟩ with
    | some st=>match fn.res.mapM (E8 st) with
     | some vs=>some (IH vs,st.own)
     | none=>none
    | none=>none
   else none
noncomputable def HC (L:Lib) (n f:Nat) (vs:List AV):Option AV:=QG (L.sn f) (λ vs=>DQ L n f vs AH.emp) vs
noncomputable def C3 (L:Lib) (n:Nat):Cl:=⟨HC L n,DQ L n,L.num⟩
theorem gE (L:Lib) (n f:Nat) (args:List AV) (own:AH):DQ L (n+1) f args own =
  match L f with
  | none=>none
  | some fn=>if args.length=fn.cu then
    match run (C3 L n) n [.code fn.body] ⟨C0 0 args,own⟩ with
    | some st=>match fn.res.mapM (E8 st) with
     | some vs=>some (IH vs,st.own)
     | none=>none
    | none=>none
   else none:=rfl
namespace C
abbrev o (d:Nat) (op:D4):AI:=⟨some d,op,none,[]⟩
abbrev n (op:D4):AI:=⟨none,op,none,[]⟩
abbrev g (d i:Nat) (b:Bool) (op:D4):AI:=⟨some d,op,some (i,b),[]⟩
abbrev m (d s:Nat):AI:=⟨some d,.b9 (.t s),none,[]⟩
abbrev k (v:Int):AQ := .c (.int .i64 v)
abbrev z:AV := .int .i64 0
abbrev q (d:Nat) (g7:List Nat) (op:D4):AI:=⟨some d,op,none,g7⟩
abbrev u (g7:List Nat) (op:D4):AI:=⟨none,op,none,g7⟩
abbrev v (d i:Nat) (b:Bool) (g7:List Nat) (op:D4):AI:=⟨some d,op,some (i,b),g7⟩
abbrev p (l:List AI):BH := .ops l false
abbrev P (l:List AI):BH := .ops l true
abbrev d (l:List AI) (ts:List Nat):BH := .dr (.ops l false) ts []
abbrev e (l:List AI) (ts:List Nat):BH := .dr (.ops l true) ts []
abbrev s (a b:BH):BH := .seq a b
abbrev i (c:AQ) (a b:BH):BH := .cond c a b
abbrev b (id:Nat) (c:BH):BH := .block id c
abbrev w (c:BH):BH := .loop c
abbrev x (id:Nat):BH := .exit id
instance (i : Nat) : OfNat AQ i := ⟨.t i⟩
end C
end Go.e8
namespace Go.e8
def lK:Value->AV->Bool
 | .int k n,.int k' n'=>k == k'&&n == n'
 | .bool b,.bool b'=>b == b'
 | .slice none 0 0,.nil=>true
 | .string s,.ep (.string s')=>s.data.toList == s'.data.toList
 | _,_=>false
def YH:List Value->List AV->Bool
 | [],[]=>true
 | v::r,a::l=>lK v a&&YH r l
 | _,_=>false
def qT:Value->AV->Bool
 | .agg cs,.agg l=>YH cs.toList l
 | v,a=>lK v a
def BU:Operand->AQ->Bool
 | .tmp t,.t n=>t == n
 | .const v,.c a=>qT v a
 | .func g,.c (.fn _ _ g' [])=>g == g'
 | _,_=>false
def EH:List Operand->List AQ->Bool
 | [],[]=>true
 | v::r,a::l=>BU v a&&EH r l
 | _,_=>false
def XP:Option Operand->Option AQ->Bool
 | none,none=>true
 | some x,some y=>BU x y
 | _,_=>false
section
variable (P:Program)
def ZF (t:TypeId):Option Bool :=
 match P.underlying t with
 | some (.struct _)=>some true
 | some (.array _ _)=>some true
 | some _=>some false
 | none=>none
def IM (t:TypeId) (n:Nat):Bool:=match P.info? t with|some i=>i.size == n|none=>false
def fP (t:TypeId) (n:Nat):Bool:=match P.info? t with|some i=>i.bytes == n|none=>false
def bW (t:TypeId) (l:List AV):Bool:=match P.info? t with|some i=>(match i.zero with|some z=>YH z.cells.toList l|none=>false)|none=>false
def OG (t:TypeId) (f:TypeId->Bool):Bool:=match P.underlying t with|some (.slice e)=>f e|_=>false
def Uf (t:TypeId) (i off n:Nat):Bool:=match P.underlying t with
 | some (.struct fs)=>(match fs[i]? with|some f=>f.offset == off&&IM P f.type n&&n != 0|none=>false)
 | _=>false
def Ug (t:TypeId) (i:Nat) (agg:Bool):Bool:=match P.underlying t with
 | some (.struct fs)=>(match fs[i]? with|some f=>ZF P f.type == some agg|none=>false)
 | _=>false
def bI (place:Nat->Option (Nat × Nat)):List (Nat × Operand)->List (Nat × Nat × AQ)->Bool
 | [],[]=>true
 | (i,x)::r,(off,n,y)::l=>place i == some (off,n)&&BU x y&&bI place r l
 | _,_=>false
def pF (t:TypeId) (ps:List (Nat × Operand)) (fu:List (Nat × Nat × AQ)):Bool:=match P.underlying t with
 | some (.struct fs)=>(match fs.toList.mapM (λ f=>(P.info? f.type).map λ i=>(f.offset,i.size)) with|some places=>bI (places.toArray[·]?) ps fu|none=>false)
 | some (.array _ e)=>(match P.info? e with|some ie=>bI (λ i=>some (i*ie.size,ie.size)) ps fu|none=>false)
 | _=>false
def aS (k:Nat):List (Nat × Operand)->List AQ->Bool
 | [],[]=>true
 | (i,x)::r,y::l=>i == k&&BU x y&&aS (k+1) r l
 | _,_=>false
def fieldsI:Nat->List Field->Nat->Bool
 | k,[],n=>k == n
 | k, f :: fs, n => f.name != "_" && f.offset == k && (match P.underlying f.type with | some (.int _) => true | _ => false) && fieldsI (k + 1) fs n
def rP (t:TypeId) (n:Nat):Bool:=(match P.underlying t with|some (.struct fs)=>fieldsI P 0 fs.toList n|_=>false) && !P.stoodInHeld t && !P.eqGuardType P.depth t
def BD (num:Nat->Nat) (op:Op):D4->Bool
 | .b9 y=>match op with | .move x=>BU x y | .assign x=>BU x y|_=>false
 | .ag _ z=>z != 0&&(match op with | .move (.const (.slice none 0 0))=>true | .assign (.const (.slice none 0 0))=>true|_=>false)
 | .pick c' a' b'=>match op with | .pick c a b=>BU c c'&&BU a a'&&BU b b'|_=>false
 | .bin Ed x' y'=>match op with | .binOp op _ x y _=>op == Ed&&BU x x'&&BU y y'|_=>false
 | .beq ne x' y'=>match op with | .binOp op t x y _=>(if ne then op == .neq else op == .eql)&&(match P.underlying t with|some .bool=>true|_=>false)&&BU x x'&&BU y y'|_=>false
 | .un Ed x'=>match op with | .unOp op _ x=>op == Ed&&BU x x'|_=>false
 | .conv k x'=>match op with | .convert s d x=>(P.underlying s).isSome&&(match P.underlying d with|some (.int k')=>k == k'|_=>false)&&BU x x'|_=>false
 | .box _ x'=>match op with | .box _ x=>BU x x'|_=>false
 | .alloc _ z=>match op with | .alloc t=>bW P t z|_=>false
 | .build z fu=>match op with | .build t ps=>bW P t z&&pF P t ps.toList fu|_=>false
 | .g8 _ c6 fu=>match op with
  | .buildSlice t n ps=>OG P t (λ e=>IM P e c6)&&c6 != 0&&n == fu.length&&decide (n*c6<=16777216)&&aS 0 ps.toList fu&&(n == 0||OG P t (λ e=>match P.info? e with|some i=>(match i.zero with|some z=>z.cells.size == c6|none=>false)|none=>false))
  | _=>false
 | .a7 x' off=>match op with
  | .fieldAddr s x f=>BU x x'&&(match P.underlying s with|some (.struct fs)=>(match fs[f]? with|some fd=>fd.offset == off&&(match P.info? fd.type with|some i=>i.size != 0|none=>false)|none=>false)|_=>false)
  | _=>false
 | .qa x' off n agg=>match op with | .field t x f=>BU x x'&&Uf P t f off n&&Ug P t f agg|_=>false
 | .a5 arr c6 x' i'=>match op with
  | .indexAddr t x i=>BU x x'&&BU i i'&&(match P.underlying t,arr with|some (.array len e),some nr=>len == nr&&IM P e c6&&decide (1<len)|some (.slice e),none=>IM P e c6&&c6 != 0|_,_=>false)
  | _=>false
 | .idx len c6 agg x' i'=>match op with
  | .index t x i=>BU x x'&&BU i i'&&(match P.underlying t with|some (.array nr e)=>len == nr&&IM P e c6&&ZF P e == some agg|_=>false)
  | _=>false
 | .ld agg n x'=>match op with | .load t x=>BU x x'&&ZF P t == some agg&&(if agg then IM P t n else n == 1)|_=>false
 | .vu agg n x'=>match op with | .load t x=>BU x x'&&ZF P t == some agg&&(if agg then IM P t n else n == 1)|_=>false
 | .st n x' v'=>match op with | .store t x v=>BU x x'&&BU v v'&&IM P t n|_=>false
 | .mk _ c6 bytes z l' c'=>match op with
  | .makeSlice t l c=>BU l l'&&BU c c'&&OG P t (λ e=>IM P e c6&&fP P e bytes&&bW P e z)&&c6 != 0
  | _=>false
 | .jq c6 x' qp s9=>match op with
  | .slice t x lo hi none=>BU x x'&&XP lo qp&&XP hi s9&&OG P t (λ e=>IM P e c6)&&c6 != 0
  | _=>false
 | .ext x' i'=>match op with | .extract x i=>BU x x'&&i == i'|_=>false
 | .len x'=>match op with
  | .call ⟨.builtin .len,xs,ts⟩=>(match xs.toList,ts.toList with|[x],[t]=>BU x x'&&OG P t (λ_=>true)|_,_=>false)
  | _=>false
 | .mm max o9=>match op with
  | .call ⟨.builtin .min,xs,_⟩ => !max&&EH xs.toList o9
  | .call ⟨.builtin .max,xs,_⟩=>max&&EH xs.toList o9
  | _=>false
 | .app _ c6 bytes x' y'=>match op with
  | .call ⟨.builtin .append,xs,ts⟩=>(match xs.toList,ts.toList with
   | [x,y],[t,u]=>BU x x'&&BU y y'&&OG P t (λ e=>IM P e c6&&fP P e bytes&&(match P.info? e with|some i=>(match i.zero with|some z=>z.cells.size == c6|none=>false)|none=>false))&&c6 != 0&&OG P u (λ_=>true)
   | _,_=>false)
  | _=>false
 | .call f' o9=>match op with
  | .call ⟨.value (.func f),xs,_⟩=>f == num f'&&EH xs.toList o9
  | _=>false
 | .j7 f' o9=>match op with
  | .call ⟨.value (.func f),xs,_⟩=>f == num f'&&EH xs.toList o9
  | _=>false
 | .dv _ f' o9=>match op with
  | .call ⟨.value (.func f),xs,_⟩=>f == num f'&&EH xs.toList o9
  | _=>false
 | .vb ne x'=>match op with
  | .binOp op t x (.const (.slice none 0 0)) _=>(if ne then op == .neq else op == .eql)&&OG P t (λ_=>true)&&BU x x'
  | _=>false
 | .bad=>true
 | .gf x'=>match op with
  | .call ⟨.builtin .cap,xs,ts⟩=>(match xs.toList,ts.toList with|[x],[t]=>BU x x'&&OG P t (λ_=>true)|_,_=>false)
  | _=>false
 | .pz _ c6 bytes x' y'=>match op with
  | .call ⟨.builtin .append,xs,ts⟩=>(match xs.toList,ts.toList with
   | [x,y],[t,u]=>BU x x'&&BU y y'&&OG P t (λ e=>IM P e c6&&fP P e bytes&&(match P.info? e with|some i=>(match i.zero with|some z=>z.cells.size == c6|none=>false)|none=>false))&&c6 != 0&&(match P.underlying u with|some (.int _)=>true|_=>false)
   | _,_=>false)
  | _=>false
 | .jg tb i'=>match op with
  | .index t (.const (.string s)) i=>(match P.underlying t with|some .string=>true|_=>false)&&s.data.toList.map (λ b=>b.toNat) == tb&&BU i i'
  | _=>false
 | .si _ f' o9=>match op with
  | .makeFunc (.func f) first xs=>f == num f'&&first.toList.isEmpty&&EH xs.toList o9
  | _=>false
 | .tu f' x'=>match op with
  | .makeFunc (.func f) first xs=>f == num f'&&(match first.toList with|[x]=>BU x x'|_=>false)&&xs.toList.isEmpty
  | _=>false
 | .n6 f' o9=>match op with
  | .call ⟨.value (.func f),xs,_⟩=>f == num f'&&EH xs.toList o9
  | _=>false
 | .tv ne n x' y'=>match op with | .binOp op t x y _=>(if ne then op == .neq else op == .eql)&&rP P t n&&BU x x'&&BU y y'|_=>false
 | .x9 _ f' o9=>match op with
  | .call ⟨.value (.func f),xs,_⟩=>f == num f'&&EH xs.toList o9
  | _=>false
 | .px _ n x' v'=>match op with | .store t x v=>BU x x'&&BU v v'&&IM P t n|_=>false
 | .o7 x' o9=>match op with
  | .call ⟨.value x,xs,_⟩=>BU x x'&&EH xs.toList o9
  | _=>false
def iE (ops:Array Oper):Option (Nat × Bool)->Option (Nat × Bool)->Bool
 | none,none=>true
 | some (j,b),some (t,b')=>b == b'&&(match ops[j]? with|some o=>o.dst == some t|none=>false)
 | _,_=>false
def mT (num:Nat->Nat) (N:Nat) (ops:Array Oper) (o:Oper) (a:AI):Bool :=
 o.dst == a.dst&&(match a.dst with|some d=>decide (d<N)|none=>true)&&iE ops o.guard a.guard&&BD P num o.op a.op
def YV (num:Nat->Nat) (N:Nat) (ops:Array Oper):List Oper->List AI->Bool
 | [],[]=>true
 | o::r,a::l=>mT P num N ops o a&&YV num N ops r l
 | _,_=>false
def G5:D4->Bool
 | .st .. | .app .. | .j7 .. | .o7 .. => true
 | _=>false
def iQ:D4->Bool
 | .ld .. | .call .. | .x9 .. => true
 | _=>false
def PL (a:D4):Bool:=G5 a||iQ a||(ER a).isSome
def CY:AQ->List Nat
 | .t n=>[n]
 | .c _=>[]
def tU:Option AQ->List Nat
 | some x=>CY x
 | none=>[]
def G6:D4->List Nat
 | .b9 x=>CY x
 | .ag _ _=>[]
 | .pick c a b=>CY c++CY a++CY b
 | .bin _ x y=>CY x++CY y
 | .beq _ x y=>CY x++CY y
 | .un _ x=>CY x
 | .conv _ x=>CY x
 | .box _ x=>CY x
 | .alloc _ _=>[]
 | .build _ ps=>ps.flatMap (λ p=>CY p.2.2)
 | .g8 _ _ ps=>ps.flatMap CY
 | .a7 x _=>CY x
 | .qa x _ _ _=>CY x
 | .a5 _ _ x i=>CY x++CY i
 | .idx _ _ _ x i=>CY x++CY i
 | .ld _ _ x=>CY x
 | .vu _ _ x=>CY x
 | .st _ x v=>CY x++CY v
 | .mk _ _ _ _ l c=>CY l++CY c
 | .jq _ x lo hi=>CY x++tU lo++tU hi
 | .ext x _=>CY x
 | .len x=>CY x
 | .mm _ xs=>xs.flatMap CY
 | .app _ _ _ x y=>CY x++CY y
 | .call _ xs=>xs.flatMap CY
 | .j7 _ xs=>xs.flatMap CY
 | .vb _ x=>CY x
 | .jg _ x=>CY x
 | .si _ _ xs=>xs.flatMap CY
 | .tu _ x=>CY x
 | .o7 x xs=>CY x++xs.flatMap CY
 | .n6 _ xs=>xs.flatMap CY
 | .px _ _ x v=>CY x++CY v
 | .x9 _ _ xs=>xs.flatMap CY
 | .dv _ _ xs=>xs.flatMap CY
 | .tv _ _ x y=>CY x++CY y
 | .bad=>[]
 | .gf x=>CY x
 | .pz _ _ _ x y=>CY x++CY y
def dO (x:AI):List Nat:=G6 x.op++(match x.guard with|some (g,_)=>[g]|none=>[])++x.dst.toList
def JD (b:Array Nat) (i j:Nat):Bool:=(b.getD (max i j) 0).testBit (min i j)
def Xo (b:Array Nat) (x:AI) (i:Nat) (y:AI) (j:Nat):Bool :=
 i == j||JD b i j ||
  ((match y.dst with|some t => !(dO x).contains t|none=>true) &&
   (!G5 x.op || !PL y.op) &&
   (!iQ x.op||(match ER y.op with|some s=>x.g7.contains s|none=>true)) )
def aQ (ops:Array Oper) (l:List AI):Bool :=
 let b:=Region.before ops
 (l.zipIdx.all λ(x,i)=>l.zipIdx.all λ(y,j)=>Xo b x i y j&&(i == j||JD b i j||(match ER x.op,ER y.op with|some s,some s'=>s != s'|_,_=>true))) &&
 (ops.toList.zipIdx.all λ(o,i)=>o.after.all λ e=>decide (e.on<i)||(match e.ground with | .gcOnly _=>true|_=>false)) &&
 (!Region.departs ops||(List.range ops.size).all (λ i=>(Region.linearise .gc ops 0).contains i))
def EZ (num:Nat->Nat) (N:Nat):Code->BH->Bool
 | c,.dr a _ _=>EZ num N c a
 | c',.skip=>match c' with | .skip=>true | .label _=>true|_=>false
 | c',.scope a=>match c' with | .scope c=>EZ num N c a|_=>false
 | c',.ops l tc=>match c' with | .region _ ops draw=>draw == tc&&YV P num N ops ops.toList l&&(!draw||aQ ops l)|_=>false
 | c',.seq a' b'=>match c' with | .seq a b=>EZ num N a a'&&EZ num N b b'|_=>false
 | c',.cond x' a' b'=>match c' with | .cond x a b=>BU x x'&&EZ num N a a'&&EZ num N b b'|_=>false
 | c',.block i' a=>match c' with | .block i c=>i == i'&&EZ num N c a|_=>false
 | c',.loop a=>match c' with | .loop c=>EZ num N c a|_=>false
 | c',.exit i'=>match c' with | .exit i=>i == i'|_=>false
 | c',.ret=>match c' with | .ret=>true|_=>false
def UO:List ResultVar->List KE->Bool
 | [],[]=>true
 | .tmp t::r,.tmp t'::l=>t == t'&&UO r l
 | .cell a t::r,.cell a' agg n::l=>a == a'&&ZF P t == some agg&&(if agg then IM P t n else n == 1)&&UO r l
 | _,_=>false
def okFn (num:Nat->Nat) (fn:Func) (a:AFn):Bool :=
 fn.params.size+fn.nfree == a.cu&&decide (a.cu<=fn.ntmps)&&UO P fn.results.toList a.res&&(match fn.body with|some c=>EZ P num fn.ntmps c a.body|none=>false)
end
end Go.e8

namespace Go.e8
open Go.RowKit
theorem HP (b o n:Nat):(⟨b,o,none⟩:Addr).add n=⟨b,o+n,none⟩:=by
 unfold Addr.add;split<;>simp_all
inductive Rd (w:World) (R:Bool->Nat->Prop):AV->Value->Prop
 | int (k:IntKind) (n:Int):Rd w R (.int k n) (.int k n)
 | bool (b:Bool):Rd w R (.bool b) (.bool b)
 | str (s:ByteArray):Rd w R (.ep (.string s)) (.string s)
 | kz (l:Bool) (a:Option Addr) (cap:Nat):Rd w R (.sl l []) (.slice a 0 cap)
 | emp (b:Bool) (a:Option Addr) (cap:Nat) (h:a.isNone=b):Rd w R (.ep (.bool b)) (.slice a 0 cap)
 | sl (l:Bool) (es:List (List AV)) (b o c6 cap:Nat) (u:Nat->Nat->Value) (m9:es≠[]) (hp:0<c6) (hR:R l b) (bj:es.length<=cap) (hz : ∀ e∈es,e.length=c6)
   (hc : ∀ i e,es[i]? = some e -> ∀ j c,e[j]? = some c->w.cell? ⟨b,o+(i*c6+j),none⟩=some (u i j))
   (hr : ∀ i e,es[i]? = some e -> ∀ j c,e[j]? = some c->Rd w R c (u i j)) :
   Rd w R (.sl l es) (.slice (some ⟨b,o,none⟩) es.length cap)
theorem Rd.one {w:World} {R:Bool->Nat->Prop} {a:AV} {v:Value} (h:Rd w R a v):v.oneCell'=true:=by
 cases h<;>rfl
theorem aK {w:World} {a:Addr} {u:Value} (h:w.cell? a=some u):a.block<w.heap.size:=by
 unfold World.cell? at h;split at h
 ·rename_i hh
  exact (Array.getElem?_eq_some_iff.1 hh).1
 ·cases h
theorem gQ {es:List (List AV)} {c6:Nat} (m9:es≠[]) (hp:0<c6) (hz : ∀ e∈es,e.length=c6) : ∃ e c,es[0]? = some e/\e[0]? = some c:=by
 cases es with
 | nil=>exact absurd rfl m9
 | cons e r =>
  have:=hz e (by simp)
  cases e with
  | nil=>simp at this;omega
  | cons c q=>exact ⟨c::q,c,rfl,rfl⟩
theorem Rd.mono {w w':World} {R R':Bool->Nat->Prop} (hR : ∀ l b,b<w.heap.size->R l b->R' l b)
  (hw : ∀ l b,b<w.heap.size->R l b->w'.heap[b]? = w.heap[b]?) {a:AV} {v:Value} (h:Rd w R a v):Rd w' R' a v:=by
 induction h with
 | int k n=>exact .int k n
 | bool b=>exact .bool b
 | str s=>exact .str s
 | kz l a cap=>exact .kz l a cap
 | emp b a cap h=>exact .emp b a cap h
 | sl l es b o c6 cap u m9 hp h1 bj hz hc hr ih =>
  obtain ⟨e,c,he,ko⟩:=gQ m9 hp hz;have hb:b<w.heap.size:=aK (hc 0 e he 0 c ko);refine .sl l es b o c6 cap u m9 hp (hR l b hb h1) bj hz (λ i e he j c zw => ?_) ih;rw[World.cell?_of_block (w:=w) (hw l b hb h1)];exact hc i e he j c zw
structure M where
 ν:Nat->Nat->Option Nat
 own:AH
 w:World
section
variable (B:Nat) (S:Nat->Prop)
def safe (m:M) (l:Bool) (b:Nat):Prop :=
 (S b/\b<B)\/(B<=b /\ ∀ s t,(m.own.get s t).isSome=true->m.ν s t≠some b)\/(l=true/\b<B)
inductive CC (m:M):AV->Value->Prop
 | rd {a:AV} {v:Value} (h:Rd m.w (safe B S m) a v):CC m a v
 | nil:CC m .nil (.slice none 0 0)
 | row (s t z off len:Nat) (a:Option Addr) (cap:Nat) (ht:t<m.own.k6 s) (fg:0<z) (qj:len<=cap) (ha:0<len->a.isSome=true)
   (h : ∀ b,m.own.get s t=some b->b.c6=z/\((len=0/\cap=0) \/ ∃ g arr e,m.ν s t=some g/\a=some ⟨g,off*z,none⟩/\m.w.heap[g]? = some (.cells arr e (0,0))/\(off+cap)*z<=arr.size)) :
   CC m (.row s t z off len) (.slice a len cap)
 | ptr (s t i j:Nat) (a:Addr) (ht:t<m.own.k6 s) (h : ∀ b,m.own.get s t=some b -> ∃ g,m.ν s t=some g/\a=⟨g,i*b.c6+j,none⟩):CC m (.ptr s t i j) (.pointer (some a))
 | x7 (cs:List AV) (b o:Nat) (u:Nat->Value) (l:Bool) (hR:cs≠[]->safe B S m l b) (hc : ∀ j c,cs[j]? = some c->m.w.cell? ⟨b,o+j,none⟩=some (u j)) (hr : ∀ j c,cs[j]? = some c->Rd m.w (safe B S m) c (u j)) :
   CC m (.x7 cs) (.pointer (some ⟨b,o,none⟩))
def CL (m:M) (cs:List AV) (vs:List Value):Prop:=cs.length=vs.length /\ ∀ (j:Nat) (c:AV) (v:Value),cs[j]? = some c->vs[j]? = some v->CC B S m c v
inductive CA (m:M):AV->Value->Prop
 | one {a:AV} {v:Value} (h:CC B S m a v):CA m a v
 | agg (cs:List AV) (vs:List Value) (h:CL B S m cs vs):CA m (.agg cs) (.agg vs.toArray)
 | fn (p:Bool) (f g:Nat) (cs:List AV) (vs:List Value) (hp:p=true->cs=[]) (h:CL B S m cs vs):CA m (.fn p f g cs) (.func (.func g) #[] vs.toArray)
 | ve (f g:Nat) (cs:List AV) (vs:List Value) (hp:cs≠[]) (h:CL B S m cs vs):CA m (.fn true f g cs) (.func (.func g) #[.agg vs.toArray] #[])
inductive CV (m:M):AV->Value->Prop
 | any (v:Value):CV m .any v
 | ca {a:AV} {v:Value} (h:CA B S m a v):CV m a v
 | j9 (as:List AV) (vs:List Value) (hl:as.length=vs.length) (h : ∀ (j:Nat) (c:AV) (v:Value),as[j]? = some c->vs[j]? = some v->CA B S m c v):CV m (.j9 as) (.tuple vs.toArray)
def AeS (m:M) (s t:Nat) (b:ED):Prop :=
 (∀ e∈b.es,e.length=b.c6)/\match m.ν s t with
  | none=>b.es=[]
  | some g=>B<=g /\ ∃ arr e,m.w.heap[g]? = some (.cells arr e (0,0)) /\
    ∀ i cs,b.es[i]? = some cs -> ∀ j c,cs[j]? = some c -> ∃ u,arr[i*b.c6+j]? = some u/\CC B S m c u
structure BP (w0:World) (m:M):Prop where
 below:Below B w0 m.w
 size:B<=m.w.heap.size
 fresh : ∀ s t,m.own.k6 s<=t->m.own.get s t=none
 j5 : ∀ s t b,m.own.get s t=some b->AeS B S m s t b
 inj : ∀ s t s' t' b b' g,m.own.get s t=some b->m.own.get s' t'=some b'->m.ν s t=some g->m.ν s' t'=some g->s=s'/\t=t'
structure DM (m m':M):Prop where
 size:m.w.heap.size<=m'.w.heap.size
 yb : ∀ b,b<m.w.heap.size->safe B S m true b->m'.w.heap[b]? = m.w.heap[b]?
 Cc : ∀ l b,b<m.w.heap.size->safe B S m l b->safe B S m' l b
 k6 : ∀ s,m.own.k6 s<=m'.own.k6 s
 name : ∀ s t b',t<m.own.k6 s->m'.own.get s t=some b' -> ∃ b,m.own.get s t=some b/\b'.c6=b.c6/\m'.ν s t=m.ν s t /\
   ∀ g arr e,m.ν s t=some g->m.w.heap[g]? = some (.cells arr e (0,0)) -> ∃ z0,m'.w.heap[g]? = some (.cells z0 e (0,0))/\z0.size=arr.size
end
section
variable {B:Nat} {S:Nat->Prop}
theorem uT {m:M} {l:Bool} {b:Nat} (h:safe B S m l b):safe B S m true b:=by
 rcases h with h|h|⟨_,h⟩
 ·exact .inl h
 ·exact .inr (.inl h)
 ·exact .inr (.inr ⟨rfl,h⟩)
theorem DM.rd {m m':M} (h:DM B S m m') {a:AV} {v:Value} (hr:Rd m.w (safe B S m) a v):Rd m'.w (safe B S m') a v :=
 hr.mono h.Cc (λ_ b hb hs=>h.yb b hb (uT hs))
theorem DM.cc {m m':M} (h:DM B S m m') {a:AV} {v:Value} (hc:CC B S m a v):CC B S m' a v:=by
 cases hc with
 | rd hr=>exact .rd (h.rd hr)
 | nil=>exact .nil
 | row s t z off len a cap ht fg qj ha hb =>
  refine .row s t z off len a cap (Nat.lt_of_lt_of_le ht (h.k6 s)) fg qj ha λ b' m6 => ?_
  obtain ⟨b,h1,h2,h3,h4⟩:=h.name s t b' ht m6;obtain ⟨hz,db⟩:=hb b h1;refine ⟨h2.trans hz,?_⟩;rcases db with h0|⟨g,arr,e,hg,ni,hh,hle⟩
  ·exact .inl h0
  ·obtain ⟨z0,Lw,uw⟩:=h4 g arr e hg hh
   exact .inr ⟨g,z0,e,h3.trans hg,ni,Lw,uw ▸ hle⟩
 | ptr s t i j a ht hb =>
  refine .ptr s t i j a (Nat.lt_of_lt_of_le ht (h.k6 s)) λ b' m6 => ?_
  obtain ⟨b,h1,h2,h3,_⟩:=h.name s t b' ht m6;obtain ⟨g,hg,ni⟩:=hb b h1;exact ⟨g,h3.trans hg,h2 ▸ ni⟩
 | x7 cs b o u l hR hc hr =>
  have m7:cs≠[]->b<m.w.heap.size:=λ m9=>by
   cases cs with
   | nil=>exact absurd rfl m9
   | cons c r=>exact aK (hc 0 c rfl)
  refine .x7 cs b o u l (λ m9=>h.Cc l b (m7 m9) (hR m9)) (λ j c hj => ?_) (λ j c hj=>h.rd (hr j c hj));have m9:cs≠[]:=λ e=>by subst e;simp at hj
  rw[World.cell?_of_block (w:=m.w) (h.yb b (m7 m9) (uT (hR m9)))];exact hc j c hj
theorem DM.cl {m m':M} (h:DM B S m m') {cs:List AV} {vs:List Value} (hc:CL B S m cs vs):CL B S m' cs vs :=
 ⟨hc.1,λ j c v h1 h2=>h.cc (hc.2 j c v h1 h2)⟩
theorem DM.ca {m m':M} (h:DM B S m m') {a:AV} {v:Value} (hc:CA B S m a v):CA B S m' a v:=by
 cases hc with
 | one hc=>exact .one (h.cc hc)
 | agg cs vs hc=>exact .agg cs vs (h.cl hc)
 | fn p f g cs vs hp hc=>exact .fn p f g cs vs hp (h.cl hc)
 | ve f g cs vs hp hc=>exact .ve f g cs vs hp (h.cl hc)
theorem DM.cv {m m':M} (h:DM B S m m') {a:AV} {v:Value} (hc:CV B S m a v):CV B S m' a v:=by
 cases hc with
 | any v=>exact .any v
 | ca hc=>exact .ca (h.ca hc)
 | j9 as vs hl hc=>exact .j9 as vs hl λ j c v h1 h2=>h.ca (hc j c v h1 h2)
theorem DM.refl (m:M):DM B S m m :=
 ⟨Nat.le_refl _,λ_ _ _=>rfl,λ_ _ _ h=>h,λ_=>Nat.le_refl _,λ_ _ b' _ h=>⟨b',h,rfl,rfl,λ_ arr _ _ h=>⟨arr,h,rfl⟩⟩⟩
theorem DM.trans {m m' m'':M} (h:DM B S m m') (k:DM B S m' m''):DM B S m m'' where
 size:=Nat.le_trans h.size k.size
 yb b hb hs:=(k.yb b (Nat.lt_of_lt_of_le hb h.size) (h.Cc true b hb hs)).trans (h.yb b hb hs)
 Cc l b hb hs:=k.Cc l b (Nat.lt_of_lt_of_le hb h.size) (h.Cc l b hb hs)
 k6 s:=Nat.le_trans (h.k6 s) (k.k6 s)
 name s t b'' ht Ma:=by
  obtain ⟨b',h1,h2,h3,h4⟩:=k.name s t b'' (Nat.lt_of_lt_of_le ht (h.k6 s)) Ma;obtain ⟨b,g1,g2,g3,g4⟩:=h.name s t b' ht h1;refine ⟨b,g1,h2.trans g2,h3.trans g3,λ g arr e hg ha => ?_⟩;obtain ⟨z0,Lw,uw⟩:=g4 g arr e hg ha;obtain ⟨Fm,Lx,Ol⟩:=h4 g z0 e (g3.trans hg) Lw;exact ⟨Fm,Lx,Ol.trans uw⟩
theorem CC.one {m:M} {a:AV} {v:Value} (h:CC B S m a v):v.oneCell'=true:=by
 cases h with
 | rd h=>exact h.one
 | _=>rfl
end
end Go.e8

namespace Go.e8
open Go.RowKit
section
variable {B:Nat} {S:Nat->Prop} {w0:World}
def live (m:M) (s t:Nat):Prop := ∃ b,m.own.get s t=some b
theorem BP.ge {m:M} (h:BP B S w0 m) {s t g:Nat} (hl:live m s t) (hg:m.ν s t=some g):B<=g /\ ∃ arr e,m.w.heap[g]? = some (.cells arr e (0,0)):=by
 obtain ⟨b,hb⟩:=hl;obtain ⟨_,h2⟩:=h.j5 s t b hb;rw[hg]at h2;obtain ⟨h3,arr,e,h4,_⟩:=h2;exact ⟨h3,arr,e,h4⟩
theorem aX {m m':M} (hm:BP B S w0 m) (hs:m.w.heap.size<=m'.w.heap.size)
  (hk : ∀ b,b<m.w.heap.size->(∀ s t,live m s t->m.ν s t≠some b)->m'.w.heap[b]? = m.w.heap[b]?) (Dd : ∀ s,m.own.k6 s<=m'.own.k6 s)
  (Hl : ∀ s t b',t<m.own.k6 s->m'.own.get s t=some b' -> ∃ b,m.own.get s t=some b/\b'.c6=b.c6/\m'.ν s t=m.ν s t /\
   ∀ g arr e,m.ν s t=some g->m.w.heap[g]? = some (.cells arr e (0,0)) -> ∃ z0,m'.w.heap[g]? = some (.cells z0 e (0,0))/\z0.size=arr.size)
  (np : ∀ s t g,live m' s t->m'.ν s t=some g->g<m.w.heap.size -> ∃ s0 t0,live m s0 t0/\m.ν s0 t0=some g):DM B S m m':=by
 have Eu : ∀ b,safe B S m true b -> ∀ s t,live m s t->m.ν s t≠some b:=by
  intro b hb s t hl hg;have me:=(hm.ge hl hg).1;rcases hb with ⟨_,h⟩|⟨_,h⟩|⟨_,h⟩
  ·omega
  ·obtain ⟨b',m6⟩:=hl
   exact h s t (by simp [m6]) hg
  ·omega
 refine ⟨hs,λ b hb xp=>hk b hb (Eu b xp),λ l b hb xp => ?_,Dd,Hl⟩;rcases xp with h|⟨h,hn⟩|h
 ·exact .inl h
 ·refine .inr (.inl ⟨h,λ s t hl hg => ?_⟩)
  obtain ⟨b',m6⟩:=Option.isSome_iff_exists.1 hl;obtain ⟨s0,t0,⟨b0,Be⟩,Dj⟩:=np s t b ⟨b',m6⟩ hg hb;exact hn s0 t0 (by simp [Be]) Dj
 ·exact .inr (.inr h)
theorem grow {m:M} (hm:BP B S w0 m) {w':World} (hb:Below m.w.heap.size m.w w') :
  BP B S w0 ⟨m.ν,m.own,w'⟩/\DM B S m ⟨m.ν,m.own,w'⟩:=by
 have he:DM B S m ⟨m.ν,m.own,w'⟩:=by
  refine aX hm hb.size (λ b m6 _=>hb.block b m6) (λ_=>Nat.le_refl _) (λ s t b' _ m6=>⟨b',m6,rfl,rfl,λ g arr e hg ha=>⟨arr,?_,rfl⟩⟩) (λ s t g hl hg _=>⟨s,t,hl,hg⟩);have:g<m.w.heap.size:=(Array.getElem?_eq_some_iff.1 ha).1
  exact (hb.block g this).trans ha
 refine ⟨⟨hm.below.trans (hb.mono hm.size),Nat.le_trans hm.size hb.size,hm.fresh,λ s t b hg => ?_,hm.inj⟩,he⟩;obtain ⟨h1,h2⟩:=hm.j5 s t b hg;refine ⟨h1,?_⟩;show match m.ν s t with|none=>_|some g=>_
 cases hν:m.ν s t with
 | none=>rw[hν]at h2;exact h2
 | some g =>
  rw[hν]at h2;obtain ⟨h3,arr,e,h4,h5⟩:=h2;refine ⟨h3,arr,e,?_,λ i cs hi j c hj => ?_⟩
  ·exact (hb.block g (Array.getElem?_eq_some_iff.1 h4).1).trans h4
  ·obtain ⟨u,hu,aw⟩:=h5 i cs hi j c hj
   exact ⟨u,hu,he.cc aw⟩
theorem GD (o:AH) (s s' t':Nat) (b:ED):(o.put s ((o s).new b)).get s' t'=if s'=s/\t'=o.k6 s then some b else o.get s' t':=by
 unfold AH.get AH.put CH.new AH.k6;by_cases h:s'=s
 ·subst h
  by_cases h2:t'=(o s').k6<;>simp [h2]
 ·simp [h]
theorem SZ (o:AH) (s s':Nat) (b:ED):(o.put s ((o s).new b)).k6 s'=if s'=s then o.k6 s+1 else o.k6 s':=by
 unfold AH.k6 AH.put CH.new;by_cases h:s'=s<;>simp [h]
theorem gV (o:AH) (s t s' t':Nat) (b:Option ED):(o.put s ((o s).u7 t b)).get s' t'=if s'=s/\t'=t then b else o.get s' t':=by
 unfold AH.get AH.put CH.u7;by_cases h:s'=s
 ·subst h
  by_cases h2:t'=t<;>simp [h2]
 ·simp [h]
theorem yW (o:AH) (s t s':Nat) (b:Option ED):(o.put s ((o s).u7 t b)).k6 s'=o.k6 s':=by
 unfold AH.k6 AH.put CH.u7;by_cases h:s'=s<;>simp [h]
def k7 (m:M) (s:Nat) (g:Option Nat):Nat->Nat->Option Nat:=λ s' t'=>if s'=s/\t'=m.own.k6 s then g else m.ν s' t'
theorem mR {m:M} (hm:BP B S w0 m) (s:Nat) : ¬ live m s (m.own.k6 s):=λ⟨b,hb⟩=>by
 rw[hm.fresh s _ (Nat.le_refl _)]at hb;cases hb
theorem kH {m:M} (hm:BP B S w0 m) (s:Nat) (b:ED) (arr:Array Value) (e:TypeId) (hz : ∀ x∈b.es,x.length=b.c6)
  (hc : ∀ i cs,b.es[i]? = some cs -> ∀ j c,cs[j]? = some c -> ∃ u,arr[i*b.c6+j]? = some u/\CC B S m c u) :
  BP B S w0 ⟨k7 m s (some m.w.heap.size),m.own.put s ((m.own s).new b),m.w.alloc (.cells arr e)⟩ /\
  DM B S m ⟨k7 m s (some m.w.heap.size),m.own.put s ((m.own s).new b),m.w.alloc (.cells arr e)⟩:=by
 have y7:(m.w.alloc (.cells arr e)).heap.size=m.w.heap.size+1:=by simp
 have hν : ∀ s' t',live m s' t'->k7 m s (some m.w.heap.size) s' t'=m.ν s' t':=λ s' t' hl=>by
  unfold k7;rw[if_neg];rintro ⟨rfl,rfl⟩
  exact mR hm _ hl
 have he:DM B S m ⟨k7 m s (some m.w.heap.size),m.own.put s ((m.own s).new b),m.w.alloc (.cells arr e)⟩:=by
  refine aX hm (by rw[y7];omega) (λ k hk _=>Below.heap_alloc _ _ _ hk) (λ s' => ?_) (λ s' t' b' ht m6 => ?_) (λ s' t' g hl hg m7 => ?_)
  ·rw[SZ];split
   ·rename_i h;subst h;omega
   ·exact Nat.le_refl _
  ·rw[GD]at m6
   rw[if_neg (by rintro ⟨rfl,rfl⟩;omega)]at m6;refine ⟨b',m6,rfl,hν s' t' ⟨b',m6⟩,λ g ar e' hg ha=>⟨ar,?_,rfl⟩⟩;exact (Below.heap_alloc _ _ _ (Array.getElem?_eq_some_iff.1 ha).1).trans ha
  ·obtain ⟨b',m6⟩:=hl
   have x8:=m6;rw[GD]at m6;by_cases h:s'=s/\t'=m.own.k6 s
   ·simp only[k7,if_pos h,Option.some.injEq]at hg
    omega
   ·rw[if_neg h]at m6
    exact ⟨s',t',⟨b',m6⟩,by rw[<-hν s' t' ⟨b',m6⟩];exact hg⟩
 refine ⟨⟨hm.below.alloc hm.size _,by rw[y7];have:=hm.size;omega,λ s' t' ht => ?_,λ s' t' b' m6 => ?_,λ s1 t1 s2 t2 b1 b2 g h1 h2 g1 g2 => ?_⟩,he⟩
 ·rw[SZ]at ht
  rw[GD,if_neg]
  ·refine hm.fresh s' t' ?_
   split at ht
   ·rename_i h;subst h;omega
   ·exact ht
  ·rintro ⟨rfl,rfl⟩
   simp at ht;omega
 ·rw[GD]at m6
  by_cases h:s'=s/\t'=m.own.k6 s
  ·rw[if_pos h]at m6
   obtain rfl:b=b':=by simpa using m6
   refine ⟨hz,?_⟩;show match k7 m s (some m.w.heap.size) s' t' with|none=>_|some g=>_
   rw[show k7 m s (some m.w.heap.size) s' t'=some m.w.heap.size by simp [k7,h]];refine ⟨hm.size,arr,e,heap_alloc_new _ _,λ i cs hi j c hj => ?_⟩;obtain ⟨u,hu,aw⟩:=hc i cs hi j c hj;exact ⟨u,hu,he.cc aw⟩
  ·rw[if_neg h]at m6
   obtain ⟨h1,h2⟩:=hm.j5 s' t' b' m6;refine ⟨h1,?_⟩;show match k7 m s (some m.w.heap.size) s' t' with|none=>_|some g=>_
   rw[hν s' t' ⟨b',m6⟩];cases hv:m.ν s' t' with
   | none=>rw[hv]at h2;exact h2
   | some g =>
    rw[hv]at h2;obtain ⟨h3,ar,e',h4,h5⟩:=h2;refine ⟨h3,ar,e',(Below.heap_alloc _ _ _ (Array.getElem?_eq_some_iff.1 h4).1).trans h4,λ i cs hi j c hj => ?_⟩;obtain ⟨u,hu,aw⟩:=h5 i cs hi j c hj;exact ⟨u,hu,he.cc aw⟩
 ·rw[GD]at h1 h2
  have lt : ∀ s' t' b',m.own.get s' t'=some b'->k7 m s (some m.w.heap.size) s' t'=some g->g<m.w.heap.size:=λ s' t' b' hb hg=>by
   rw[hν s' t' ⟨b',hb⟩]at hg;obtain ⟨_,ar,e',h4⟩:=hm.ge ⟨b',hb⟩ hg;exact (Array.getElem?_eq_some_iff.1 h4).1
  have at_ : ∀ s' t',s'=s/\t'=m.own.k6 s->k7 m s (some m.w.heap.size) s' t'=some g->g=m.w.heap.size:=λ s' t' h hg=>by
   simp only[k7,if_pos h,Option.some.injEq]at hg;exact hg.symm
  by_cases p1:s1=s/\t1=m.own.k6 s<;>by_cases p2:s2=s/\t2=m.own.k6 s
  ·exact ⟨p1.1.trans p2.1.symm,p1.2.trans p2.2.symm⟩
  ·rw[if_neg p2]at h2
   have:=lt s2 t2 b2 h2 g2
   have:=at_ s1 t1 p1 g1
   omega
  ·rw[if_neg p1]at h1
   have:=lt s1 t1 b1 h1 g1
   have:=at_ s2 t2 p2 g2
   omega
  ·rw[if_neg p1]at h1
   rw[if_neg p2]at h2;exact hm.inj s1 t1 s2 t2 b1 b2 g h1 h2 (by rw[<-hν s1 t1 ⟨b1,h1⟩];exact g1) (by rw[<-hν s2 t2 ⟨b2,h2⟩];exact g2)
theorem Zq {m:M} (hm:BP B S w0 m) (s c6:Nat) :
  BP B S w0 ⟨k7 m s none,m.own.put s ((m.own s).new ⟨c6,[]⟩),m.w⟩/\DM B S m ⟨k7 m s none,m.own.put s ((m.own s).new ⟨c6,[]⟩),m.w⟩:=by
 have hν : ∀ s' t',live m s' t'->k7 m s none s' t'=m.ν s' t':=λ s' t' hl=>by
  unfold k7;rw[if_neg];rintro ⟨rfl,rfl⟩
  exact mR hm _ hl
 have he:DM B S m ⟨k7 m s none,m.own.put s ((m.own s).new ⟨c6,[]⟩),m.w⟩:=by
  refine aX hm (Nat.le_refl _) (λ k hk _=>rfl) (λ s' => ?_) (λ s' t' b' ht m6 => ?_) (λ s' t' g hl hg m7 => ?_)
  ·rw[SZ];split
   ·rename_i h;subst h;omega
   ·exact Nat.le_refl _
  ·rw[GD]at m6
   rw[if_neg (by rintro ⟨rfl,rfl⟩;omega)]at m6;exact ⟨b',m6,rfl,hν s' t' ⟨b',m6⟩,λ g ar e' hg ha=>⟨ar,ha,rfl⟩⟩
  ·obtain ⟨b',m6⟩:=hl
   rw[GD]at m6;by_cases h:s'=s/\t'=m.own.k6 s
   ·simp [k7,if_pos h]at hg
   ·rw[if_neg h]at m6
    exact ⟨s',t',⟨b',m6⟩,by rw[<-hν s' t' ⟨b',m6⟩];exact hg⟩
 refine ⟨⟨hm.below,hm.size,λ s' t' ht => ?_,λ s' t' b' m6 => ?_,λ s1 t1 s2 t2 b1 b2 g h1 h2 g1 g2 => ?_⟩,he⟩
 ·rw[SZ]at ht
  rw[GD,if_neg]
  ·refine hm.fresh s' t' ?_
   split at ht
   ·rename_i h;subst h;omega
   ·exact ht
  ·rintro ⟨rfl,rfl⟩
   simp at ht;omega
 ·rw[GD]at m6
  by_cases h:s'=s/\t'=m.own.k6 s
  ·rw[if_pos h]at m6
   obtain rfl:(⟨c6,[]⟩:ED)=b':=by simpa using m6
   refine ⟨by simp,?_⟩;show match k7 m s none s' t' with|none=>_|some g=>_
   rw[show k7 m s none s' t'=none by simp [k7,h]]
  ·rw[if_neg h]at m6
   obtain ⟨h1,h2⟩:=hm.j5 s' t' b' m6;refine ⟨h1,?_⟩;show match k7 m s none s' t' with|none=>_|some g=>_
   rw[hν s' t' ⟨b',m6⟩];cases hv:m.ν s' t' with
   | none=>rw[hv]at h2;exact h2
   | some g =>
    rw[hv]at h2;obtain ⟨h3,ar,e',h4,h5⟩:=h2;refine ⟨h3,ar,e',h4,λ i cs hi j c hj => ?_⟩;obtain ⟨u,hu,aw⟩:=h5 i cs hi j c hj;exact ⟨u,hu,he.cc aw⟩
 ·rw[GD]at h1 h2
  by_cases p1:s1=s/\t1=m.own.k6 s
  ·simp [k7,if_pos p1]at g1
  ·by_cases p2:s2=s/\t2=m.own.k6 s
   ·simp [k7,if_pos p2]at g2
   ·rw[if_neg p1]at h1
    rw[if_neg p2]at h2;exact hm.inj s1 t1 s2 t2 b1 b2 g h1 h2 (by rw[<-hν s1 t1 ⟨b1,h1⟩];exact g1) (by rw[<-hν s2 t2 ⟨b2,h2⟩];exact g2)
theorem AnI {m:M} (hm:BP B S w0 m) (s t:Nat) (b b':ED) (hb:m.own.get s t=some b) (g:Nat) (hg:m.ν s t=some g) (arr z0:Array Value) (e:TypeId)
  (ha:m.w.heap[g]? = some (.cells arr e (0,0))) (hz':b'.c6=b.c6) (hz : ∀ x∈b'.es,x.length=b'.c6) (y7:z0.size=arr.size)
  (hc : ∀ i cs,b'.es[i]? = some cs -> ∀ j c,cs[j]? = some c -> ∃ u,z0[i*b'.c6+j]? = some u/\CC B S m c u) (w':World) (kn:Below B w0 w') (Bm:w'.heap.size=m.w.heap.size)
  (hk : ∀ k,k≠g->w'.heap[k]? = m.w.heap[k]?) (hgw:w'.heap[g]? = some (.cells z0 e (0,0))) :
  BP B S w0 ⟨m.ν,m.own.put s ((m.own s).u7 t (some b')),w'⟩/\DM B S m ⟨m.ν,m.own.put s ((m.own s).u7 t (some b')),w'⟩:=by
 have m7:t<m.own.k6 s:=by
  rcases Nat.lt_or_ge t (m.own.k6 s) with h|h
  ·exact h
  ·rw[hm.fresh s t h]at hb;cases hb
 have he:DM B S m ⟨m.ν,m.own.put s ((m.own s).u7 t (some b')),w'⟩:=by
  refine aX hm (by rw[Bm];exact Nat.le_refl _) (λ k jy hn=>hk k (λ e=>hn s t ⟨b,hb⟩ (e ▸ hg))) (λ s'=>by rw[yW];exact Nat.le_refl _) (λ s' t' b2 ht x8 => ?_) (λ s' t' g' hl ga _ => ?_)
  ·rw[gV]at x8
   by_cases h:s'=s/\t'=t
   ·obtain ⟨rfl,rfl⟩:=h
    rw[if_pos ⟨rfl,rfl⟩]at x8;obtain rfl:b'=b2:=by simpa using x8
    refine ⟨b,hb,hz',rfl,λ g2 ar e' lk zs => ?_⟩;obtain rfl:g=g2:=by rw[hg]at lk;simpa using lk
    rw[ha]at zs;obtain ⟨rfl,rfl⟩:arr=ar/\e=e':=by simpa using zs
    exact ⟨z0,hgw,y7⟩
   ·rw[if_neg h]at x8
    refine ⟨b2,x8,rfl,rfl,λ g2 ar e' lk zs=>⟨ar,?_,rfl⟩⟩;rw[<-zs];exact hk g2 (λ e2=>h (by
     subst e2;exact hm.inj s' t' s t b2 b g2 x8 hb lk hg))
  ·obtain ⟨b2,x8⟩:=hl
   rw[gV]at x8;by_cases h:s'=s/\t'=t
   ·obtain ⟨rfl,rfl⟩:=h
    exact ⟨s',t',⟨b,hb⟩,ga⟩
   ·rw[if_neg h]at x8
    exact ⟨s',t',⟨b2,x8⟩,ga⟩
 refine ⟨⟨kn,by rw[Bm];exact hm.size,λ s' t' ht => ?_,λ s' t' b2 x8 => ?_,λ s1 t1 s2 t2 b1 b2 g1 h1 h2 e1 e2 => ?_⟩,he⟩
 ·rw[yW]at ht
  rw[gV,if_neg (by rintro ⟨rfl,rfl⟩;omega)];exact hm.fresh s' t' ht
 ·rw[gV]at x8
  by_cases h:s'=s/\t'=t
  ·obtain ⟨rfl,rfl⟩:=h
   rw[if_pos ⟨rfl,rfl⟩]at x8;obtain rfl:b'=b2:=by simpa using x8
   refine ⟨hz,?_⟩;show match m.ν s' t' with|none=>_|some g=>_
   rw[hg];refine ⟨(hm.ge ⟨b,hb⟩ hg).1,z0,e,hgw,λ i cs hi j c hj => ?_⟩;obtain ⟨u,hu,aw⟩:=hc i cs hi j c hj;exact ⟨u,hu,he.cc aw⟩
  ·rw[if_neg h]at x8
   obtain ⟨h1,h2⟩:=hm.j5 s' t' b2 x8;refine ⟨h1,?_⟩;show match m.ν s' t' with|none=>_|some g=>_
   cases hv:m.ν s' t' with
   | none=>rw[hv]at h2;exact h2
   | some g2 =>
    rw[hv]at h2;obtain ⟨h3,ar,e',h4,h5⟩:=h2;refine ⟨h3,ar,e',?_,λ i cs hi j c hj => ?_⟩
    ·rw[<-h4]
     exact hk g2 (λ e2=>h (by
      subst e2;exact hm.inj s' t' s t b2 b g2 x8 hb hv hg))
    ·obtain ⟨u,hu,aw⟩:=h5 i cs hi j c hj
     exact ⟨u,hu,he.cc aw⟩
 ·have old : ∀ s' t' b2,(m.own.put s ((m.own s).u7 t (some b'))).get s' t'=some b2 -> ∃ b3,m.own.get s' t'=some b3:=λ s' t' b2 h=>by
   rw[gV]at h;by_cases h':s'=s/\t'=t
   ·obtain ⟨rfl,rfl⟩:=h';exact ⟨b,hb⟩
   ·rw[if_neg h']at h;exact ⟨b2,h⟩
  obtain ⟨c1,k1⟩:=old s1 t1 b1 h1;obtain ⟨c2,k2⟩:=old s2 t2 b2 h2;exact hm.inj s1 t1 s2 t2 c1 c2 g1 k1 k2 e1 e2
theorem aZ (o:AH) (s t s' t':Nat) (b:ED):(o.put s (((o s).u7 t none).new b)).get s' t'=if s'=s/\t'=o.k6 s then some b else if s'=s/\t'=t then none else o.get s' t':=by
 unfold AH.get AH.put CH.new CH.u7 AH.k6;by_cases h:s'=s
 ·subst h
  by_cases h2:t'=(o s').k6<;>by_cases h3:t'=t<;>simp [h2,h3]
 ·simp [h]
theorem kV (o:AH) (s t s':Nat) (b:ED):(o.put s (((o s).u7 t none).new b)).k6 s'=if s'=s then o.k6 s+1 else o.k6 s':=by
 unfold AH.k6 AH.put CH.new CH.u7;by_cases h:s'=s<;>simp [h]
theorem tF {m:M} (hm:BP B S w0 m) (s t:Nat) (b b':ED) (hb:m.own.get s t=some b) (fq:Option Nat) (w':World) (kn:Below B w0 w') (y7:m.w.heap.size<=w'.heap.size)
  (hk : ∀ k,k<m.w.heap.size->m.ν s t≠some k->w'.heap[k]? = m.w.heap[k]?) (hz : ∀ x∈b'.es,x.length=b'.c6)
  (pd:fq=none->b'.es=[])
  (xq : ∀ g,fq=some g->B<=g/\(m.w.heap.size<=g\/m.ν s t=some g) /\ ∃ arr e,w'.heap[g]? = some (.cells arr e (0,0)) /\
   ∀ i cs,b'.es[i]? = some cs -> ∀ j c,cs[j]? = some c -> ∃ u,arr[i*b'.c6+j]? = some u/\CC B S m c u) :
  BP B S w0 ⟨k7 m s fq,m.own.put s (((m.own s).u7 t none).new b'),w'⟩/\DM B S m ⟨k7 m s fq,m.own.put s (((m.own s).u7 t none).new b'),w'⟩:=by
 have m7:t<m.own.k6 s:=by
  rcases Nat.lt_or_ge t (m.own.k6 s) with h|h
  ·exact h
  ·rw[hm.fresh s t h]at hb;cases hb
 have hν : ∀ s' t',live m s' t'->k7 m s fq s' t'=m.ν s' t':=λ s' t' hl=>by
  unfold k7;rw[if_neg];rintro ⟨rfl,rfl⟩
  exact mR hm _ hl
 have he:DM B S m ⟨k7 m s fq,m.own.put s (((m.own s).u7 t none).new b'),w'⟩:=by
  refine aX hm y7 (λ k jy hn=>hk k jy (hn s t ⟨b,hb⟩)) (λ s' => ?_) (λ s' t' b2 ht x8 => ?_) (λ s' t' g' hl ga xe => ?_)
  ·rw[kV];split
   ·rename_i h;subst h;omega
   ·exact Nat.le_refl _
  ·rw[aZ]at x8
   rw[if_neg (by rintro ⟨rfl,rfl⟩;omega)]at x8;by_cases h:s'=s/\t'=t
   ·rw[if_pos h]at x8;cases x8
   ·rw[if_neg h]at x8
    refine ⟨b2,x8,rfl,hν s' t' ⟨b2,x8⟩,λ g2 ar e' lk zs=>⟨ar,?_,rfl⟩⟩;rw[<-zs];exact hk g2 (Array.getElem?_eq_some_iff.1 zs).1 (λ e2=>h (hm.inj s' t' s t b2 b g2 x8 hb lk e2))
  ·obtain ⟨b2,x8⟩:=hl
   rw[aZ]at x8;by_cases h0:s'=s/\t'=m.own.k6 s
   ·simp only[k7,if_pos h0]at ga
    obtain ⟨_,h2,_⟩:=xq g' ga;rcases h2 with h2|h2
    ·omega
    ·exact ⟨s,t,⟨b,hb⟩,h2⟩
   ·rw[if_neg h0]at x8
    by_cases h:s'=s/\t'=t
    ·rw[if_pos h]at x8;cases x8
    ·rw[if_neg h]at x8
     exact ⟨s',t',⟨b2,x8⟩,by rw[<-hν s' t' ⟨b2,x8⟩];exact ga⟩
 refine ⟨⟨kn,Nat.le_trans hm.size y7,λ s' t' ht => ?_,λ s' t' b2 x8 => ?_,λ s1 t1 s2 t2 b1 b2 g1 h1 h2 e1 e2 => ?_⟩,he⟩
 ·rw[kV]at ht
  have ql:m.own.k6 s'<=t' /\ ¬ (s'=s/\t'=m.own.k6 s):=by
   by_cases h:s'=s
   ·subst h
    simp at ht;exact ⟨by omega,by omega⟩
   ·simp [h]at ht
    exact ⟨ht,λ h'=>h h'.1⟩
  rw[aZ,if_neg ql.2];split
  ·rfl
  ·exact hm.fresh s' t' ql.1
 ·rw[aZ]at x8
  by_cases h0:s'=s/\t'=m.own.k6 s
  ·rw[if_pos h0]at x8
   obtain rfl:b'=b2:=by simpa using x8
   refine ⟨hz,?_⟩;show match k7 m s fq s' t' with|none=>_|some g=>_
   rw[show k7 m s fq s' t'=fq by simp [k7,h0]];cases fq with
   | none=>exact pd rfl
   | some g =>
    obtain ⟨h1,_,arr,e,h4,h5⟩:=xq g rfl;refine ⟨h1,arr,e,h4,λ i cs hi j c hj => ?_⟩;obtain ⟨u,hu,aw⟩:=h5 i cs hi j c hj;exact ⟨u,hu,he.cc aw⟩
  ·rw[if_neg h0]at x8
   by_cases h:s'=s/\t'=t
   ·rw[if_pos h]at x8;cases x8
   ·rw[if_neg h]at x8
    obtain ⟨h1,h2⟩:=hm.j5 s' t' b2 x8;refine ⟨h1,?_⟩;show match k7 m s fq s' t' with|none=>_|some g=>_
    rw[hν s' t' ⟨b2,x8⟩];cases hv:m.ν s' t' with
    | none=>rw[hv]at h2;exact h2
    | some g2 =>
     rw[hv]at h2;obtain ⟨h3,ar,e',h4,h5⟩:=h2;refine ⟨h3,ar,e',?_,λ i cs hi j c hj => ?_⟩
     ·rw[<-h4]
      exact hk g2 (Array.getElem?_eq_some_iff.1 h4).1 (λ e2=>h (hm.inj s' t' s t b2 b g2 x8 hb hv e2))
     ·obtain ⟨u,hu,aw⟩:=h5 i cs hi j c hj
      exact ⟨u,hu,he.cc aw⟩
 ·rw[aZ]at h1 h2
  have old : ∀ s' t' b2,(if s'=s/\t'=t then none else m.own.get s' t')=some b2->m.own.get s' t'=some b2 /\ ¬ (s'=s/\t'=t):=λ s' t' b2 h=>by
   by_cases h':s'=s/\t'=t
   ·rw[if_pos h']at h;cases h
   ·rw[if_neg h']at h;exact ⟨h,h'⟩
  have oo : ∀ s' t' b2,m.own.get s' t'=some b2 -> ¬ (s'=s/\t'=t)->k7 m s fq s' t'=some g1->fq=some g1->False:=λ s' t' b2 x8 m9 e1 e2=>by
   rw[hν s' t' ⟨b2,x8⟩]at e1;obtain ⟨_,h2,_⟩:=xq g1 e2;obtain ⟨_,ar,e',h4⟩:=hm.ge ⟨b2,x8⟩ e1;have:=(Array.getElem?_eq_some_iff.1 h4).1
   rcases h2 with h2|h2
   ·omega
   ·exact m9 (hm.inj s' t' s t b2 b g1 x8 hb e1 h2)
  have at_ : ∀ s' t',s'=s/\t'=m.own.k6 s->k7 m s fq s' t'=some g1->fq=some g1:=λ s' t' h hg=>by simpa [k7,if_pos h] using hg
  by_cases p1:s1=s/\t1=m.own.k6 s<;>by_cases p2:s2=s/\t2=m.own.k6 s
  ·exact ⟨p1.1.trans p2.1.symm,p1.2.trans p2.2.symm⟩
  ·rw[if_neg p2]at h2
   obtain ⟨k2,n2⟩:=old s2 t2 b2 h2;exact (oo s2 t2 b2 k2 n2 e2 (at_ s1 t1 p1 e1)).elim
  ·rw[if_neg p1]at h1
   obtain ⟨k1,n1⟩:=old s1 t1 b1 h1;exact (oo s1 t1 b1 k1 n1 e1 (at_ s2 t2 p2 e2)).elim
  ·rw[if_neg p1]at h1
   rw[if_neg p2]at h2;obtain ⟨k1,n1⟩:=old s1 t1 b1 h1;obtain ⟨k2,n2⟩:=old s2 t2 b2 h2;exact hm.inj s1 t1 s2 t2 b1 b2 g1 k1 k2 (by rw[<-hν s1 t1 ⟨b1,k1⟩];exact e1) (by rw[<-hν s2 t2 ⟨b2,k2⟩];exact e2)
theorem Ur (o:AH) (l:List Nat) (s t:Nat):(o.drop l).get s t=if s∈l then none else o.get s t:=by
 induction l with
 | nil=>simp [AH.drop]
 | cons x r ih =>
  unfold AH.get at *;by_cases h:s=x
  ·subst h;simp [AH.drop,AH.put]
  ·simp only[AH.drop,AH.put,if_neg h,List.mem_cons]
   rw[ih];by_cases h2:s∈r<;>simp [h,h2]
theorem yV (o:AH) (l:List Nat) (s:Nat):(o.drop l).k6 s=o.k6 s:=by
 induction l with
 | nil=>simp [AH.drop]
 | cons x r ih =>
  unfold AH.k6 at *;by_cases h:s=x
  ·subst h;simp [AH.drop,AH.put]
  ·simp [AH.drop,AH.put,h,ih]
theorem Aik {m:M} (hm:BP B S w0 m) (l:List Nat):BP B S w0 ⟨m.ν,m.own.drop l,m.w⟩/\DM B S m ⟨m.ν,m.own.drop l,m.w⟩:=by
 have old : ∀ s t b,(m.own.drop l).get s t=some b->m.own.get s t=some b:=λ s t b h=>by
  rw[Ur]at h;split at h
  ·cases h
  ·exact h
 have he:DM B S m ⟨m.ν,m.own.drop l,m.w⟩:=by
  refine aX hm (Nat.le_refl _) (λ_ _ _=>rfl) (λ s=>by rw[yV];exact Nat.le_refl _) (λ s t b' _ m6=>⟨b',old s t b' m6,rfl,rfl,λ_ ar _ _ ha=>⟨ar,ha,rfl⟩⟩) (λ s t g hl hg _ => ?_);obtain ⟨b,hb⟩:=hl;exact ⟨s,t,⟨b,old s t b hb⟩,hg⟩
 refine ⟨⟨hm.below,hm.size,λ s t ht => ?_,λ s t b hb => ?_,λ s1 t1 s2 t2 b1 b2 g h1 h2=>hm.inj s1 t1 s2 t2 b1 b2 g (old _ _ _ h1) (old _ _ _ h2)⟩,he⟩
 ·rw[yV]at ht
  rw[Ur];split
  ·rfl
  ·exact hm.fresh s t ht
 ·obtain ⟨h1,h2⟩:=hm.j5 s t b (old s t b hb)
  refine ⟨h1,?_⟩;show match m.ν s t with|none=>_|some g=>_
  cases hv:m.ν s t with
  | none=>rw[hv]at h2;exact h2
  | some g =>
   rw[hv]at h2;obtain ⟨h3,ar,e',h4,h5⟩:=h2;refine ⟨h3,ar,e',h4,λ i cs hi j c hj => ?_⟩;obtain ⟨u,hu,aw⟩:=h5 i cs hi j c hj;exact ⟨u,hu,he.cc aw⟩
end
end Go.e8

namespace Go.e8
section
variable {P:Program} {num:Nat->Nat} {op:Op}
theorem Alh {y:AQ} (h:BD P num op (.b9 y)=true) : ∃ x,(op = .move x\/op = .assign x)/\BU x y=true:=by
 cases op with
 | move x=>exact ⟨x,.inl rfl,h⟩
 | assign x=>exact ⟨x,.inr rfl,h⟩
 | _=>exact Bool.noConfusion h
theorem Aln {s z:Nat} (h:BD P num op (.ag s z)=true):(op = .move (.const (.slice none 0 0))\/op = .assign (.const (.slice none 0 0)))/\z≠0:=by
 simp only[BD,Bool.and_eq_true,bne_iff_ne]at h;refine ⟨?_,h.1⟩;have h2:=h.2;split at h2<;>simp_all
theorem Ali {c' a' b':AQ} (h:BD P num op (.pick c' a' b')=true) : ∃ c a b,op = .pick c a b/\BU c c'=true/\BU a a'=true/\BU b b'=true:=by
 cases op with
 | pick c a b=>simp only[BD,Bool.and_eq_true]at h;exact ⟨c,a,b,rfl,h.1.1,h.1.2,h.2⟩
 | _=>exact Bool.noConfusion h
theorem AkZ {f:BinOp} {x' y':AQ} (h:BD P num op (.bin f x' y')=true) : ∃ t x y u,op = .binOp f t x y u/\BU x x'=true/\BU y y'=true:=by
 cases op with
 | binOp f' t x y u =>
  simp only[BD,Bool.and_eq_true,beq_iff_eq]at h;exact ⟨t,x,y,u,by rw[h.1.1],h.1.2,h.2⟩
 | _=>exact Bool.noConfusion h
theorem AkY {ne:Bool} {x' y':AQ} (h:BD P num op (.beq ne x' y')=true) : ∃ t x y u,op = .binOp (if ne then .neq else .eql) t x y u/\P.underlying t=some .bool/\BU x x'=true/\BU y y'=true:=by
 cases op with
 | binOp f' t x y u =>
  simp only[BD,Bool.and_eq_true]at h;obtain ⟨⟨⟨h1,h2⟩,h3⟩,h4⟩:=h;refine ⟨t,x,y,u,?_,?_,h3,h4⟩
  ·cases ne<;>simp_all
  ·split at h2<;>simp_all
 | _=>exact Bool.noConfusion h
theorem Alm {f:UnOp} {x':AQ} (h:BD P num op (.un f x')=true) : ∃ t x,op = .unOp f t x/\BU x x'=true:=by
 cases op with
 | unOp f' t x =>
  simp only[BD,Bool.and_eq_true,beq_iff_eq]at h;exact ⟨t,x,by rw[h.1],h.2⟩
 | _=>exact Bool.noConfusion h
theorem Ak8 {k:IntKind} {x':AQ} (h:BD P num op (.conv k x')=true) : ∃ s d x ds,op = .convert s d x/\P.underlying s=some ds/\P.underlying d=some (.int k)/\BU x x'=true:=by
 cases op with
 | convert s d x =>
  simp only[BD,Bool.and_eq_true]at h;obtain ⟨⟨h1,h2⟩,h3⟩:=h;obtain ⟨ds,Df⟩:=Option.isSome_iff_exists.1 h1;refine ⟨s,d,x,ds,rfl,Df,?_,h3⟩;split at h2<;>simp_all
 | _=>exact Bool.noConfusion h
theorem Ak0 {s:Nat} {x':AQ} (h:BD P num op (.box s x')=true) : ∃ t x,op = .box t x/\BU x x'=true:=by
 cases op with
 | box t x=>exact ⟨t,x,rfl,h⟩
 | _=>exact Bool.noConfusion h
theorem AkW {s:Nat} {z:List AV} (h:BD P num op (.alloc s z)=true) : ∃ t,op = .alloc t/\bW P t z=true:=by
 cases op with
 | alloc t=>exact ⟨t,rfl,h⟩
 | _=>exact Bool.noConfusion h
theorem Ak2 {z:List AV} {fu:List (Nat × Nat × AQ)} (h:BD P num op (.build z fu)=true) : ∃ t ps,op = .build t ps/\bW P t z=true/\pF P t ps.toList fu=true:=by
 cases op with
 | build t ps=>simp only[BD,Bool.and_eq_true]at h;exact ⟨t,ps,rfl,h.1,h.2⟩
 | _=>exact Bool.noConfusion h
theorem Y3 {t:TypeId} {f:TypeId->Bool} (h:OG P t f=true) : ∃ e,P.underlying t=some (.slice e)/\f e=true:=by
 unfold OG at h;split at h
 ·rename_i e he;exact ⟨e,he,h⟩
 ·cases h
theorem QT {t:TypeId} {n:Nat} (h:IM P t n=true) : ∃ i,P.info? t=some i/\i.size=n:=by
 unfold IM at h;split at h
 ·rename_i i hi;exact ⟨i,hi,by simpa using h⟩
 ·cases h
theorem pG {t:TypeId} {n:Nat} (h:fP P t n=true) : ∃ i,P.info? t=some i/\i.bytes=n:=by
 unfold fP at h;split at h
 ·rename_i i hi;exact ⟨i,hi,by simpa using h⟩
 ·cases h
theorem wA {t:TypeId} {l:List AV} (h:bW P t l=true) : ∃ i z,P.info? t=some i/\i.zero=some z/\YH z.cells.toList l=true:=by
 unfold bW at h;split at h
 ·rename_i i hi
  split at h
  ·rename_i z hz;exact ⟨i,z,hi,hz,h⟩
  ·cases h
 ·cases h
theorem kG {t:TypeId} {b:Bool} (h:(ZF P t == some b)=true) : ∀ w,(isAgg t).run P w = .ok b w:=by
 intro w;have h':ZF P t=some b:=by simpa using h
 unfold ZF at h';unfold isAgg;cases hu:P.underlying t with
 | none=>rw[hu]at h';cases h'
 | some d =>
  rw[hu]at h';rw[Sem.run_bind,run_underlying hu];cases d<;>simp_all<;>rfl
theorem wB {e:TypeId} {n:Nat} (h:(match P.info? e with|some i=>(match i.zero with|some z=>z.cells.size == n|none=>false)|none=>false)=true) : ∃ i z,P.info? e=some i/\i.zero=some z/\z.cells.size=n:=by
 split at h
 ·rename_i i hi
  split at h
  ·rename_i z hz;exact ⟨i,z,hi,hz,by simpa using h⟩
  ·cases h
 ·cases h
theorem Ak1 {s c6:Nat} {fu:List AQ} (h:BD P num op (.g8 s c6 fu)=true) : ∃ t n ps e i,op = .buildSlice t n ps/\P.underlying t=some (.slice e)/\P.info? e=some i/\i.size=c6/\c6≠0/\n=fu.length/\n*c6<=16777216/\aS 0 ps.toList fu=true/\(n=0 \/ ∃ z,i.zero=some z/\z.cells.size=c6):=by
 cases op with
 | buildSlice t n ps =>
  simp only[BD,Bool.and_eq_true,decide_eq_true_eq,bne_iff_ne,beq_iff_eq,Bool.or_eq_true]at h;obtain ⟨⟨⟨⟨⟨h1,h2⟩,h3⟩,h4⟩,h5⟩,h6⟩:=h;obtain ⟨e,he,h1⟩:=Y3 h1;obtain ⟨i,hi,hs⟩:=QT h1;refine ⟨t,n,ps,e,i,rfl,he,hi,hs,h2,h3,h4,h5,h6.imp id λ h6 => ?_⟩;obtain ⟨e',kp,h6⟩:=Y3 h6;rw[he]at kp;obtain rfl:e=e':=by simpa using kp
  obtain ⟨i',z,s9,hz,uw⟩:=wB h6;rw[hi]at s9;obtain rfl:i=i':=by simpa using s9
  exact ⟨z,hz,uw⟩
 | _=>exact Bool.noConfusion h
theorem Tf {x':AQ} {off:Nat} (h:BD P num op (.a7 x' off)=true) : ∃ t x f fs fd i,op = .fieldAddr t x f/\BU x x'=true/\P.underlying t=some (.struct fs)/\fs[f]? = some fd/\fd.offset=off/\P.info? fd.type=some i/\i.size≠0:=by
 cases op with
 | fieldAddr t x f =>
  simp only[BD,Bool.and_eq_true]at h;obtain ⟨h1,h2⟩:=h;split at h2
  ·rename_i fs js
   split at h2
   ·rename_i fd Jo
    simp only[Bool.and_eq_true,beq_iff_eq]at h2;obtain ⟨h3,h4⟩:=h2;split at h4
    ·rename_i i hi
     exact ⟨t,x,f,fs,fd,i,rfl,h1,js,Jo,h3,hi,by simpa using h4⟩
    ·cases h4
   ·cases h2
  ·cases h2
 | _=>exact Bool.noConfusion h
theorem Ala {x':AQ} {off n:Nat} {agg:Bool} (h:BD P num op (.qa x' off n agg)=true) : ∃ t x f fs fd i,op = .field t x f/\BU x x'=true/\P.underlying t=some (.struct fs)/\fs[f]? = some fd/\fd.offset=off/\P.info? fd.type=some i/\i.size=n/\(∀ w,(isAgg fd.type).run P w = .ok agg w)/\n≠0:=by
 cases op with
 | field t x f =>
  simp only[BD,Bool.and_eq_true]at h;obtain ⟨⟨h1,h2⟩,h3⟩:=h;unfold Uf at h2;unfold Ug at h3;split at h2
  ·rename_i fs js
   split at h2
   ·rename_i fd Jo
    simp only[Bool.and_eq_true,beq_iff_eq,bne_iff_ne]at h2;obtain ⟨⟨h4,h5⟩,h6⟩:=h2;obtain ⟨i,hi,hs⟩:=QT h5;rw[js]at h3;simp only[Jo]at h3;exact ⟨t,x,f,fs,fd,i,rfl,h1,js,Jo,h4,hi,hs,kG h3,h6⟩
   ·cases h2
  ·cases h2
 | _=>exact Bool.noConfusion h
theorem mH {arr:Option Nat} {c6:Nat} {x' i':AQ} (h:BD P num op (.a5 arr c6 x' i')=true) : ∃ t x i e inf,op = .indexAddr t x i/\BU x x'=true/\BU i i'=true/\P.info? e=some inf/\inf.size=c6 /\
  ((∃ len,arr=some len/\P.underlying t=some (.array len e)/\1<len)\/(arr=none/\P.underlying t=some (.slice e)/\c6≠0)):=by
 cases op with
 | indexAddr t x i =>
  simp only[BD,Bool.and_eq_true]at h;obtain ⟨⟨h1,h2⟩,h3⟩:=h;split at h3
  ·rename_i len e nr hu
   simp only[Bool.and_eq_true,beq_iff_eq,decide_eq_true_eq]at h3;obtain ⟨⟨h4,h5⟩,h6⟩:=h3;obtain ⟨inf,hi,hs⟩:=QT h5;exact ⟨t,x,i,e,inf,rfl,h1,h2,hi,hs,.inl ⟨len,by rw[h4],hu,h6⟩⟩
  ·rename_i e hu
   simp only[Bool.and_eq_true,bne_iff_ne]at h3;obtain ⟨inf,hi,hs⟩:=QT h3.1;exact ⟨t,x,i,e,inf,rfl,h1,h2,hi,hs,.inr ⟨rfl,hu,h3.2⟩⟩
  ·cases h3
 | _=>exact Bool.noConfusion h
theorem Alb {len c6:Nat} {agg:Bool} {x' i':AQ} (h:BD P num op (.idx len c6 agg x' i')=true) : ∃ t x i e inf,op = .index t x i/\BU x x'=true/\BU i i'=true/\P.underlying t=some (.array len e)/\P.info? e=some inf/\inf.size=c6/\(∀ w,(isAgg e).run P w = .ok agg w):=by
 cases op with
 | index t x i =>
  simp only[BD,Bool.and_eq_true]at h;obtain ⟨⟨h1,h2⟩,h3⟩:=h;split at h3
  ·rename_i nr e hu
   simp only[Bool.and_eq_true,beq_iff_eq]at h3;obtain ⟨⟨h4,h5⟩,h6⟩:=h3;obtain ⟨inf,hi,hs⟩:=QT h5;exact ⟨t,x,i,e,inf,rfl,h1,h2,by rw[h4];exact hu,hi,hs,kG (by simpa using h6)⟩
  ·cases h3
 | _=>exact Bool.noConfusion h
theorem Tg {agg:Bool} {n:Nat} {x':AQ} (h:BD P num op (.ld agg n x')=true) : ∃ t x,op = .load t x/\BU x x'=true/\(∀ w,(isAgg t).run P w = .ok agg w)/\(if agg then ∃ i,P.info? t=some i/\i.size=n else n=1):=by
 cases op with
 | load t x =>
  simp only[BD,Bool.and_eq_true]at h;obtain ⟨⟨h1,h2⟩,h3⟩:=h;refine ⟨t,x,rfl,h1,kG h2,?_⟩;cases agg
  ·simpa using h3
  ·exact QT (by simpa using h3)
 | _=>exact Bool.noConfusion h
theorem Alk {n:Nat} {x' v':AQ} (h:BD P num op (.st n x' v')=true) : ∃ t x v i,op = .store t x v/\BU x x'=true/\BU v v'=true/\P.info? t=some i/\i.size=n:=by
 cases op with
 | store t x v =>
  simp only[BD,Bool.and_eq_true]at h;obtain ⟨⟨h1,h2⟩,h3⟩:=h;obtain ⟨i,hi,hs⟩:=QT h3;exact ⟨t,x,v,i,rfl,h1,h2,hi,hs⟩
 | _=>exact Bool.noConfusion h
theorem Ale {s c6 bytes:Nat} {zero:List AV} {l' c':AQ} (h:BD P num op (.mk s c6 bytes zero l' c')=true) : ∃ t l c e i z,op = .makeSlice t l c/\BU l l'=true/\BU c c'=true/\P.underlying t=some (.slice e)/\P.info? e=some i/\i.size=c6/\i.bytes=bytes/\i.zero=some z/\YH z.cells.toList zero=true/\c6≠0:=by
 cases op with
 | makeSlice t l c =>
  simp only[BD,Bool.and_eq_true,bne_iff_ne]at h;obtain ⟨⟨⟨h1,h2⟩,h3⟩,h4⟩:=h;obtain ⟨e,he,h3⟩:=Y3 h3;simp only[Bool.and_eq_true]at h3;obtain ⟨⟨h5,h6⟩,h7⟩:=h3;obtain ⟨i,hi,hs⟩:=QT h5;obtain ⟨i2,uj,rm⟩:=pG h6;obtain ⟨i3,z,Ad,hz,jd⟩:=wA h7;rw[hi]at uj Ad;obtain rfl:i=i2:=by simpa using uj
  obtain rfl:i=i3:=by simpa using Ad
  exact ⟨t,l,c,e,i,z,rfl,h1,h2,he,hi,hs,rm,hz,jd,h4⟩
 | _=>exact Bool.noConfusion h
theorem sN {c6:Nat} {x':AQ} {qp s9:Option AQ} (h:BD P num op (.jq c6 x' qp s9)=true) : ∃ t x lo hi e i,op = .slice t x lo hi none/\BU x x'=true/\XP lo qp=true/\XP hi s9=true/\P.underlying t=some (.slice e)/\P.info? e=some i/\i.size=c6/\c6≠0:=by
 cases op with
 | slice t x lo hi mx =>
  cases mx with
  | some _=>exact Bool.noConfusion h
  | none =>
   simp only[BD,Bool.and_eq_true,bne_iff_ne]at h;obtain ⟨⟨⟨⟨h1,h2⟩,h3⟩,h4⟩,h5⟩:=h;obtain ⟨e,he,h4⟩:=Y3 h4;obtain ⟨i,s9,hs⟩:=QT h4;exact ⟨t,x,lo,hi,e,i,rfl,h1,h2,h3,he,s9,hs,h5⟩
 | _=>exact Bool.noConfusion h
theorem Ak9 {x':AQ} {i:Nat} (h:BD P num op (.ext x' i)=true) : ∃ x,op = .extract x i/\BU x x'=true:=by
 cases op with
 | extract x j =>
  simp only[BD,Bool.and_eq_true,beq_iff_eq]at h;exact ⟨x,by rw[h.2],h.1⟩
 | _=>exact Bool.noConfusion h
theorem nX {α:Type} {xs:Array α} {x y:α} (h:xs.toList=[x,y]):xs = #[x,y]:=by cases xs;simp_all
theorem nW {α:Type} {xs:Array α} {x:α} (h:xs.toList=[x]):xs = #[x]:=by cases xs;simp_all
theorem Ald {x':AQ} (h:BD P num op (.len x')=true) : ∃ x t e,op = .call ⟨.builtin .len,#[x],#[t]⟩/\BU x x'=true/\P.underlying t=some (.slice e):=by
 cases op with
 | call c =>
  obtain ⟨cl,xs,ts⟩:=c;cases cl with
  | builtin b =>
   cases b<;>first|exact Bool.noConfusion h|skip
   simp only[BD]at h;split at h
   ·rename_i x t hx ht
    simp only[Bool.and_eq_true]at h;obtain ⟨e,he,_⟩:=Y3 h.2;exact ⟨x,t,e,by rw[nW hx,nW ht],h.1,he⟩
   ·cases h
  | value f=>cases f<;>exact Bool.noConfusion h
  | invoke=>exact Bool.noConfusion h
 | _=>exact Bool.noConfusion h
theorem Th {mx:Bool} {o9:List AQ} (h:BD P num op (.mm mx o9)=true) : ∃ xs ts,op = .call ⟨.builtin (if mx then .max else .min),xs,ts⟩/\EH xs.toList o9=true:=by
 cases op with
 | call c =>
  obtain ⟨cl,xs,ts⟩:=c;cases cl with
  | builtin b =>
   cases b<;>first|exact Bool.noConfusion h|skip
   all_goals
    simp only[BD,Bool.and_eq_true]at h;refine ⟨xs,ts,?_,h.2⟩;cases mx<;>simp_all
  | value f=>cases f<;>exact Bool.noConfusion h
  | invoke=>exact Bool.noConfusion h
 | _=>exact Bool.noConfusion h
theorem Te {s c6 bytes:Nat} {x' y':AQ} (h:BD P num op (.app s c6 bytes x' y')=true) : ∃ x y t e i z tx ex,op = .call ⟨.builtin .append,#[x,y],#[t,tx]⟩/\BU x x'=true/\BU y y'=true/\P.underlying t=some (.slice e)/\P.info? e=some i/\i.size=c6/\i.bytes=bytes/\i.zero=some z/\z.cells.size=c6/\c6≠0/\P.underlying tx=some (.slice ex):=by
 cases op with
 | call c =>
  obtain ⟨cl,xs,ts⟩:=c;cases cl with
  | builtin b =>
   cases b<;>first|exact Bool.noConfusion h|skip
   simp only[BD]at h;split at h
   ·rename_i x y t u hx ht
    simp only[Bool.and_eq_true,beq_iff_eq,bne_iff_ne]at h;obtain ⟨⟨⟨⟨h1,h2⟩,h3⟩,h4⟩,h5⟩:=h;obtain ⟨e,he,h3⟩:=Y3 h3;simp only[Bool.and_eq_true]at h3;obtain ⟨⟨h6,h7⟩,h8⟩:=h3;obtain ⟨i,hi,hs⟩:=QT h6;obtain ⟨i2,uj,rm⟩:=pG h7;obtain ⟨i3,z,Ad,hz,jd⟩:=wB h8;rw[hi]at uj Ad;obtain rfl:i=i2:=by simpa using uj
    obtain rfl:i=i3:=by simpa using Ad
    obtain ⟨ex,hex,_⟩:=Y3 h5;exact ⟨x,y,t,e,i,z,u,ex,by rw[nX hx,nX ht],h1,h2,he,hi,hs,rm,hz,jd,h4,hex⟩
   ·cases h
  | value f=>cases f<;>exact Bool.noConfusion h
  | invoke=>exact Bool.noConfusion h
 | _=>exact Bool.noConfusion h
theorem sL {f:Nat} {o9:List AQ} (h:BD P num op (.call f o9)=true) : ∃ xs ts,op = .call ⟨.value (.func (num f)),xs,ts⟩/\EH xs.toList o9=true:=by
 cases op with
 | call c =>
  obtain ⟨cl,xs,ts⟩:=c;cases cl with
  | builtin b=>cases b<;>exact Bool.noConfusion h
  | value g =>
   cases g with
   | func g =>
    simp only[BD,Bool.and_eq_true,beq_iff_eq]at h;exact ⟨xs,ts,by rw[h.1],h.2⟩
   | _=>exact Bool.noConfusion h
  | invoke=>exact Bool.noConfusion h
 | _=>exact Bool.noConfusion h
theorem Ak3 {f:Nat} {o9:List AQ} (h:BD P num op (.j7 f o9)=true) : ∃ xs ts,op = .call ⟨.value (.func (num f)),xs,ts⟩/\EH xs.toList o9=true:=by
 cases op with
 | call c =>
  obtain ⟨cl,xs,ts⟩:=c;cases cl with
  | builtin b=>cases b<;>exact Bool.noConfusion h
  | value g =>
   cases g with
   | func g =>
    simp only[BD,Bool.and_eq_true,beq_iff_eq]at h;exact ⟨xs,ts,by rw[h.1],h.2⟩
   | _=>exact Bool.noConfusion h
  | invoke=>exact Bool.noConfusion h
 | _=>exact Bool.noConfusion h
theorem Ak4 {f:Nat} {o9:List AQ} (h:BD P num op (.n6 f o9)=true):BD P num op (.call f o9)=true:=by
 cases op<;>exact h
theorem AkV {ne:Bool} {n:Nat} {x' y':AQ} (h:BD P num op (.tv ne n x' y')=true) : ∃ t x y u,op = .binOp (if ne then .neq else .eql) t x y u/\rP P t n=true/\BU x x'=true/\BU y y'=true:=by
 cases op with
 | binOp f' t x y u =>
  simp only[BD,Bool.and_eq_true]at h;obtain ⟨⟨⟨h1,h2⟩,h3⟩,h4⟩:=h;refine ⟨t,x,y,u,?_,h2,h3,h4⟩;cases ne<;>simp_all
 | _=>exact Bool.noConfusion h
theorem Ak7 {x':AQ} (h:BD P num op (.gf x')=true) : ∃ x t e,op = .call ⟨.builtin .cap,#[x],#[t]⟩/\BU x x'=true/\P.underlying t=some (.slice e):=by
 cases op with
 | call c =>
  obtain ⟨cl,xs,ts⟩:=c;cases cl with
  | builtin b =>
   cases b<;>first|exact Bool.noConfusion h|skip
   simp only[BD]at h;split at h
   ·rename_i x t hx ht
    simp only[Bool.and_eq_true]at h;obtain ⟨e,he,_⟩:=Y3 h.2;exact ⟨x,t,e,by rw[nW hx,nW ht],h.1,he⟩
   ·cases h
  | value f=>cases f<;>exact Bool.noConfusion h
  | invoke=>exact Bool.noConfusion h
 | _=>exact Bool.noConfusion h
theorem AkX {s c6 bytes:Nat} {x' y':AQ} (h:BD P num op (.pz s c6 bytes x' y')=true) : ∃ x y t e i z tx k,op = .call ⟨.builtin .append,#[x,y],#[t,tx]⟩/\BU x x'=true/\BU y y'=true/\P.underlying t=some (.slice e)/\P.info? e=some i/\i.size=c6/\i.bytes=bytes/\i.zero=some z/\z.cells.size=c6/\c6≠0/\P.underlying tx=some (.int k):=by
 cases op with
 | call c =>
  obtain ⟨cl,xs,ts⟩:=c;cases cl with
  | builtin b =>
   cases b<;>first|exact Bool.noConfusion h|skip
   simp only[BD]at h;split at h
   ·rename_i x y t u hx ht
    simp only[Bool.and_eq_true,bne_iff_ne]at h;obtain ⟨⟨⟨⟨h1,h2⟩,h3⟩,h4⟩,h5⟩:=h;obtain ⟨e,he,h3⟩:=Y3 h3;simp only[Bool.and_eq_true]at h3;obtain ⟨⟨h6,h7⟩,h8⟩:=h3;obtain ⟨i,hi,hs⟩:=QT h6;obtain ⟨i2,uj,rm⟩:=pG h7;obtain ⟨i3,z,Ad,hz,jd⟩:=wB h8;rw[hi]at uj Ad;obtain rfl:i=i2:=by simpa using uj
    obtain rfl:i=i3:=by simpa using Ad
    split at h5
    ·rename_i k hk
     exact ⟨x,y,t,e,i,z,u,k,by rw[nX hx,nX ht],h1,h2,he,hi,hs,rm,hz,jd,h4,hk⟩
    ·cases h5
   ·cases h
  | value f=>cases f<;>exact Bool.noConfusion h
  | invoke=>exact Bool.noConfusion h
 | _=>exact Bool.noConfusion h
theorem Ak6 {s f:Nat} {o9:List AQ} (h:BD P num op (.dv s f o9)=true):BD P num op (.j7 f o9)=true:=by
 cases op<;>exact h
theorem Ak5 {s f:Nat} {o9:List AQ} (h:BD P num op (.x9 s f o9)=true):BD P num op (.call f o9)=true:=by
 cases op<;>exact h
theorem All {s n:Nat} {x' v':AQ} (h:BD P num op (.px s n x' v')=true):BD P num op (.st n x' v')=true:=by
 cases op<;>exact h
theorem Alc {ne:Bool} {x':AQ} (h:BD P num op (.vb ne x')=true) : ∃ t x u e,op = .binOp (if ne then .neq else .eql) t x (.const (.slice none 0 0)) u/\P.underlying t=some (.slice e)/\BU x x'=true:=by
 cases op with
 | binOp f' t x y u =>
  simp only[BD]at h;split at h
  ·rename_i heq
   simp only[Op.binOp.injEq]at heq;obtain ⟨rfl,rfl,rfl,rfl,rfl⟩:=heq;simp only[Bool.and_eq_true]at h;obtain ⟨⟨h1,h2⟩,h3⟩:=h;unfold OG at h2;split at h2
   ·rename_i e he
    refine ⟨t,x,u,e,?_,he,h3⟩;cases ne
    ·simp only[Bool.false_eq_true,if_false,beq_iff_eq]at h1;rw[h1];rfl
    ·simp only[if_true,beq_iff_eq]at h1;rw[h1];rfl
   ·cases h2
  ·cases h
 | _=>exact Bool.noConfusion h
theorem Alj {tb:List Nat} {i':AQ} (h:BD P num op (.jg tb i')=true) : ∃ t s i,op = .index t (.const (.string s)) i/\P.underlying t=some .string/\s.data.toList.map (λ b=>b.toNat)=tb/\BU i i'=true:=by
 cases op with
 | index t x i =>
  simp only[BD]at h;split at h
  ·rename_i heq
   simp only[Op.index.injEq]at heq;obtain ⟨rfl,rfl,rfl⟩:=heq;simp only[Bool.and_eq_true,beq_iff_eq]at h;obtain ⟨⟨h1,h2⟩,h3⟩:=h;exact ⟨_,_,_,rfl,by split at h1<;>simp_all,h2,h3⟩
  ·cases h
 | _=>exact Bool.noConfusion h
theorem Alg {p:Bool} {f:Nat} {o9:List AQ} (h:BD P num op (.si p f o9)=true) : ∃ first xs,op = .makeFunc (.func (num f)) first xs/\first = #[]/\EH xs.toList o9=true:=by
 cases op with
 | makeFunc g first xs =>
  cases g with
  | func g =>
   simp only[BD,Bool.and_eq_true,beq_iff_eq]at h;obtain ⟨⟨rfl,h2⟩,h3⟩:=h;refine ⟨first,xs,rfl,?_,h3⟩;obtain ⟨l⟩:=first
   simp at h2;rw[h2]
  | _=>exact Bool.noConfusion h
 | _=>exact Bool.noConfusion h
theorem Alf {f:Nat} {x':AQ} (h:BD P num op (.tu f x')=true) : ∃ x,op = .makeFunc (.func (num f)) #[x] #[]/\BU x x'=true:=by
 cases op with
 | makeFunc g first xs =>
  cases g with
  | func g =>
   obtain ⟨l⟩:=first
   obtain ⟨l2⟩:=xs;simp only[BD,Bool.and_eq_true,beq_iff_eq]at h;obtain ⟨⟨rfl,h2⟩,h3⟩:=h;match l,l2,h2,h3 with
   | [x],[],h2,_=>exact ⟨x,rfl,h2⟩
  | _=>exact Bool.noConfusion h
 | _=>exact Bool.noConfusion h
theorem sM {x':AQ} {o9:List AQ} (h:BD P num op (.o7 x' o9)=true) : ∃ x xs ts,op = .call ⟨.value x,xs,ts⟩/\BU x x'=true/\EH xs.toList o9=true:=by
 cases op with
 | call c =>
  obtain ⟨cl,xs,ts⟩:=c;cases cl with
  | builtin b=>cases b<;>exact Bool.noConfusion h
  | value g =>
   simp only[BD,Bool.and_eq_true]at h;exact ⟨g,xs,ts,rfl,h.1,h.2⟩
  | invoke=>exact Bool.noConfusion h
 | _=>exact Bool.noConfusion h
end
end Go.e8

namespace Go.e8
open Go.RowKit
def CG.ax:CG->AH->AH
 | .val _,o=>o
 | .new s b _,o=>o.put s ((o s).new b)
 | .As s b _,o=>o.put s ((o s).new b)
 | .fk _ o',_=>o'
 | .u7 s x,o=>o.put s x
 | .zi s x _,o=>o.put s x
def CG.valOf:CG->AH->AV
 | .val v,_=>v
 | .new s _ v,o=>v (o.k6 s)
 | .As s _ v,o=>v (o.k6 s)
 | .fk v _,_=>v
 | .u7 _ _,_ => .j9 []
 | .zi _ _ v,_=>v
section
variable {B:Nat} {S:Nat->Prop} {w0:World} {m:M}
theorem HB {k:IntKind} {n:Int} {v:Value} (h:CV B S m (.int k n) v):v = .int k n:=by
 cases h with
 | ca h=>cases h with
  | one h=>cases h with
   | rd h=>cases h;rfl
theorem aP {b:Bool} {v:Value} (h:CV B S m (.bool b) v):v = .bool b:=by
 cases h with
 | ca h=>cases h with
  | one h=>cases h with
   | rd h=>cases h;rfl
theorem fX {cs:List AV} {v:Value} (h:CV B S m (.agg cs) v) : ∃ vs:List Value,v = .agg vs.toArray/\CL B S m cs vs:=by
 cases h with
 | ca h=>cases h with
  | one h=>cases h with
   | rd h=>cases h
  | agg _ vs h=>exact ⟨vs,rfl,h⟩
theorem pZ {cs:List AV} {v:Value} (h:CV B S m (.j9 cs) v) : ∃ vs:List Value,v = .tuple vs.toArray/\cs.length=vs.length /\ ∀ (j:Nat) (c:AV) (u:Value),cs[j]? = some c->vs[j]? = some u->CA B S m c u:=by
 cases h with
 | ca h=>cases h with
  | one h=>cases h with
   | rd h=>cases h
 | j9 _ vs hl h=>exact ⟨vs,rfl,hl,h⟩
theorem YS (k:IntKind) (n:Int):CV B S m (.int k n) (.int k n):= .ca (.one (.rd (.int k n)))
theorem iB (b:Bool):CV B S m (.bool b) (.bool b):= .ca (.one (.rd (.bool b)))
theorem Sw:CV B S m (.j9 []) undef := .j9 [] [] rfl (λ j c v h=>by simp at h)
theorem kX {a:AV} {cs:List AV} {v:Value} (h:CV B S m a v) (hc:cellsOf a=some cs):CL B S m cs v.cells.toList:=by
 cases h with
 | any v=>simp [cellsOf]at hc
 | j9=>simp [cellsOf]at hc
 | ca h=>cases h with
  | agg fx vs h =>
   obtain rfl:fx=cs:=by simpa [cellsOf] using hc
   simpa [Value.cells] using h
  | fn=>simp [cellsOf]at hc
  | ve=>simp [cellsOf]at hc
  | one h =>
   have h1:v.cells.toList=[v]:=by
    cases h with
    | rd h=>cases h<;>rfl
    | _=>rfl
   have h2:cs=[a]:=by
    cases h with
    | rd h=>cases h<;>simp [cellsOf]at hc<;>exact hc.symm
    | _=>simp [cellsOf]at hc;exact hc.symm
   rw[h1,h2];refine ⟨rfl,λ j c u hj hu => ?_⟩;cases j with
   | zero=>simp at hj hu;subst hj hu;exact h
   | succ j=>simp at hj
theorem Ago {cs:List AV} {vs:List Value} (h:CL B S m cs vs) : ∀ v∈vs,v.oneCell'=true:=by
 intro v hv;obtain ⟨j,hj,rfl⟩:=List.getElem_of_mem hv;have Et:j<cs.length:=by rw[h.1];exact hj
 exact (h.2 j cs[j] vs[j] (zE Et) (zE hj)).one
theorem yF {cs:List AV} {vs:List Value} (h:CL B S m cs vs) (off n:Nat):CL B S m ((cs.drop off).take n) ((vs.drop off).take n):=by
 refine ⟨by simp [h.1],λ j c v hj hv => ?_⟩;rw[List.getElem?_take]at hj hv;split at hj
 ·rename_i m7
  rw[if_pos m7]at hv;rw[List.getElem?_drop]at hj hv;exact h.2 _ c v hj hv
 ·cases hj
theorem Qo {v:Value} {a:AV} (h:lK v a=true):CC B S m a v:=by
 unfold lK at h;split at h
 ·simp only[Bool.and_eq_true,beq_iff_eq]at h
  obtain ⟨rfl,rfl⟩:=h;exact .rd (.int _ _)
 ·obtain rfl:_=_:=by simpa using h
  exact .rd (.bool _)
 ·exact .nil
 ·rename_i s s'
  obtain rfl:s=s':=by
   have h':s.data.toList=s'.data.toList:=by simpa using h
   obtain ⟨⟨l⟩⟩:=s;obtain ⟨⟨l'⟩⟩:=s';simp only at h';rw[h']
  exact .rd (.str _)
 ·cases h
theorem cX : ∀ {vs:List Value} {cs:List AV},YH vs cs=true->CL B S m cs vs
 | [],[],_=>⟨rfl,λ j c v h=>by simp at h⟩
 | v::r,c::l,h=>by
  simp only[YH,Bool.and_eq_true]at h;have ih:=cX (vs:=r) (cs:=l) h.2;refine ⟨by simp [ih.1],λ j c' v' hj hv => ?_⟩;cases j with
  | zero=>simp at hj hv;subst hj hv;exact Qo h.1
  | succ j=>exact ih.2 j c' v' (by simpa using hj) (by simpa using hv)
 | [],_::_,h=>by simp [YH]at h
 | _::_,[],h=>by simp [YH]at h
theorem Aiy {v:Value} {a:AV} (h:qT v a=true):CV B S m a v:=by
 unfold qT at h;split at h
 ·rename_i cs l
  have:=cX (B:=B) (S:=S) (m:=m) h
  exact .ca (by simpa using CA.agg l cs.toList this)
 ·exact .ca (.one (Qo h))
def CW (B:Nat) (S:Nat->Prop) (m:M) (ρ:AQ->AV) (e:Operand->Value):Prop := ∀ x y,BU x y=true->CV B S m (ρ y) (e x)
theorem AmV {T:Nat->AV} {a:Act} {ρ:AQ->AV} (hρt : ∀ n,ρ (.t n)=T n) (hρc : ∀ v,ρ (.c v)=v) (h : ∀ i,CV B S m (T i) (a.tmps.getD i undef)):CW B S m ρ a.eval:=by
 intro x y vq;unfold BU at vq;split at vq
 ·obtain rfl:_=_:=by simpa using vq
  rw[hρt];exact h _
 ·rw[hρc]
  exact Aiy vq
 ·obtain rfl:_=_:=by simpa using vq
  rw[hρc];exact .ca (.fn _ _ _ [] [] (λ_=>rfl) ⟨rfl,λ j c v h=>by simp at h⟩)
 ·cases vq
variable {P:Program} {num:Nat->Nat} {o:Oper} {a:Act} {ρ:AQ->AV} {K:Act->World->Prop} {Q:Exit->Act->World->Prop}
theorem X5 {w w':World} {u:Value} (h:(execOp a.eval o).run P w = .ok (.value u) w') (hk:K (a.put o.dst u) w'):o.wp P a w K Q:=by
 unfold Oper.wp;rw[h];exact hk
theorem AnY {w w':World} (h:(execOp a.eval o).run P w = .ok .skip w') (hk:K (a.put o.dst undef) w'):o.wp P a w K Q:=by
 unfold Oper.wp;rw[h];exact hk
def CZ (B:Nat) (S:Nat->Prop) (w0:World) (P:Program) (o:Oper) (a:Act) (m:M) (E:CG):Prop :=
 ∀ (K:Act->World->Prop) (Q:Exit->Act->World->Prop),(∀ u m',m'.own=E.ax m.own->BP B S w0 m'->DM B S m m'->CV B S m' (E.valOf m.own) u->K (a.put o.dst u) m'.w)->o.wp P a m.w K Q
theorem EF (hm:BP B S w0 m) {v:AV} {u:Value} (h:(execOp a.eval o).run P m.w = .ok (.value u) m.w) (hc:CV B S m v u):CZ B S w0 P o a m (.val v) :=
 λ K Q hK=>X5 h (hK u m rfl hm (DM.refl m) hc)
theorem AhN (hm:BP B S w0 m) (hs:CW B S m ρ a.eval) {y:AQ} (h:BD P num o.op (.b9 y)=true):CZ B S w0 P o a m (.val (ρ y)):=by
 obtain ⟨x,hx,he⟩:=Alh h;refine EF hm (u:=a.eval x) ?_ (hs x y he);rcases hx with hx|hx<;>simp [execOp,hx]
theorem AhT (hm:BP B S w0 m) {s z:Nat} (h:BD P num o.op (.ag s z)=true):CZ B S w0 P o a m (.As s ⟨z,[]⟩ (λ t => .row s t z 0 0)):=by
 obtain ⟨hx,hz⟩:=Aln h;intro K Q hK;obtain ⟨h1,h2⟩:=Zq hm s z;refine X5 (u := .slice none 0 0) (w':=m.w) ?_ (hK _ ⟨k7 m s none,m.own.put s ((m.own s).new ⟨z,[]⟩),m.w⟩ rfl h1 h2 ?_)
 ·rcases hx with hx|hx<;>simp [execOp,hx,Act.eval]
 ·refine .ca (.one (.row s (m.own.k6 s) z 0 0 none 0 ?_ (by omega) (Nat.le_refl _) (λ h=>by omega) λ b hb => ?_))
  ·show _<AH.k6 _ s
   rw[SZ];simp
  ·change AH.get _ s _=some b at hb
   rw[GD,if_pos ⟨rfl,rfl⟩]at hb;obtain rfl:(⟨z,[]⟩:ED)=b:=by simpa using hb
   exact ⟨rfl,.inl ⟨rfl,rfl⟩⟩
theorem Rt (hm:BP B S w0 m) (hs:CW B S m ρ a.eval) {c' a' b':AQ} (h:BD P num o.op (.pick c' a' b')=true) {t:Bool} (hc:ρ c' = .bool t) :
  CZ B S w0 P o a m (.val (if t then ρ a' else ρ b')):=by
 obtain ⟨c,x,y,m5,h1,h2,h3⟩:=Ali h;have af:=aP (hc ▸ hs c c' h1);refine EF hm (u:=if t then a.eval x else a.eval y) ?_ ?_
 ·cases t<;>simp [execOp,m5,af,asBool]
 ·cases t
  ·exact hs y b' h3
  ·exact hs x a' h2
theorem AmR (f:BinOp) (t:TypeId) (k k':IntKind) (x y:Int) (v:AV) (h:DI f k x k' y=some v) (w:World) : ∃ u,(binOp f t (.int k x) (.int k' y)).run P w = .ok u w/\((∃ n,v = .int k n/\u = .int k n) \/ ∃ b,v = .bool b/\u = .bool b):=by
 cases f<;>simp only[DI]at h;case shl =>
  split at h
  ·cases h
  ·rename_i hy;simp at h;subst h
   exact ⟨_,by simp [binOp,Op.shift,hy],.inl ⟨_,rfl,rfl⟩⟩
 case shr =>
  split at h
  ·cases h
  ·rename_i hy;simp at h;subst h
   exact ⟨_,by simp [binOp,Op.shift,hy],.inl ⟨_,rfl,rfl⟩⟩
 case quo =>
  split at h
  ·rename_i hy;obtain ⟨rfl,hy⟩:=hy;simp at h;subst h
   exact ⟨_,by simp [binOp,Op.intDiv,hy],.inl ⟨_,rfl,rfl⟩⟩
  ·cases h
 case rem =>
  split at h
  ·rename_i hy;obtain ⟨rfl,hy⟩:=hy;simp at h;subst h
   exact ⟨_,by simp [binOp,Op.intDiv,hy],.inl ⟨_,rfl,rfl⟩⟩
  ·cases h
 case and|or|xor|andNot =>
  all_goals
   split at h
   ·rename_i hk;subst hk;obtain rfl:=Option.some.inj h
    exact ⟨_,by simp only[binOp,ne_eq,not_true_eq_false,if_false];rfl,.inl ⟨_,rfl,rfl⟩⟩
   ·cases h
 case add|sub|mul =>
  all_goals
   split at h
   ·rename_i hk;subst hk;obtain rfl:=Option.some.inj h
    exact ⟨_,by simp [binOp,Op.intArith],.inl ⟨_,rfl,rfl⟩⟩
   ·cases h
 all_goals
  split at h
  ·rename_i hk;subst hk;obtain rfl:=Option.some.inj h
   exact ⟨_,by simp [binOp,Op.intCmp],.inr ⟨_,rfl,rfl⟩⟩
  ·cases h
theorem AmL (f:BinOp) (t:TypeId) (x y:Operand) (k k':IntKind) (n n':Int) (w:World):(eqGuard f t x y (.int k n) (.int k' n')).run P w = .ok () w:=by
 unfold eqGuard;cases f<;>simp
theorem AmM (f:BinOp) (t:TypeId) (x y:Operand) (b b':Bool) (w:World):(eqGuard f t x y (.bool b) (.bool b')).run P w = .ok () w:=by
 unfold eqGuard;cases f<;>simp
theorem Ahl (hm:BP B S w0 m) (hs:CW B S m ρ a.eval) {f:BinOp} {x' y':AQ} (h:BD P num o.op (.bin f x' y')=true) {k k':IntKind} {n n':Int} {v:AV} (hx:ρ x' = .int k n) (hy:ρ y' = .int k' n') (hv:DI f k n k' n'=some v) :
  CZ B S w0 P o a m (.val v):=by
 obtain ⟨t,x,y,u,m5,h1,h2⟩:=AkZ h;have ex:=HB (hx ▸ hs x x' h1);have ey:=HB (hy ▸ hs y y' h2);obtain ⟨r,hr,db⟩:=AmR (P:=P) f t k k' n n' v hv m.w;refine EF hm (u:=r) ?_ ?_
 ·simp [execOp,m5,ex,ey,AmL,hr]
 ·rcases db with ⟨q,rfl,rfl⟩|⟨q,rfl,rfl⟩
  ·exact YS _ _
  ·exact iB _
theorem AmO (t:TypeId) (b b':Bool) (hu:P.underlying t=some .bool) (w:World):(Op.equal t (.bool b) (.bool b')).run P w = .ok (b == b') w:=by
 have h : ∀ d:Nat,(Op.equalIn (d+1) t (.bool b) (.bool b')).run P w = .ok (b == b') w:=λ d=>by
  unfold Op.equalIn;rw[Sem.run_bind,run_underlying hu];rfl
 exact h 9999
theorem Ahk (hm:BP B S w0 m) (hs:CW B S m ρ a.eval) {ne:Bool} {x' y':AQ} (h:BD P num o.op (.beq ne x' y')=true) {b b':Bool} (hx:ρ x' = .bool b) (hy:ρ y' = .bool b') :
  CZ B S w0 P o a m (.val (.bool (if ne then !(b == b') else b == b'))):=by
 obtain ⟨t,x,y,u,m5,hu,h1,h2⟩:=AkY h;have ex:=aP (hx ▸ hs x x' h1);have ey:=aP (hy ▸ hs y y' h2);refine EF hm (u := .bool (if ne then !(b == b') else b == b')) ?_ (iB _);cases ne<;>simp [execOp,m5,ex,ey,AmM,binOp,AmO t b b' hu]
theorem Uh : ∀ {fs:List Field} {k n:Nat},fieldsI P k fs n=true->k<=n
 | [],k,n,h=>by simp only[fieldsI,beq_iff_eq]at h;omega
 | f::fs,k,n,h=>by
  simp only[fieldsI,Bool.and_eq_true]at h;have:=Uh h.2
  omega
theorem Ve (d:Nat) (a b:List Int) (w:World) : ∀ {fs:List Field} {k:Nat},fieldsI P k fs a.length=true->b.length=a.length ->
  (Op.eqFields (d+1) (a.map (Value.int .i64)).toArray (b.map (Value.int .i64)).toArray fs).run P w = .ok (decide (a.drop k=b.drop k)) w
 | [],k,h,hl=>by
  simp only[fieldsI,beq_iff_eq]at h;rw[List.drop_of_length_le (by omega),List.drop_of_length_le (by omega)];simp [Op.eqFields]
 | f::fs,k,h,hl=>by
  simp only[fieldsI,Bool.and_eq_true,bne_iff_ne,beq_iff_eq]at h;obtain ⟨⟨⟨h1,h2⟩,h3⟩,h4⟩:=h;have hk:=Uh h4;have hp:P.plainKey f.type=true:=by unfold Program.plainKey;split at h3<;>simp_all
  obtain ⟨kd,hu⟩ : ∃ kd,P.underlying f.type=some (.int kd):=by split at h3<;>simp_all
  have e1:(a.map (Value.int .i64)).toArray[f.offset]? = some (.int .i64 (a[k]'(by omega))):=by rw[h2];simp [zE (show k<a.length by omega)]
  have e2:(b.map (Value.int .i64)).toArray[f.offset]? = some (.int .i64 (b[k]'(by omega))):=by rw[h2];simp [zE (show k<b.length by omega)]
  have ih:=Ve d a b w h4 hl;have hd:(a.drop k=b.drop k)↔(a[k]'(by omega)=b[k]'(by omega)/\a.drop (k+1)=b.drop (k+1)):=by
   rw[List.drop_eq_getElem_cons (show k<a.length by omega),List.drop_eq_getElem_cons (show k<b.length by omega),List.cons.injEq]
  simp only[Op.eqFields,ne_eq,h1,not_false_eq_true,if_true,Sem.run_bind,run_part_plain w hp e1,run_part_plain w hp e2,Result.andThen_ok,run_equalIn_int w d f.type .i64 kd _ _ hu,Sem.run_ite];by_cases kj:a[k]'(by omega)=b[k]'(by omega)
  ·simp [kj,ih,hd]
  ·simp [kj,hd]
theorem sJ : ∀ {cs:List AV} {a:List Int} {vs:List Value},IG cs=some a->CL B S m cs vs->vs=a.map (Value.int .i64)
 | [],a,vs,h,hc=>by
  simp only[IG,Option.some.injEq]at h;subst h;have:=hc.1
  exact List.eq_nil_of_length_eq_zero (by simpa using this.symm)
 | c::r,a,vs,h,hc=>by
  cases vs with
  | nil=>have:=hc.1;simp at this
  | cons v vs =>
   cases c with
   | int k n =>
    cases k<;>simp only[IG]at h<;>first|cases h|skip
    cases hr:IG r with
    | none=>rw[hr]at h;cases h
    | some b =>
     rw[hr]at h;simp only[Option.map_some,Option.some.injEq]at h;subst h;have h0:=HB (.ca (.one (hc.2 0 _ v rfl rfl)));have ih:=sJ (vs:=vs) hr ⟨by have:=hc.1;simpa using this,λ j c v h1 h2=>hc.2 (j+1) c v h1 h2⟩;rw[h0,ih];rfl
   | _=>simp only[IG]at h;cases h
theorem Ahf (hm:BP B S w0 m) (hs:CW B S m ρ a.eval) {ne:Bool} {n:Nat} {x' y':AQ} (h:BD P num o.op (.tv ne n x' y')=true) {cs ds:List AV} (hx:ρ x' = .agg cs) (hy:ρ y' = .agg ds) {p q:List Int} (hp:IG cs=some p) (hq:IG ds=some q) (hn:p.length=n/\q.length=n) :
  CZ B S w0 P o a m (.val (.bool (if ne then !(decide (p=q)) else decide (p=q)))):=by
 obtain ⟨t,x,y,u,m5,fo,h1,h2⟩:=AkV h;obtain ⟨vx,ex,cx⟩:=fX (hx ▸ hs x x' h1);obtain ⟨vy,ey,cy⟩:=fX (hy ▸ hs y y' h2);obtain rfl:=sJ hp cx;obtain rfl:=sJ hq cy;obtain ⟨rfl,yu⟩:=hn;simp only[rP,Bool.and_eq_true,Bool.not_eq_true']at fo;obtain ⟨⟨hf,l9⟩,hg⟩:=fo;obtain ⟨fs,hu,js⟩ : ∃ fs,P.underlying t=some (.struct fs)/\fieldsI P 0 fs.toList p.length=true:=by
  split at hf
  ·exact ⟨_,by assumption,hf⟩
  ·cases hf
 have hfo:P.fieldsOf t=fs:=by simp [Program.fieldsOf,hu]
 have hr:=run_equalIn_struct m.w 9999 t (p.map (Value.int .i64)).toArray (q.map (Value.int .i64)).toArray (by rw[hfo];exact hu) l9;rw[hfo,Ve 9998 p q m.w js yu,List.drop_zero,List.drop_zero]at hr;refine EF hm (u := .bool (if ne then !(decide (p=q)) else decide (p=q))) ?_ (iB _);cases ne
 ·simp [execOp,m5,ex,ey,run_eqGuard_agg m.w _ t x y _ _ hg,run_eql_struct,hr]
 ·simp [execOp,m5,ex,ey,run_eqGuard_agg m.w _ t x y _ _ hg,run_neq_struct,hr]
theorem AhS (hm:BP B S w0 m) (hs:CW B S m ρ a.eval) {f:UnOp} {x':AQ} (h:BD P num o.op (.un f x')=true) {v:AV} (hv:Z7 f (ρ x')=some v):CZ B S w0 P o a m (.val v):=by
 obtain ⟨t,x,m5,h1⟩:=Alm h;have hx:=hs x x' h1;unfold Z7 at hv;split at hv
 ·rename_i k n hk
  have ex:=HB (hk ▸ hx);split at hv
  ·obtain rfl:_=v:=by simpa using hv
   exact EF hm (by simp [execOp,m5,ex,Op.unary,Op.intArith]) (YS _ _)
  ·obtain rfl:_=v:=by simpa using hv
   exact EF hm (by simp only[execOp,m5,ex,Op.unary];rfl) (YS _ _)
  ·cases hv
 ·rename_i b hk
  have ex:=aP (hk ▸ hx);split at hv
  ·obtain rfl:_=v:=by simpa using hv
   exact EF hm (by simp [execOp,m5,ex,Op.unary]) (iB _)
  ·cases hv
 ·cases hv
theorem Ahw (hm:BP B S w0 m) (hs:CW B S m ρ a.eval) {k:IntKind} {x':AQ} (h:BD P num o.op (.conv k x')=true) {k':IntKind} {n:Int} (hx:ρ x' = .int k' n):CZ B S w0 P o a m (.val (.int k (k.wrap n))):=by
 obtain ⟨s,d,x,ds,m5,Df,hd,h1⟩:=Ak8 h;have ex:=HB (hx ▸ hs x x' h1);refine EF hm (u := .int k (k.wrap n)) ?_ (YS _ _);simp [execOp,m5,ex,convert,run_underlying Df,run_underlying hd,Conv.intToInt]
theorem AmP (t:TypeId) (a:Option Addr) (n c:Nat) {e:TypeId} (hu:P.underlying t=some (.slice e)) (w:World):(Op.equal t (.slice a n c) (.slice none 0 0)).run P w = .ok a.isNone w:=by
 have h : ∀ d:Nat,(Op.equalIn (d+1) t (.slice a n c) (.slice none 0 0)).run P w = .ok a.isNone w:=λ d=>by
  unfold Op.equalIn;rw[Sem.run_bind,run_underlying hu];cases a<;>rfl
 exact h 9999
theorem AmN (f:BinOp) (t:TypeId) (x y:Operand) (a b:Option Addr) (n c n' c':Nat) (w:World):(eqGuard f t x y (.slice a n c) (.slice b n' c')).run P w = .ok () w:=by
 unfold eqGuard;cases f<;>simp
theorem lG (hm:BP B S w0 m) (hs:CW B S m ρ a.eval) {ne:Bool} {x':AQ} (h:BD P num o.op (.vb ne x')=true) {b:Bool} (hx : ∀ v,CV B S m (ρ x') v -> ∃ ad n c,v = .slice ad n c/\ad.isNone=b) :
  CZ B S w0 P o a m (.val (.bool (xor b ne))):=by
 obtain ⟨t,x,u,e,m5,hu,h1⟩:=Alc h;obtain ⟨ad,n,c,ex,hb⟩:=hx _ (hs x x' h1);refine EF hm (u := .bool (xor b ne)) ?_ (iB _);have e0:a.eval (.const (.slice none 0 0)) = .slice none 0 0:=rfl;cases ne<;>cases b<;>simp [execOp,m5,ex,e0,AmN,binOp,AmP t ad n c hu,hb]
theorem ZH {v:Value} (h:CV B S m .nil v):v = .slice none 0 0:=by
 cases h with
 | ca h=>cases h with
  | one h=>cases h with
   | rd h=>cases h
   | nil=>rfl
theorem zI {b:Bool} {v:Value} (h:CV B S m (.ep (.bool b)) v) : ∃ ad c,v = .slice ad 0 c/\ad.isNone=b:=by
 cases h with
 | ca h=>cases h with
  | one h=>cases h with
   | rd h=>cases h with
    | emp b a cap h=>exact ⟨a,cap,rfl,h⟩
theorem AgU {l:Bool} {e:List AV} {es:List (List AV)} {v:Value} (h:CV B S m (.sl l (e::es)) v) : ∃ ad n c,v = .slice ad n c/\ad.isNone=false:=by
 cases h with
 | ca h=>cases h with
  | one h=>cases h with
   | rd h=>cases h with
    | sl=>exact ⟨_,_,_,rfl,rfl⟩
theorem AgT {s t z off n:Nat} {v:Value} (h:CV B S m (.row s t z off (n+1)) v) : ∃ ad n c,v = .slice ad n c/\ad.isNone=false:=by
 cases h with
 | ca h=>cases h with
  | one h=>cases h with
   | rd h=>cases h
   | row _ _ _ _ _ a cap _ _ _ ha=>exact ⟨_,_,_,rfl,by have:=ha (by omega);cases a<;>simp_all⟩
theorem AhO (hm:BP B S w0 m) (hs:CW B S m ρ a.eval) {tb:List Nat} {x':AQ} (h:BD P num o.op (.jg tb x')=true) {k:IntKind} {n:Int} {v:Nat} (hx:ρ x' = .int k n) (h0:0<=n) (hv:tb[n.toNat]? = some v) :
  CZ B S w0 P o a m (.val (.int .u8 v)):=by
 obtain ⟨t,s,i,m5,hu,yx,h1⟩:=Alj h;have ex:=HB (hx ▸ hs i x' h1);have hb : ∃ b:UInt8,s[n.toNat]? = some b/\b.toNat=v:=by
  rw[<-yx,List.getElem?_map]at hv;cases hg:s.data.toList[n.toNat]? with
  | none=>simp [hg]at hv
  | some b =>
   simp only[hg,Option.map_some,Option.some.injEq]at hv;refine ⟨b,?_,hv⟩;have m7:n.toNat<s.size:=by
    have:=(zS hg).1
    simpa using this
   rw[getElem?_pos s n.toNat m7];congr 1;have:=(zS hg).2
   rw[<-this];rfl
 obtain ⟨b,rh,x8⟩:=hb;refine EF hm (u := .int .u8 v) ?_ (YS _ _);have e0:a.eval (.const (.string s)) = .string s:=rfl;simp [execOp,m5,ex,e0,Instr.index,asIntOf,run_underlying hu,h0,rh,x8]
theorem Amb {x c:AV} {v:Value} (h:CV B S m x v) (hc:GZ x=some c):CC B S m c v:=by
 cases h with
 | any=>simp [GZ]at hc
 | j9=>simp [GZ]at hc
 | ca h=>cases h with
  | agg=>simp [GZ]at hc
  | fn=>simp [GZ]at hc
  | ve=>simp [GZ]at hc
  | one h =>
   have:c=x:=by
    cases h with
    | rd h=>cases h<;>simp [GZ]at hc<;>exact hc.symm
    | _=>simp [GZ]at hc;exact hc.symm
   subst this;exact h
theorem Qn (hs:CW B S m ρ a.eval) : ∀ {xs:List Operand} {o9:List AQ} {cs:List AV},EH xs o9=true->o9.mapM (λ x=>GZ (ρ x))=some cs->CL B S m cs (xs.map a.eval)
 | [],[],cs,_,h=>by
  simp at h;subst h;exact ⟨rfl,λ j c v h=>by simp at h⟩
 | x::r,y::l,cs,h,hc=>by
  simp only[EH,Bool.and_eq_true]at h;simp only[List.mapM_cons,Option.bind_eq_bind,Option.pure_def]at hc;cases h1:GZ (ρ y) with
  | none=>simp [h1]at hc
  | some c =>
   cases h2:l.mapM (λ x=>GZ (ρ x)) with
   | none=>simp [h1,h2]at hc
   | some fx =>
    simp [h1,h2]at hc;subst hc;have ih:=Qn hs h.2 h2;refine ⟨by simpa using ih.1,λ j c' v hj hv => ?_⟩;cases j with
    | zero =>
     simp at hj hv;subst hj hv;exact Amb (hs x y h.1) h1
    | succ j=>exact ih.2 j c' v (by simpa using hj) (by simpa using hv)
 | [],_::_,_,h,_=>by simp [EH]at h
 | _::_,[],_,h,_=>by simp [EH]at h
theorem AhK (hm:BP B S w0 m) (hs:CW B S m ρ a.eval) {p:Bool} {f:Nat} {o9:List AQ} (h:BD P num o.op (.si p f o9)=true) {cs:List AV} (hc:o9.mapM (λ x=>GZ (ρ x))=some cs) :
  CZ B S w0 P o a m (.val (.fn (p&&cs.isEmpty) f (num f) cs)):=by
 obtain ⟨first,xs,m5,rfl,he⟩:=Alg h;have o4:=Qn hs he hc;have jb:(xs.map a.eval)=(xs.toList.map a.eval).toArray:=by cases xs;simp
 refine EF hm (u := .func (.func (num f)) #[] (xs.toList.map a.eval).toArray) ?_ (.ca (.fn (p&&cs.isEmpty) f (num f) cs _ (λ h=>by simpa using (Bool.and_eq_true _ _ ▸ h:p=true/\cs.isEmpty=true).2) o4));simp [execOp,m5,Instr.makeFunc,jb]
end
end Go.e8

namespace Go.e8
open Go.RowKit
section
variable {B:Nat} {S:Nat->Prop} {w0:World} {m:M}
variable {P:Program} {num:Nat->Nat} {o:Oper} {a:Act} {ρ:AQ->AV}
theorem cQ {cs:List AV} {vs:List Value} (h:CL B S m cs vs) {j:Nat} {c:AV} (hj:cs[j]? = some c) : ∃ u,vs[j]? = some u/\CC B S m c u:=by
 have m7:j<cs.length:=(zS hj).1;have xe:j<vs.length:=by rw[<-h.1];exact m7
 exact ⟨vs[j],zE xe,h.2 j c _ hj (zE xe)⟩
theorem Al2 {s:Nat} {b:ED} {w':World} {g:Nat}:CV B S ⟨k7 m s (some g),m.own.put s ((m.own s).new b),w'⟩ (.ptr s (m.own.k6 s) 0 0) (.pointer (some ⟨g,0,none⟩)):=by
 refine .ca (.one (.ptr s (m.own.k6 s) 0 0 ⟨g,0,none⟩ ?_ λ b' m6=>⟨g,?_,by simp⟩))
 ·show _<AH.k6 _ s
  rw[SZ];simp
 ·simp [k7]
theorem Rr (hm:BP B S w0 m) (s:Nat) (cs:List AV) (vs:Array Value) (e:TypeId) (hc:CL B S m cs vs.toList) (h:(execOp a.eval o).run P m.w = .ok (.value (.pointer (some ⟨m.w.heap.size,0,none⟩))) (m.w.alloc (.cells vs e))) :
  CZ B S w0 P o a m (.new s ⟨cs.length,[cs]⟩ (λ t => .ptr s t 0 0)):=by
 intro K Q hK;obtain ⟨h1,h2⟩:=kH hm s ⟨cs.length,[cs]⟩ vs e (by simp) (λ i fx hi j c hj=>by
  cases i with
  | zero =>
   obtain rfl:cs=fx:=by simpa using hi
   obtain ⟨u,hu,aw⟩:=cQ hc hj;exact ⟨u,by simpa using hu,aw⟩
  | succ i=>simp at hi)
 exact X5 h (hK _ ⟨k7 m s (some m.w.heap.size),m.own.put s ((m.own s).new ⟨cs.length,[cs]⟩),m.w.alloc (.cells vs e)⟩ rfl h1 h2 Al2)
theorem Ahm (hm:BP B S w0 m) (hs:CW B S m ρ a.eval) {s:Nat} {x':AQ} (h:BD P num o.op (.box s x')=true) {cs:List AV} (hc:cellsOf (ρ x')=some cs) :
  CZ B S w0 P o a m (.new s ⟨cs.length,[cs]⟩ (λ t => .ptr s t 0 0)):=by
 obtain ⟨t,x,m5,h1⟩:=Ak0 h;exact Rr hm s cs (a.eval x).cells t (kX (hs x x' h1) hc) (by simp [execOp,m5,Instr.box,newVar,newRow])
theorem Ahg (hm:BP B S w0 m) {s:Nat} {z:List AV} (h:BD P num o.op (.alloc s z)=true):CZ B S w0 P o a m (.new s ⟨z.length,[z]⟩ (λ t => .ptr s t 0 0)):=by
 obtain ⟨t,m5,h1⟩:=AkW h;obtain ⟨i,v,hi,hz,he⟩:=wA h1;exact Rr hm s z v.cells t (cX he) (by simp [execOp,m5,Instr.alloc,zeroValue,typeInfo,hi,hz,newVar,newRow])
theorem rU (off:Nat) : ∀ (vs:List Value) (k:Nat) (cells:Array Value),off+k+vs.length<=cells.size ->
  ((vs.zipIdx k).foldl (λ cs (x:Value × Nat)=>cs.setIfInBounds (off+x.2) x.1) cells).toList=cells.toList.take (off+k)++vs++cells.toList.drop (off+k+vs.length)
 | [],k,cells,_=>by simp
 | v::r,k,cells,h=>by
  simp only[List.length_cons]at h;rw[List.zipIdx_cons,List.foldl_cons,rU off r (k+1) _ (by simp;omega)];simp only[Array.toList_setIfInBounds,List.length_cons];apply List.ext_getElem?;intro q;have e1:(cells.toList.set (off+k) v).drop (off+(k+1)+r.length)=cells.toList.drop (off+k+(r.length+1)):=by
   rw[show off+(k+1)+r.length=off+k+(r.length+1) by omega];exact List.drop_set_of_lt (by omega)
  have e2:(cells.toList.set (off+k) v).take (off+(k+1))=cells.toList.take (off+k)++[v]:=by
   rw[show off+(k+1)=off+k+1 by omega,List.take_succ_eq_append_getElem (by simp;omega)];simp [List.take_set_of_le]
  rw[e1,e2];simp
theorem rM (place:Nat->Option (Nat × Nat)) (hs:CW B S m ρ a.eval) : ∀ (ps:List (Nat × Operand)) (fu:List (Nat × Nat × AQ)) (cs fx:List AV) (vs:Array Value),bI place ps fu=true->CL B S m cs vs.toList ->
  fill cs (fu.map λ p=>(p.1,p.2.1,ρ p.2.2))=some fx -> ∃ dh,Instr.fill place vs (ps.map λ p=>(p.1,a.eval p.2))=some dh/\CL B S m fx dh.toList
 | [],[],cs,fx,vs,_,hc,hf=>by
  simp [fill]at hf;subst hf;exact ⟨vs,rfl,hc⟩
 | (i,x)::r,(off,n,y)::l,cs,fx,vs,hp,hc,hf=>by
  simp only[bI,Bool.and_eq_true,beq_iff_eq]at hp;obtain ⟨⟨yq,Ex⟩,hp3⟩:=hp;simp only[List.map_cons,fill]at hf;cases hcell:cellsOf (ρ y) with
  | none=>simp [hcell]at hf
  | some us =>
   simp only[hcell]at hf;split at hf
   ·rename_i hn
    obtain ⟨hn1,Ju⟩:=hn;have ij:=kX (hs x y Ex) hcell;have y7:(a.eval x).cells.size=n:=by rw[<-hn1,ij.1];simp
    have Dr:off+(a.eval x).cells.size<=vs.size:=by rw[y7];have:=hc.1;simp at this;omega
    have wz:=rU off (a.eval x).cells.toList 0 vs (by simpa using Dr);have jn:Instr.fill place vs (((i,x)::r).map λ p=>(p.1,a.eval p.2))=Instr.fill place ((a.eval x).cells.zipIdx.foldl (λ cs (c,j)=>cs.setIfInBounds (off+j) c) vs) (r.map λ p=>(p.1,a.eval p.2)):=by
     simp only[List.map_cons,Instr.fill,yq];rw[if_neg (by simp;omega)]
    rw[jn];refine rM place hs r l (splice cs off us) fx _ hp3 ?_ hf;have hz:((a.eval x).cells.zipIdx.foldl (λ cs (c,j)=>cs.setIfInBounds (off+j) c) vs).toList=vs.toList.take off++(a.eval x).cells.toList++vs.toList.drop (off+(a.eval x).cells.toList.length):=by
     rw[<-Array.foldl_toList];simpa using wz
    rw[hz];unfold splice;refine ⟨?_,λ j c v hj hv => ?_⟩
    ·have:=hc.1;have:=ij.1;simp at *;omega
    ·have mf:=hc.1
     have ja:=ij.1;simp only[Array.length_toList]at mf ja;rw[List.getElem?_append]at hj hv;simp only[List.length_append,List.length_take,Array.length_toList]at hj hv;rw[List.getElem?_append]at hj hv;simp only[List.length_take,Array.length_toList]at hj hv;have mi:min off cs.length=off:=by omega
     have jk:min off vs.size=off:=by omega
     rw[mi]at hj;rw[jk]at hv;rw[<-ja]at hv;split at hj
     ·rename_i h1
      rw[if_pos h1]at hv;split at hj
      ·rename_i h2
       rw[if_pos h2]at hv;rw[List.getElem?_take]at hj hv;rw[if_pos h2]at hj hv;exact hc.2 j c v hj hv
      ·rename_i h2
       rw[if_neg h2]at hv;exact ij.2 _ c v hj hv
     ·rename_i h1
      rw[if_neg h1]at hv;rw[List.getElem?_drop]at hj hv;exact hc.2 _ c v hj hv
   ·cases hf
 | [],_::_,_,_,_,hp,_,_=>by simp [bI]at hp
 | _::_,[],_,_,_,hp,_,_=>by simp [bI]at hp
theorem Aho (hm:BP B S w0 m) (hs:CW B S m ρ a.eval) {z:List AV} {fu:List (Nat × Nat × AQ)} (h:BD P num o.op (.build z fu)=true) {cs:List AV} (hf:fill z (fu.map λ p=>(p.1,p.2.1,ρ p.2.2))=some cs) :
  CZ B S w0 P o a m (.val (.agg cs)):=by
 obtain ⟨t,ps,m5,h1,h2⟩:=Ak2 h;obtain ⟨i,v,hi,hz,he⟩:=wA h1;have key : ∃ dh,P.built t (ps.map λ p=>(p.1,a.eval p.2)).toList=some dh/\CL B S m cs dh.toList:=by
  unfold pF at h2;unfold Program.built;split at h2
  ·rename_i fs hu
   split at h2
   ·rename_i places hp
    obtain ⟨dh,h3,h4⟩:=rM _ hs ps.toList fu z cs v.cells h2 (cX he) hf;refine ⟨dh,?_,h4⟩;simp only[hi,hu,hz,hp,Array.toList_map];exact h3
   ·cases h2
  ·rename_i n e hu
   split at h2
   ·rename_i ie Nb
    obtain ⟨dh,h3,h4⟩:=rM _ hs ps.toList fu z cs v.cells h2 (cX he) hf;refine ⟨dh,?_,h4⟩;simp only[hi,hu,hz,Nb,Array.toList_map];exact h3
   ·cases h2
  ·cases h2
 obtain ⟨dh,h3,h4⟩:=key;refine EF hm (u := .agg dh) ?_ (.ca (by simpa using CA.agg cs dh.toList h4));simp only[execOp,m5,Sem.run_bind];rw[run_build m.w t _ dh h3];rfl
theorem Uj (size:Nat) (hs:CW B S m ρ a.eval) : ∀ (ps:List (Nat × Operand)) (fu:List AQ) (k:Nat) (es:List (List AV)) (vs:Array Value),aS k ps fu=true->fu.mapM (λ x=>cellsOf (ρ x))=some es->(∀ e∈es,e.length=size)->vs.size=(k+fu.length)*size ->
  ∃ dh,Instr.fill (λ i=>some (i*size,size)) vs (ps.map λ p=>(p.1,a.eval p.2))=some dh/\dh.size=vs.size/\(∀ q,q<k*size->dh[q]? = vs[q]?) /\ ∀ i cs,es[i]? = some cs -> ∀ j c,cs[j]? = some c -> ∃ u,dh[(k+i)*size+j]? = some u/\CC B S m c u
 | [],[],k,es,vs,_,kt,_,_=>by
  simp at kt;subst kt;exact ⟨vs,rfl,rfl,λ_ _=>rfl,λ i cs hi=>by simp at hi⟩
 | (i,x)::r,y::l,k,es,vs,he,kt,hz,hv=>by
  simp only[aS,Bool.and_eq_true,beq_iff_eq]at he;obtain ⟨⟨rfl,h1⟩,h2⟩:=he;simp only[List.mapM_cons,Option.bind_eq_bind,Option.pure_def]at kt;cases hcell:cellsOf (ρ y) with
  | none=>simp [hcell]at kt
  | some us =>
   cases fp:l.mapM (λ x=>cellsOf (ρ x)) with
   | none=>simp [hcell,fp]at kt
   | some es' =>
    simp [hcell,fp]at kt;subst kt;have ij:=kX (hs x y h1) hcell;have hus:us.length=size:=hz us (by simp);have y7:(a.eval x).cells.size=size:=by rw[<-hus,ij.1];simp
    simp only[List.length_cons]at hv;have hle:i*size+size<=vs.size:=by rw[hv,show i+(l.length+1)=i+1+l.length by omega,Nat.add_mul,Nat.add_mul];omega
    have wz:=rU (i*size) (a.eval x).cells.toList 0 vs (by simp [y7];omega);generalize Ik:(a.eval x).cells.zipIdx.foldl (λ cs (c,j)=>cs.setIfInBounds (i*size+j) c) vs=Fk;have ke:Fk.toList=vs.toList.take (i*size)++(a.eval x).cells.toList++vs.toList.drop (i*size+size):=by
     rw[<-Ik,<-Array.foldl_toList];simpa [y7] using wz
    have Fc:Fk.size=vs.size:=by
     have:=congrArg List.length ke
     simp [y7]at this;omega
    obtain ⟨dh,h3,h4,h5,h6⟩:=Uj size hs r l (i+1) es' Fk h2 fp (λ e he=>hz e (by simp [he])) (by rw[Fc,hv];congr 1;omega);refine ⟨dh,?_,h4.trans Fc,λ q hq => ?_,λ i' cs s9 j c hj => ?_⟩
    ·simp only[List.map_cons,Instr.fill]
     rw[if_neg (by simp [y7];omega),Ik];exact h3
    ·rw[h5 q (by rw[Nat.add_mul];omega)]
     have:Fk.toList[q]? = vs.toList[q]? := by
      rw[ke,List.append_assoc,List.getElem?_append_left (by simp;omega),List.getElem?_take,if_pos hq]
     simpa using this
    ·cases i' with
     | zero =>
      obtain rfl:us=cs:=by simpa using s9
      obtain ⟨u,hu,aw⟩:=cQ ij hj;have dm:j<size:=by rw[<-hus];exact (zS hj).1
      refine ⟨u,?_,aw⟩;rw[Nat.add_zero,h5 _ (by rw[Nat.add_mul];omega)];have:Fk.toList[i*size+j]? = some u:=by
       rw[ke,List.append_assoc,List.getElem?_append_right (by simp;omega)];simp only[List.length_take,Array.length_toList,show min (i*size) vs.size=i*size by omega,show i*size+j-i*size=j by omega];rw[List.getElem?_append_left (by simp [y7];omega)];exact hu
      simpa using this
     | succ i' =>
      obtain ⟨u,hu,aw⟩:=h6 i' cs (by simpa using s9) j c hj;exact ⟨u,by rw[show i+(i'+1)=i+1+i' by omega];exact hu,aw⟩
 | [],_::_,_,_,_,he,_,_,_=>by simp [aS]at he
 | _::_,[],_,_,_,he,_,_,_=>by simp [aS]at he
theorem tL {s z n cap:Nat} {es:List (List AV)} {w':World} {g:Nat} {arr:Array Value} {e:TypeId} (hz:0<z) (hn:n<=cap) (hg:w'.heap[g]? = some (.cells arr e (0,0))) (hc:cap*z<=arr.size) :
  CV B S ⟨k7 m s (some g),m.own.put s ((m.own s).new ⟨z,es⟩),w'⟩ (.row s (m.own.k6 s) z 0 n) (.slice (some ⟨g,0,none⟩) n cap):=by
 refine .ca (.one (.row s (m.own.k6 s) z 0 n _ cap ?_ hz hn (λ_=>rfl) λ b' m6=>⟨?_,.inr ⟨g,arr,e,?_,by simp,hg,by simpa using hc⟩⟩))
 ·show _<AH.k6 _ s
  rw[SZ];simp
 ·change AH.get _ s _=some b' at m6
  rw[GD,if_pos ⟨rfl,rfl⟩]at m6;obtain rfl:(⟨z,es⟩:ED)=b':=by simpa using m6
  rfl
 ·simp [k7]
theorem Rw (hm:BP B S w0 m) (s z n cap:Nat) (es:List (List AV)) (vs:Array Value) (e:TypeId) (fg:0<z) (hn:n<=cap) (y7:cap*z<=vs.size) (hz : ∀ x∈es,x.length=z)
  (hc : ∀ i cs,es[i]? = some cs -> ∀ j c,cs[j]? = some c -> ∃ u,vs[i*z+j]? = some u/\CC B S m c u)
  (h:(execOp a.eval o).run P m.w = .ok (.value (.slice (some ⟨m.w.heap.size,0,none⟩) n cap)) (m.w.alloc (.cells vs e))) :
  CZ B S w0 P o a m (.new s ⟨z,es⟩ (λ t => .row s t z 0 n)):=by
 intro K Q hK;obtain ⟨h1,h2⟩:=kH hm s ⟨z,es⟩ vs e hz hc;exact X5 h (hK _ ⟨k7 m s (some m.w.heap.size),m.own.put s ((m.own s).new ⟨z,es⟩),m.w.alloc (.cells vs e)⟩ rfl h1 h2 (tL fg hn (heap_alloc_new _ _) y7))
theorem Ahn (hm:BP B S w0 m) (hs:CW B S m ρ a.eval) {s c6:Nat} {fu:List AQ} (h:BD P num o.op (.g8 s c6 fu)=true) {es:List (List AV)} (kt:fu.mapM (λ x=>cellsOf (ρ x))=some es) (hz : ∀ e∈es,e.length=c6) :
  CZ B S w0 P o a m (.new s ⟨c6,es⟩ (λ t => .row s t c6 0 es.length)):=by
 obtain ⟨t,n,ps,e,i,m5,hu,hi,y7,h0,hn,Ou,fy,hzero⟩:=Ak1 h;have hlen:es.length=n:=by
  rw[hn];clear h fy hzero hn;induction fu generalizing es with
  | nil=>simp at kt;subst kt;rfl
  | cons y l ih =>
   simp only[List.mapM_cons,Option.bind_eq_bind,Option.pure_def]at kt;cases hcell:cellsOf (ρ y) with
   | none=>simp [hcell]at kt
   | some us =>
    cases fp:l.mapM (λ x=>cellsOf (ρ x)) with
    | none=>simp [hcell,fp]at kt
    | some es' =>
     simp [hcell,fp]at kt;subst kt;simp [ih fp (λ e he=>hz e (by simp [he]))]
 obtain ⟨zc,Ca⟩ : ∃ zc:Array Value,(n*c6=0/\zc = #[])\/(¬ n*c6=0 /\ ∃ z,i.zero=some z/\zc=z.cells):=by
  by_cases m9:n*c6=0
  ·exact ⟨#[],.inl ⟨m9,rfl⟩⟩
  ·rcases hzero with zk|⟨z,ke,zd⟩
   ·simp [zk]at m9
   ·exact ⟨z.cells,.inr ⟨m9,z,ke,rfl⟩⟩
 have Is:((Array.range (n*c6)).map (zc[· % zc.size]!)).size=n*c6:=by simp
 obtain ⟨dh,h3,h4,_,h6⟩:=Uj c6 hs ps.toList fu 0 es _ fy kt hz (by rw[Is,hn];simp);have u6:(execOp a.eval o).run P m.w = .ok (.value (.slice (some ⟨m.w.heap.size,0,none⟩) n n)) (m.w.alloc (.cells dh e)):=by
  simp only[execOp,m5,Instr.buildSlice,Sem.run_bind,run_underlying hu,Result.andThen_ok,sizeOf,typeInfo,run_program,hi,Sem.run_pure,y7];simp only[show ¬ (n*c6>2^24) from by omega,if_false,Sem.run_bind,Sem.run_pure,Result.andThen_ok];rcases Ca with ⟨zk,rfl⟩|⟨zk,z,ke,rfl⟩
  ·simp only[zk,if_true,Sem.run_bind,Sem.run_pure,Result.andThen_ok,Array.toList_map]
   rw[zk]at h3;rw[h3];rfl
  ·simp only[zk,if_false,Sem.run_bind,Sem.run_pure,Result.andThen_ok,Array.toList_map,zeroValue,typeInfo,run_program,hi,ke]
   rw[h3];rfl
 rw[hlen];exact Rw hm s c6 n n es dh e (Nat.pos_of_ne_zero h0) (Nat.le_refl _) (by rw[h4,Is];exact Nat.le_refl _) hz (λ i cs s9 j c hj=>by simpa using h6 i cs s9 j c hj) u6
end
end Go.e8
