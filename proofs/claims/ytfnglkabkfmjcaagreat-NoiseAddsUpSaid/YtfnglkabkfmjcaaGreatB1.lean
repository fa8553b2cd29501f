/-
  The abstract machine: data without memory. AV: a value; slices that are only read are lists ('sl'), rows and boxes of the call's own are named by a site and a stamp.
  Nothing here speaks of a program; EngSound ties it to the model.
-/
import Derived.Calls
import Derived.Below
import Derived.Laws.CopyRow
import Derived.Laws.Cells
import Derived.Laws.MakeOwn
import Derived.Laws.AppendOwn
import Derived.Deep.AppendSrc
import Derived.Deep.Draws
import Derived.ArgAppend
import Derived.Laws.StructEq
import Derived.ChangeKeysEq
set_option linter.unusedSimpArgs false
set_option linter.unusedVariables false
set_option linter.unnecessarySimpa false
namespace Go.c9
theorem zE {α : Type} {l : List α} {i : Nat} (h : i < l.length) : l[i]? = some l[i] :=
 List.getElem?_eq_getElem h
theorem zS {α : Type} {l : List α} {i : Nat} {a : α} (h : l[i]? = some a) : ∃ h : i < l.length, l[i] = a :=
 List.getElem?_eq_some_iff.1 h
theorem zM {α : Type} {l : List α} {i : Nat} {a : α} (h : l[i]? = some a) : a ∈ l :=
 List.mem_of_getElem? h
end Go.c9
namespace Go.c9
inductive AV where
 | int (k:IntKind) (n:Int)
 | bool (b:Bool)
 | sl (l:Bool) (es:List (List AV))
 | row (s t z off len:Nat)
 | nil
 | ptr (s t i j:Nat)
 | u5 (cs:List AV)
 | agg (cs:List AV)
 | j5 (vs:List AV)
 | dh (v:Value)
 | fn (p:Bool) (f g:Nat) (cs:List AV)
 | any
 deriving Inhabited
inductive AQ where
 | t (n:Nat)
 | c (v:AV)
 deriving Inhabited
structure EC where
 b9:Nat
 es:List (List AV)
structure CF where
 j7:Nat
 g7:Nat->Option EC
def AH:=Nat->CF
def AH.emp:AH:=λ_=>⟨0,λ_=>none⟩
def AH.put (o:AH) (s:Nat) (x:CF):AH:=λ s'=>if s'=s then x else o s'
def AH.get (o:AH) (s t:Nat):Option EC:=(o s).g7 t
def AH.j7 (o:AH) (s:Nat):Nat:=(o s).j7
def CF.q5 (x:CF) (t:Nat) (b:Option EC):CF:=⟨x.j7,λ t'=>if t'=t then b else x.g7 t'⟩
def CF.new (x:CF) (b:EC):CF:=⟨x.j7+1,λ t'=>if t'=x.j7 then some b else x.g7 t'⟩
theorem AH.j9 (o:AH) (s:Nat) (x:CF):o.put s x s=x:=by simp [AH.put]
theorem AH.gp (o:AH) (s s':Nat) (x:CF) (h:s'≠s):o.put s x s'=o s':=by simp [AH.put,h]
theorem AH.mo (o:AH) (s:Nat) (x y:CF):(o.put s x).put s y=o.put s y:=by
 funext s';by_cases h:s'=s<;>simp [AH.put,h]
inductive D6 where
 | b7 (x:AQ)
 | w4 (s b9:Nat)
 | pick (c a b:AQ)
 | bin (op:BinOp) (x y:AQ)
 | beq (ne:Bool) (x y:AQ)
 | un (op:UnOp) (x:AQ)
 | conv (k:IntKind) (x:AQ)
 | box (s:Nat) (x:AQ)
 | alloc (s:Nat) (zero:List AV)
 | build (zero:List AV) (parts:List (Nat × Nat × AQ))
 | e9 (s b9:Nat) (parts:List AQ)
 | a7 (x:AQ) (off:Nat)
 | om (x:AQ) (off n:Nat) (agg:Bool)
 | a5 (arr:Option Nat) (b9:Nat) (x i:AQ)
 | ld (agg:Bool) (n:Nat) (x:AQ)
 | st (n:Nat) (x v:AQ)
 | mk (s b9 bytes:Nat) (zero:List AV) (l c:AQ)
 | fx (b9:Nat) (x:AQ) (lo hi:Option AQ)
 | ext (x:AQ) (i:Nat)
 | len (x:AQ)
 | mm (max:Bool) (xs:List AQ)
 | app (s b9 bytes:Nat) (x y:AQ)
 | call (f:Nat) (xs:List AQ)
 | g9 (f:Nat) (xs:List AQ)
 | tu (ne:Bool) (x:AQ)
 | gv (tb:List Nat) (x:AQ)
 | qo (p:Bool) (f:Nat) (xs:List AQ)
 | n0 (x:AQ) (xs:List AQ)
 | uq (agg:Bool) (n:Nat) (x:AQ)
 | sd (f:Nat) (x:AQ)
 | m7 (f:Nat) (xs:List AQ)
 | oh (s n:Nat) (x v:AQ)
 | u6 (s f:Nat) (xs:List AQ)
 | sf (ne:Bool) (n:Nat) (x y:AQ)
 | fm (x:AQ)
 | oi (s b9 bytes:Nat) (x y:AQ)
 | cu (s f:Nat) (xs:List AQ)
 | bad
 deriving Inhabited
structure AI where
 dst:Option Nat
 op:D6
 guard:Option (Nat × Bool):=none
 c7:List Nat:=[]
 deriving Inhabited
inductive BJ where
 | skip
 | ops (l:List AI) (draw:Bool)
 | dr (c:BJ) (ts ss:List Nat)
 | scope (c:BJ)
 | seq (a b:BJ)
 | cond (c:AQ) (a b:BJ)
 | block (id:Nat) (c:BJ)
 | loop (c:BJ)
 | exit (id:Nat)
 | ret
 deriving Inhabited
inductive J0 where
 | tmp (t:Nat)
 | cell (t:Nat) (agg:Bool) (n:Nat)
 deriving Inhabited
structure AFn where
 ay:Nat
 body:BJ
 res:List J0
 qu:Bool
abbrev Tm:=List (Nat × AV)
def j4:Tm->Nat->AV
 | [],_ => .any
 | (i,v)::r,j=>if j=i then v else j4 r j
def jx:Tm->Nat->AV->Tm
 | [],j,u=>[(j,u)]
 | (i,v)::r,j,u=>if j=i then (i,u)::r else if j<i then (j,u)::(i,v)::r else (i,v)::jx r j u
def al:Tm->List Nat->Tm
 | [],_=>[]
 | (i,v)::r,l=>if l.contains i then al r l else (i,v)::al r l
theorem bV (m:Tm) (i:Nat) (v:AV) (j:Nat):j4 (jx m i v) j=if j=i then v else j4 m j:=by
 induction m with
 | nil=>by_cases h:j=i<;>simp [jx,j4,h]
 | cons x r ih =>
  obtain ⟨a,u⟩:=x;by_cases h:i=a
  ·subst h
   by_cases h2:j=i<;>simp [jx,j4,h2]
  ·by_cases l9:i<a
   ·by_cases h2:j=i<;>simp [jx,j4,h,l9,h2]
   ·by_cases h2:j=a
    ·subst h2
     have : ¬ j=i:=λ e=>h e.symm
     simp [jx,j4,h,l9,this]
    ·simp [jx,j4,h,l9,h2,ih]
structure St where
 tm:Tm
 own:AH
def St.ev (st:St):AQ->AV
 | .t n=>j4 st.tm n
 | .c v=>v
inductive CE where
 | val (v:AV)
 | new (s:Nat) (b:EC) (v:Nat->AV)
 | zt (s:Nat) (b:EC) (v:Nat->AV)
 | eb (v:AV) (own:AH)
 | q5 (s:Nat) (x:CF)
 | yd (s:Nat) (x:CF) (v:AV)
def cellsOf:AV->Option (List AV)
 | .agg cs=>some cs
 | .fn _ _ _ _=>none
 | .j5 _=>none
 | .any=>none
 | v=>some [v]
def KD (agg:Bool) (cs:List AV):Option AV :=
 if agg then some (.agg cs) else match cs with|[c]=>some c|_=>none
def part (cs:List AV) (off n:Nat):Option (List AV) :=
 if off+n<=cs.length then some ((cs.drop off).take n) else none
def splice (cs:List AV) (off:Nat) (vs:List AV):List AV:=cs.take off++vs++cs.drop (off+vs.length)
def fill (cells:List AV):List (Nat × Nat × AV)->Option (List AV)
 | []=>some cells
 | (off,n,v)::r=>match cellsOf v with
  | some vs=>if vs.length=n/\off+n<=cells.length then fill (splice cells off vs) r else none
  | none=>none
def DM (op:BinOp) (k:IntKind) (a:Int) (k':IntKind) (b:Int):Option AV :=
 match op with
 | .shl=>if b<0 then none else some (.int k (k.wrap (a*2^(min b.toNat k.bits))))
 | .shr=>if b<0 then none else some (.int k (a.fdiv (2^(min b.toNat k.bits))))
 | .add=>if k=k' then some (.int k (k.wrap (a+b))) else none
 | .sub=>if k=k' then some (.int k (k.wrap (a-b))) else none
 | .mul=>if k=k' then some (.int k (k.wrap (a*b))) else none
 | .quo=>if k=k'/\b≠0 then some (.int k (k.wrap (a.tdiv b))) else none
 | .rem=>if k=k'/\b≠0 then some (.int k (a.tmod b)) else none
 | .and=>if k=k' then some (.int k (k.wrap (BitVec.ofInt k.bits a &&& BitVec.ofInt k.bits b).toNat)) else none
 | .or=>if k=k' then some (.int k (k.wrap (BitVec.ofInt k.bits a ||| BitVec.ofInt k.bits b).toNat)) else none
 | .xor=>if k=k' then some (.int k (k.wrap (BitVec.ofInt k.bits a ^^^ BitVec.ofInt k.bits b).toNat)) else none
 | .andNot=>if k=k' then some (.int k (k.wrap (BitVec.ofInt k.bits a &&& ~~~ BitVec.ofInt k.bits b).toNat)) else none
 | .eql=>if k=k' then some (.bool (a == b)) else none
 | .neq=>if k=k' then some (.bool (a != b)) else none
 | .lss=>if k=k' then some (.bool (decide (a<b))) else none
 | .leq=>if k=k' then some (.bool (decide (a<=b))) else none
 | .gtr=>if k=k' then some (.bool (decide (a>b))) else none
 | .geq=>if k=k' then some (.bool (decide (a≥b))) else none
def VZ (op:UnOp):AV->Option AV
 | .int k n=>match op with
  | .neg=>some (.int k (k.wrap (0-n)))
  | .xor=>some (.int k (k.wrap (BitVec.ofInt k.bits (if k.signed then -1 else k.max) ^^^ BitVec.ofInt k.bits n).toNat))
  | _=>none
 | .bool b=>match op with
  | .not=>some (.bool (!b))
  | _=>none
 | _=>none
def UI (max:Bool):AV->AV->Option AV
 | .int k a,.int _ b=>some (.int k (if max then (if b>a then b else a) else (if b<a then b else a)))
 | _,_=>none
def OL (max:Bool):AV->List AV->Option AV
 | v,[]=>some v
 | v,u::r=>match UI max v u with|some x=>OL max x r|none=>none
def AH.m8 (o:AH):List Nat->AH
 | []=>o
 | s::r=>λ s'=>if s'=s then ⟨0,λ_=>none⟩ else o.m8 r s'
def AH.qm (own:AH) (s t i j n:Nat):Option (List AV) :=
 match own.get s t with
 | some b=>match b.es[i]? with
  | some cs=>part cs j n
  | none=>none
 | none=>none
def AH.mq (own:AH) (s t i j:Nat) (vs:List AV):Option AH :=
 match own.get s t with
 | some b=>match b.es[i]? with
  | some cs=>if j+vs.length<=cs.length then some (own.put s ((own s).q5 t (some ⟨b.b9,b.es.set i (splice cs j vs)⟩))) else none
  | none=>none
 | none=>none
def ES (own:AH):AV->Option (List (List AV))
 | .sl _ es=>some es
 | .nil=>some []
 | .dh (.bool _)=>some []
 | .row s t z off len=>match own.get s t with
  | some b=>if off+len<=b.es.length/\b.b9=z then some ((b.es.drop off).take len) else none
  | none=>none
 | _=>none
def UE:AV->Option Nat
 | .sl _ es=>some es.length
 | .nil=>some 0
 | .row _ _ _ _ len=>some len
 | _=>none
def snap (own:AH) (l:Bool):Nat->AV->Option AV
 | _,.int k n=>some (.int k n)
 | _,.bool b=>some (.bool b)
 | _,.sl l' es=>some (.sl l' es)
 | _,.nil=>some (.sl false [])
 | _,.dh v=>some (.dh v)
 | d+1,.row s t z off len=>match ES own (.row s t z off len) with
  | some es=>(es.mapM (λ cs:List AV=>cs.mapM (snap own l d))).map (AV.sl l)
  | none=>none
 | _,_=>none
def C6 (own:AH) (l:Bool):AV->Option AV
 | .agg cs=>(cs.mapM (snap own l 6)).map AV.agg
 | v=>snap own l 6 v
def TL (own:AH) (l:Bool):AV->Option AV
 | .nil=>some .nil
 | v=>C6 own l v
def VW (own:AH) (l:Bool):AV->Option AV
 | .j5 cs=>(cs.mapM (C6 own l)).map AV.j5
 | v=>C6 own l v
mutual
def A3:AV->Prop
 | .int _ _=>True
 | .bool _=>True
 | .dh _=>True
 | .sl l es=>l=false/\FP es
 | .agg cs=>CG cs
 | .j5 cs=>CG cs
 | _=>False
def CG:List AV->Prop
 | []=>True
 | c::r=>A3 c/\CG r
def FP:List (List AV)->Prop
 | []=>True
 | c::r=>CG c/\FP r
end
def EA:Nat:=140737488355328
structure Cl where
 pure:Nat->List AV->Option AV
 ix:Nat->List AV->AH->Option (AV × AH)
 num:Nat->Nat
noncomputable def dC (C:Cl) (f:Nat) (vs:List AV) (s:Nat) (q:CF):Option (AV × CF) :=
 open Classical in if h : ∃ p : AV × CF, ∀ o : AH, o s = q -> C.ix f vs o = some (p.1, o.put s p.2) then some h.choose else none
theorem dD {C:Cl} {f:Nat} {vs:List AV} {s:Nat} {q:CF} {p:AV × CF}:dC C f vs s q=some p ↔ ∀ o:AH,o s=q->C.ix f vs o=some (p.1,o.put s p.2):=by
 unfold dC;constructor
 ·intro h
  split at h
  ·rename_i hx
   obtain rfl:=Option.some.inj h;exact hx.choose_spec
  ·cases h
 ·intro h
  rw[dif_pos ⟨p,h⟩];have h1:=(⟨p,h⟩ : ∃ p:AV × CF,∀ o:AH,o s=q->C.ix f vs o=some (p.1,o.put s p.2)).choose_spec (λ_=>q) rfl;have h2:=h (λ_=>q) rfl;have h3:=Option.some.inj (h2.symm.trans h1);refine congrArg some ?_;generalize (Exists.choose _:AV × CF)=p' at h3;obtain ⟨a,b⟩:=p;obtain ⟨a',b'⟩:=p';simp only[Prod.mk.injEq]at h3;obtain ⟨h4,h5⟩:=h3;have h6:b=b':=by
   have:=congrFun h5 s
   simpa [AH.put] using this
  rw[h4,h6]
def Y9:AV->AV
 | .sl _ es => .sl false es
 | .nil => .sl false []
 | v=>v
def yc:AV->AV
 | .agg cs => .agg (cs.map Y9)
 | v=>Y9 v
def aP:AV->AV
 | .sl _ es => .sl true es
 | v=>v
def zn:AV->AV
 | .agg cs => .agg (cs.map aP)
 | v=>aP v
mutual
def HT:AV->AV
 | .sl _ es => .sl true (aN es)
 | v=>v
def PL:List AV->List AV
 | []=>[]
 | c::r=>HT c::PL r
def aN:List (List AV)->List (List AV)
 | []=>[]
 | c::r=>PL c::aN r
end
def TE:AV->AV
 | .agg cs => .agg (PL cs)
 | v=>HT v
def XT:AV->Prop
 | .j5 _=>False
 | .fn _ _ _ _=>False
 | _=>True
def GT:AV->Bool
 | .int _ _=>true | .bool _=>true | .sl _ _=>true | .nil=>true
 | _=>false
def dq:AV->Bool
 | .agg cs=>cs.all GT
 | v=>GT v
def zR:AV->Bool
 | .int _ _=>true | .bool _=>true
 | _=>false
def ZG:AV->Prop
 | .int _ _=>True
 | .bool _=>True
 | .sl _ es => ∀ e∈es,∀ c∈e,zR c=true
 | _=>False
def NX:AV->Prop
 | .agg cs => ∀ c∈cs,ZG c
 | v=>ZG v
open Classical in
noncomputable def PM (r:AV):AV:=if NX r then zn r else TE r
theorem mM {r:AV} (h:NX r):PM r=zn r:=if_pos h
theorem yQ {r:AV} (h : ¬ NX r):PM r=TE r:=if_neg h
def H8:List AV->Option (List Int)
 | []=>some []
 | .int .i64 n::r=>(H8 r).map (n :: ·)
 | _=>none
def GW:AV->Option AV
 | .agg _=>none
 | .fn _ _ _ _=>none
 | .j5 _=>none
 | .any=>none
 | v=>some v
open Classical in
noncomputable def SZ (x:Option (AV × AH)):Option (Nat × List (List AV)):=match x with
 | some (.row s t z 0 n,o)=>match o.get s t with
  | some b=>if b.es.length=n/\FP b.es then some (z,b.es) else none
  | none=>none
 | _=>none
theorem Adw {x:Option (AV × AH)} {z:Nat} {es:List (List AV)} (h:SZ x=some (z,es)) : ∃ s t o b,x=some (.row s t z 0 es.length,o)/\o.get s t=some b/\b.es=es/\FP es:=by
 unfold SZ at h;split at h
 ·split at h
  ·rename_i s t z' n o b hb
   split at h
   ·rename_i hc
    obtain ⟨rfl,hc⟩:=hc;simp only[Option.some.injEq,Prod.mk.injEq]at h;obtain ⟨rfl,rfl⟩:=h;exact ⟨_,_,_,_,rfl,hb,rfl,hc⟩
   ·cases h
  ·cases h
 ·cases h
open Classical in
noncomputable def g8 (C:Cl) (c7:List Nat) (ρ:AQ->AV) (own:AH):D6->Option CE
 | .b7 x=>some (.val (ρ x))
 | .w4 s b9=>some (.zt s ⟨b9,[]⟩ (λ t => .row s t b9 0 0))
 | .pick c a b=>match ρ c with
  | .bool true=>some (.val (ρ a))
  | .bool false=>some (.val (ρ b))
  | _=>none
 | .bin op x y=>match ρ x,ρ y with
  | .int k a,.int k' b=>(DM op k a k' b).map .val
  | _,_=>none
 | .beq ne x y=>match ρ x,ρ y with
  | .bool a,.bool b=>some (.val (.bool (if ne then !(a == b) else a == b)))
  | _,_=>none
 | .un op x=>(VZ op (ρ x)).map .val
 | .conv k x=>match ρ x with
  | .int _ n=>some (.val (.int k (k.wrap n)))
  | _=>none
 | .box s x=>match cellsOf (ρ x) with
  | some cs=>some (.new s ⟨cs.length,[cs]⟩ (λ t => .ptr s t 0 0))
  | none=>none
 | .alloc s zero=>some (.new s ⟨zero.length,[zero]⟩ (λ t => .ptr s t 0 0))
 | .build zero parts=>(fill zero (parts.map λ p=>(p.1,p.2.1,ρ p.2.2))).map (λ cs => .val (.agg cs))
 | .e9 s b9 parts=>match parts.mapM (λ x=>cellsOf (ρ x)) with
  | some es=>if ∀ e∈es,e.length=b9 then some (.new s ⟨b9,es⟩ (λ t => .row s t b9 0 es.length)) else none
  | none=>none
 | .a7 x off=>match ρ x with
  | .ptr s t i j=>some (.val (.ptr s t i (j+off)))
  | .u5 cs=>some (.val (.u5 (cs.drop off)))
  | _=>none
 | .om x off n agg=>match ρ x with
  | .agg cs=>match part cs off n with
   | some ds=>(KD agg ds).map .val
   | none=>none
  | _=>none
 | .a5 arr b9 x i=>match ρ i with
  | .int _ n=>match arr,ρ x with
   | some len,.ptr s t i' j=>if 0<=n/\n<len then some (.val (.ptr s t i' (j+n.toNat*b9))) else none
   | some len,.u5 cs=>if 0<=n/\n<len then some (.val (.u5 (cs.drop (n.toNat*b9)))) else none
   | none,.row s t z off len=>if 0<=n/\n<len/\z=b9 then some (.val (.ptr s t (off+n.toNat) 0)) else none
   | none,.sl _ es=>if 0<=n then match es[n.toNat]? with
     | some cs=>if cs.length=b9 then some (.val (.u5 cs)) else none
     | none=>none
    else none
   | _,_=>none
  | _=>none
 | .ld agg n x=>match ρ x with
  | .ptr s t i j=>match (own.m8 c7).qm s t i j n with
   | some cs=>(KD agg cs).map .val
   | none=>none
  | .u5 cs=>match part cs 0 n with
   | some ds=>(KD agg ds).map .val
   | none=>none
  | _=>none
 | .uq agg n x=>match ρ x with
  | .u5 cs=>match part cs 0 n with
   | some ds=>(KD agg ds).map .val
   | none=>none
  | _=>none
 | .st n x v=>match ρ x,cellsOf (ρ v) with
  | .ptr s t i j,some vs=>if vs.length=n then (own.mq s t i j vs).map (CE.eb (.j5 [])) else none
  | _,_=>none
 | .mk s b9 bytes zero l c=>match ρ l,ρ c with
  | .int _ a,.int _ b=>if 0<=a/\a<=b/\b*bytes<=EA/\b<=9223372036854775807/\zero.length=b9 then some (.new s ⟨b9,List.replicate a.toNat zero⟩ (λ t => .row s t b9 0 a.toNat)) else none
  | _,_=>none
 | .fx b9 x lo hi=>match ρ x with
  | .sl l es =>
   let h:Option Nat:=match hi with|none=>some es.length|some o=>match ρ o with | .int _ n=>if 0<=n/\n<=es.length then some n.toNat else none|_=>none
   let a:Option Nat:=match lo with|none=>some 0|some o=>match ρ o with | .int _ n=>if 0<=n then some n.toNat else none|_=>none
   match a,h with
   | some a,some h=>if a<=h /\ ∀ e∈es,e.length=b9 then some (.val (.sl l ((es.take h).drop a))) else none
   | _,_=>none
  | .nil =>
   let h:Option Nat:=match hi with|none=>some 0|some o=>match ρ o with | .int _ n=>if n=0 then some 0 else none|_=>none
   let a:Option Nat:=match lo with|none=>some 0|some o=>match ρ o with | .int _ n=>if n=0 then some 0 else none|_=>none
   match a,h with
   | some _,some _=>some (.val .nil)
   | _,_=>none
  | .row s t z off len =>
   let h:Option Nat:=match hi with|none=>some len|some o=>match ρ o with | .int _ n=>if 0<=n/\n<=len then some n.toNat else none|_=>none
   let a:Option Nat:=match lo with|none=>some 0|some o=>match ρ o with | .int _ n=>if 0<=n then some n.toNat else none|_=>none
   match a,h with
   | some a,some h=>if a<=h/\z=b9 then some (.val (.row s t z (off+a) (h-a))) else none
   | _,_=>none
  | _=>none
 | .ext x i=>match ρ x with
  | .j5 vs=>(vs[i]?).map .val
  | _=>none
 | .len x=>match UE (ρ x) with
  | some n=>some (.val (.int .i64 (n:Int)))
  | none=>none
 | .mm max xs=>match xs.map ρ with
  | []=>none
  | v::r=>(OL max v r).map .val
 | .app s b9 bytes x y=>match ES own (ρ y) with
  | some ys=>if ∀ e∈ys,e.length=b9 then match ρ x with
    | .row s' t z 0 len=>match own.get s' t with
     | some b=>if b.b9=b9/\z=b9/\len<=b.es.length/\(len+ys.length)*bytes<=EA/\len+ys.length<=9223372036854775807 then
       some (.eb (.row s' (own.j7 s') b9 0 (len+ys.length)) (own.put s' (((own s').q5 t none).new ⟨b9,b.es.take len++ys⟩)))
      else none
     | none=>none
    | .nil=>if ys.length*bytes<=EA/\ys.length<=9223372036854775807 then
       some (.eb (.row s (own.j7 s) b9 0 ys.length) (own.put s ((own s).new ⟨b9,ys⟩))) else none
    | _=>none
   else none
  | none=>none
 | .call f xs=>match (xs.map ρ).mapM (C6 (own.m8 c7) true) with
  | some vs=>(C.pure f vs).map .val
  | none=>none
 | .g9 f xs=>(C.ix f (xs.map ρ) own).map (λ r => .eb r.1 r.2)
 | .tu ne x=>match ρ x with
  | .nil=>some (.val (.bool (xor true ne)))
  | .dh (.bool b)=>some (.val (.bool (xor b ne)))
  | .sl _ (_::_)=>some (.val (.bool (xor false ne)))
  | .row _ _ _ _ (_+1)=>some (.val (.bool (xor false ne)))
  | _=>none
 | .bad=>none
 | .fm x=>match ρ x with
  | .nil=>some (.val (.int .i64 0))
  | _=>none
 | .oi s b9 bytes x y=>match ρ x,ρ y with
  | .nil,.int _ n=>if 0<n/\n*bytes<=EA/\n<=9223372036854775807 then some (.new s ⟨b9,[]⟩ (λ t => .row s t b9 0 n.toNat)) else none
  | _,_=>none
 | .cu s f xs=>(dC C f (xs.map ρ) s (own s)).map λ p => .yd s p.2 p.1
 | .gv tb x=>match ρ x with
  | .int _ n=>if 0<=n then (match tb[n.toNat]? with
   | some v=>some (.val (.int .u8 v))
   | none=>none) else none
  | _=>none
 | .qo p f xs=>(xs.mapM (λ x=>GW (ρ x))).map (λ cs => .val (.fn (p&&cs.isEmpty) f (C.num f) cs))
 | .sd f x=>match ρ x with
  | .agg (c::cs)=>some (.val (.fn true f (C.num f) (c::cs)))
  | _=>none
 | .m7 f xs=>if (xs.map ρ).all dq=true then (match C.pure f ((xs.map ρ).map yc) with
   | some r=>if NX r\/XT r then some (.val (PM r)) else none
   | none=>none) else none
 | .oh s n x v=>match ρ x,cellsOf (ρ v) with
  | .ptr s' t i j,some vs=>if s'=s/\vs.length=n then (own.mq s t i j vs).map (λ o'=>CE.q5 s (o' s)) else none
  | _,_=>none
 | .sf ne n x y=>match ρ x,ρ y with
  | .agg cs,.agg ds=>match H8 cs,H8 ds with
   | some a,some b=>if a.length=n/\b.length=n then some (.val (.bool (if ne then !(decide (a=b)) else decide (a=b)))) else none
   | _,_=>none
  | _,_=>none
 | .u6 s f xs=>match (xs.map ρ).mapM (TL (own.m8 c7) true) with
  | some vs=>(SZ (C.ix f vs AH.emp)).map (λ r => .new s ⟨r.1,r.2⟩ (λ t => .row s t r.1 0 r.2.length))
  | none=>none
 | .n0 x xs=>match ρ x with
  | .fn p f g cs=>if g=C.num f then (match p,cs with
   | true,[]=>(match (xs.map ρ).mapM (C6 own true) with
    | some vs=>(C.pure f vs).map .val
    | none=>none)
   | false,cs=>(C.ix f (xs.map ρ++cs) own).map (λ r => .eb r.1 r.2)
   | true,c::cs=>(match (AV.agg (c::cs)::xs.map ρ).mapM (C6 own true) with
    | some vs=>(C.pure f vs).map .val
    | none=>none)) else none
  | _=>none
def St.dst (st:St) (d:Option Nat) (v:AV):St :=
 match d with
 | some d=>{ st with tm:=jx st.tm d v }
 | none=>st
def St.app (st:St) (d:Option Nat):CE->St
 | .val v=>st.dst d v
 | .new s b v=>{ (st.dst d (v (st.own.j7 s))) with own:=st.own.put s ((st.own s).new b) }
 | .zt s b v=>{ (st.dst d (v (st.own.j7 s))) with own:=st.own.put s ((st.own s).new b) }
 | .eb v o=>{ (st.dst d v) with own:=o }
 | .q5 s x=>{ (st.dst d (.j5 [])) with own:=st.own.put s x }
 | .yd s x v=>{ (st.dst d v) with own:=st.own.put s x }
def FN (st:St):Option (Nat × Bool)->Option Bool
 | none=>some true
 | some (g,want)=>match j4 st.tm g with
  | .bool b=>some (b == want)
  | .j5 []=>some false
  | _=>none
noncomputable def C7 (C:Cl) (o:AI) (st:St):Option St :=
 match FN st o.guard with
 | some true=>(g8 C o.c7 st.ev st.own o.op).map (st.app o.dst)
 | some false=>some (st.dst o.dst (.j5 []))
 | none=>none
noncomputable def DD (C:Cl):List AI->St->Option St
 | [],st=>some st
 | o::r,st=>match C7 C o st with
  | some k7=>DD C r k7
  | none=>none
def ET:D6->Option Nat
 | .w4 s _=>some s
 | .box s _=>some s
 | .alloc s _=>some s
 | .e9 s _ _=>some s
 | .mk s _ _ _ _ _=>some s
 | .oh s _ _ _=>some s
 | .u6 s _ _=>some s
 | .oi s _ _ _ _=>some s
 | .cu s _ _=>some s
 | _=>none
inductive It where
 | code (c:BJ)
 | kv (ts ss:List Nat)
 | g7 (id:Nat)
 | lp (c:BJ)
def DY (id:Nat):List It->Option (List It)
 | .g7 Jp::k=>if Jp=id then some k else DY id k
 | _::k=>DY id k
 | []=>none
def AH.drop (o:AH):List Nat->AH
 | []=>o
 | s::r=>(o.drop r).put s ⟨(o s).j7,λ_=>none⟩
noncomputable def run (C:Cl):Nat->List It->St->Option St
 | 0,_,_=>none
 | _+1,[],st=>some st
 | n+1,.g7 _::k,st=>run C n k st
 | n+1,.kv ts ss::k,st=>run C n k ⟨al st.tm ts,st.own.drop ss⟩
 | n+1,.lp c::k,st=>run C n (.code c :: .lp c::k) st
 | n+1,.code c::k,st=>match c with
  | .skip=>run C n k st
  | .ops l _=>match DD C l st with
   | some k7=>run C n k k7
   | none=>none
  | .dr c ts ss=>run C n (.code c :: .kv ts ss::k) st
  | .scope c=>run C n (.code c::k) st
  | .seq a b=>run C n (.code a :: .code b::k) st
  | .cond c a b=>match st.ev c with
   | .bool true=>run C n (.code a::k) st
   | .bool false=>run C n (.code b::k) st
   | _=>none
  | .block id c=>run C n (.code c :: .g7 id::k) st
  | .loop c=>run C n (.code c :: .lp c::k) st
  | .exit id=>match DY id k with
   | some k'=>run C n k' st
   | none=>none
  | .ret=>some st
def CZ (i:Nat):List AV->Tm
 | []=>[]
 | v::r=>(i,v)::CZ (i+1) r
def JB:AV->Option AV
 | .any=>none
 | .j5 _=>none
 | v=>some v
def FB (st:St):J0->Option AV
 | .tmp t=>JB (j4 st.tm t)
 | .cell t agg n=>match j4 st.tm t with
  | .ptr s u i j=>match st.own.qm s u i j n with
   | some cs=>KD agg cs
   | none=>none
  | _=>none
def IE:List AV->AV
 | [v]=>v
 | vs => .j5 vs
structure Lib where
 fn:Nat->Option AFn
 num:Nat->Nat
instance : CoeFun Lib (λ_ => Nat -> Option AFn) := ⟨Lib.fn⟩
open Classical in
noncomputable def I1 (I:List AV->Option (AV × AH)) (vs:List AV):Option AV :=
 match I vs with
 | some (r,o)=>match VW o false r with
  | some r'=>if A3 r' then some r' else none
  | none=>none
 | none=>none
def Lib.qu (L:Lib) (f:Nat):Bool:=match L f with
 | some fn=>fn.qu
 | none=>false
open Classical in
noncomputable def OP (b:Bool) (I:List AV->Option (AV × AH)) (vs:List AV):Option AV:=match b,vs with
 | true,.sl _ []::vs=>match I1 I (.dh (.bool true)::vs),I1 I (.dh (.bool false)::vs) with
  | some r,some r'=>if r=r' then some r else none
  | _,_=>none
 | _,vs=>I1 I vs
noncomputable def DQ (L:Lib):Nat->Nat->List AV->AH->Option (AV × AH)
 | 0,_,_,_=>none
 | n+1,f,args,own=>match L f with
  | none=>none
  | some fn=>if args.length=fn.ay then
    match run ⟨λ f vs=>OP (L.qu f) (λ vs=>DQ L n f vs AH.emp) vs,DQ L n,L.num⟩ n [.code fn.body] ⟨CZ 0 args,own⟩ with
    | some st=>match fn.res.mapM (FB st) with
     | some vs=>some (IE vs,st.own)
     | none=>none
    | none=>none
   else none
noncomputable def G4 (L:Lib) (n f:Nat) (vs:List AV):Option AV:=OP (L.qu f) (λ vs=>DQ L n f vs AH.emp) vs
noncomputable def C4 (L:Lib) (n:Nat):Cl:=⟨G4 L n,DQ L n,L.num⟩
theorem Z4 (L:Lib) (n f:Nat) (args:List AV) (own:AH):DQ L (n+1) f args own =
  match L f with
  | none=>none
  | some fn=>if args.length=fn.ay then
    match run (C4 L n) n [.code fn.body] ⟨CZ 0 args,own⟩ with
    | some st=>match fn.res.mapM (FB st) with
     | some vs=>some (IE vs,st.own)
     | none=>none
    | none=>none
   else none:=rfl
namespace C
abbrev o (d:Nat) (op:D6):AI:=⟨some d,op,none,[]⟩
abbrev n (op:D6):AI:=⟨none,op,none,[]⟩
abbrev g (d i:Nat) (b:Bool) (op:D6):AI:=⟨some d,op,some (i,b),[]⟩
abbrev m (d s:Nat):AI:=⟨some d,.b7 (.t s),none,[]⟩
abbrev k (v:Int):AQ := .c (.int .i64 v)
abbrev z:AV := .int .i64 0
abbrev q (d:Nat) (c7:List Nat) (op:D6):AI:=⟨some d,op,none,c7⟩
abbrev u (c7:List Nat) (op:D6):AI:=⟨none,op,none,c7⟩
abbrev v (d i:Nat) (b:Bool) (c7:List Nat) (op:D6):AI:=⟨some d,op,some (i,b),c7⟩
abbrev p (l:List AI):BJ := .ops l false
abbrev P (l:List AI):BJ := .ops l true
abbrev d (l:List AI) (ts:List Nat):BJ := .dr (.ops l false) ts []
abbrev e (l:List AI) (ts:List Nat):BJ := .dr (.ops l true) ts []
abbrev s (a b:BJ):BJ := .seq a b
abbrev i (c:AQ) (a b:BJ):BJ := .cond c a b
abbrev b (id:Nat) (c:BJ):BJ := .block id c
abbrev w (c:BJ):BJ := .loop c
abbrev x (id:Nat):BJ := .exit id
instance (i : Nat) : OfNat AQ i := ⟨.t i⟩
end C
end Go.c9
namespace Go.c9
def dW:Value->AV->Bool
 | .int k n,.int k' n'=>k == k'&&n == n'
 | .bool b,.bool b'=>b == b'
 | .slice none 0 0,.nil=>true
 | .string s,.dh (.string s')=>s.data.toList == s'.data.toList
 | _,_=>false
def T8:List Value->List AV->Bool
 | [],[]=>true
 | v::r,a::l=>dW v a&&T8 r l
 | _,_=>false
def kT:Value->AV->Bool
 | .agg cs,.agg l=>T8 cs.toList l
 | v,a=>dW v a
def B4:Operand->AQ->Bool
 | .tmp t,.t n=>t == n
 | .const v,.c a=>kT v a
 | .func g,.c (.fn _ _ g' [])=>g == g'
 | _,_=>false
def EG:List Operand->List AQ->Bool
 | [],[]=>true
 | v::r,a::l=>B4 v a&&EG r l
 | _,_=>false
def TA:Option Operand->Option AQ->Bool
 | none,none=>true
 | some x,some y=>B4 x y
 | _,_=>false
section
variable (P:Program)
def WB (t:TypeId):Option Bool :=
 match P.underlying t with
 | some (.struct _)=>some true
 | some (.array _ _)=>some true
 | some _=>some false
 | none=>none
def JL (t:TypeId) (n:Nat):Bool:=match P.info? t with|some i=>i.size == n|none=>false
def ZQ (t:TypeId) (n:Nat):Bool:=match P.info? t with|some i=>i.bytes == n|none=>false
def XL (t:TypeId) (l:List AV):Bool:=match P.info? t with|some i=>(match i.zero with|some z=>T8 z.cells.toList l|none=>false)|none=>false
def K7 (t:TypeId) (f:TypeId->Bool):Bool:=match P.underlying t with|some (.slice e)=>f e|_=>false
def wO (t:TypeId) (i off n:Nat):Bool:=match P.underlying t with
 | some (.struct fs)=>(match fs[i]? with|some f=>f.offset == off&&JL P f.type n&&n != 0|none=>false)
 | _=>false
def wP (t:TypeId) (i:Nat) (agg:Bool):Bool:=match P.underlying t with
 | some (.struct fs)=>(match fs[i]? with|some f=>WB P f.type == some agg|none=>false)
 | _=>false
def W4 (place:Nat->Option (Nat × Nat)):List (Nat × Operand)->List (Nat × Nat × AQ)->Bool
 | [],[]=>true
 | (i,x)::r,(off,n,y)::l=>place i == some (off,n)&&B4 x y&&W4 place r l
 | _,_=>false
def jG (t:TypeId) (ps:List (Nat × Operand)) (fc:List (Nat × Nat × AQ)):Bool:=match P.underlying t with
 | some (.struct fs)=>(match fs.toList.mapM (λ f=>(P.info? f.type).map λ i=>(f.offset,i.size)) with|some places=>W4 (places.toArray[·]?) ps fc|none=>false)
 | some (.array _ e)=>(match P.info? e with|some ie=>W4 (λ i=>some (i*ie.size,ie.size)) ps fc|none=>false)
 | _=>false
def WL (k:Nat):List (Nat × Operand)->List AQ->Bool
 | [],[]=>true
 | (i,x)::r,y::l=>i == k&&B4 x y&&WL (k+1) r l
 | _,_=>false
def fieldsI:Nat->List Field->Nat->Bool
 | k,[],n=>k == n
 | k, f :: fs, n => f.name != "_" && f.offset == k && (match P.underlying f.type with | some (.int _) => true | _ => false) && fieldsI (k + 1) fs n
def lO (t:TypeId) (n:Nat):Bool:=(match P.underlying t with|some (.struct fs)=>fieldsI P 0 fs.toList n|_=>false) && !P.stoodInHeld t && !P.eqGuardType P.depth t
def BD (num:Nat->Nat) (op:Op):D6->Bool
 | .b7 y=>match op with | .move x=>B4 x y | .assign x=>B4 x y|_=>false
 | .w4 _ z=>z != 0&&(match op with | .move (.const (.slice none 0 0))=>true | .assign (.const (.slice none 0 0))=>true|_=>false)
 | .pick c' a' b'=>match op with | .pick c a b=>B4 c c'&&B4 a a'&&B4 b b'|_=>false
 | .bin Dj x' y'=>match op with | .binOp op _ x y _=>op == Dj&&B4 x x'&&B4 y y'|_=>false
 | .beq ne x' y'=>match op with | .binOp op t x y _=>(if ne then op == .neq else op == .eql)&&(match P.underlying t with|some .bool=>true|_=>false)&&B4 x x'&&B4 y y'|_=>false
 | .un Dj x'=>match op with | .unOp op _ x=>op == Dj&&B4 x x'|_=>false
 | .conv k x'=>match op with | .convert s d x=>(P.underlying s).isSome&&(match P.underlying d with|some (.int k')=>k == k'|_=>false)&&B4 x x'|_=>false
 | .box _ x'=>match op with | .box _ x=>B4 x x'|_=>false
 | .alloc _ z=>match op with | .alloc t=>XL P t z|_=>false
 | .build z fc=>match op with | .build t ps=>XL P t z&&jG P t ps.toList fc|_=>false
 | .e9 _ b9 fc=>match op with
  | .buildSlice t n ps=>K7 P t (λ e=>JL P e b9)&&b9 != 0&&n == fc.length&&decide (n*b9<=16777216)&&WL 0 ps.toList fc&&(n == 0||K7 P t (λ e=>match P.info? e with|some i=>(match i.zero with|some z=>z.cells.size == b9|none=>false)|none=>false))
  | _=>false
 | .a7 x' off=>match op with
  | .fieldAddr s x f=>B4 x x'&&(match P.underlying s with|some (.struct fs)=>(match fs[f]? with|some fd=>fd.offset == off&&(match P.info? fd.type with|some i=>i.size != 0|none=>false)|none=>false)|_=>false)
  | _=>false
 | .om x' off n agg=>match op with | .field t x f=>B4 x x'&&wO P t f off n&&wP P t f agg|_=>false
 | .a5 arr b9 x' i'=>match op with
  | .indexAddr t x i=>B4 x x'&&B4 i i'&&(match P.underlying t,arr with|some (.array len e),some tv=>len == tv&&JL P e b9&&decide (1<len)|some (.slice e),none=>JL P e b9&&b9 != 0|_,_=>false)
  | _=>false
 | .ld agg n x'=>match op with | .load t x=>B4 x x'&&WB P t == some agg&&(if agg then JL P t n else n == 1)|_=>false
 | .uq agg n x'=>match op with | .load t x=>B4 x x'&&WB P t == some agg&&(if agg then JL P t n else n == 1)|_=>false
 | .st n x' v'=>match op with | .store t x v=>B4 x x'&&B4 v v'&&JL P t n|_=>false
 | .mk _ b9 bytes z l' c'=>match op with
  | .makeSlice t l c=>B4 l l'&&B4 c c'&&K7 P t (λ e=>JL P e b9&&ZQ P e bytes&&XL P e z)&&b9 != 0
  | _=>false
 | .fx b9 x' pn o7=>match op with
  | .slice t x lo hi none=>B4 x x'&&TA lo pn&&TA hi o7&&K7 P t (λ e=>JL P e b9)&&b9 != 0
  | _=>false
 | .ext x' i'=>match op with | .extract x i=>B4 x x'&&i == i'|_=>false
 | .len x'=>match op with
  | .call ⟨.builtin .len,xs,ts⟩=>(match xs.toList,ts.toList with|[x],[t]=>B4 x x'&&K7 P t (λ_=>true)|_,_=>false)
  | _=>false
 | .mm max n6=>match op with
  | .call ⟨.builtin .min,xs,_⟩ => !max&&EG xs.toList n6
  | .call ⟨.builtin .max,xs,_⟩=>max&&EG xs.toList n6
  | _=>false
 | .app _ b9 bytes x' y'=>match op with
  | .call ⟨.builtin .append,xs,ts⟩=>(match xs.toList,ts.toList with
   | [x,y],[t,u]=>B4 x x'&&B4 y y'&&K7 P t (λ e=>JL P e b9&&ZQ P e bytes&&(match P.info? e with|some i=>(match i.zero with|some z=>z.cells.size == b9|none=>false)|none=>false))&&b9 != 0&&K7 P u (λ_=>true)
   | _,_=>false)
  | _=>false
 | .call f' n6=>match op with
  | .call ⟨.value (.func f),xs,_⟩=>f == num f'&&EG xs.toList n6
  | _=>false
 | .g9 f' n6=>match op with
  | .call ⟨.value (.func f),xs,_⟩=>f == num f'&&EG xs.toList n6
  | _=>false
 | .cu _ f' n6=>match op with
  | .call ⟨.value (.func f),xs,_⟩=>f == num f'&&EG xs.toList n6
  | _=>false
 | .tu ne x'=>match op with
  | .binOp op t x (.const (.slice none 0 0)) _=>(if ne then op == .neq else op == .eql)&&K7 P t (λ_=>true)&&B4 x x'
  | _=>false
 | .bad=>true
 | .fm x'=>match op with
  | .call ⟨.builtin .cap,xs,ts⟩=>(match xs.toList,ts.toList with|[x],[t]=>B4 x x'&&K7 P t (λ_=>true)|_,_=>false)
  | _=>false
 | .oi _ b9 bytes x' y'=>match op with
  | .call ⟨.builtin .append,xs,ts⟩=>(match xs.toList,ts.toList with
   | [x,y],[t,u]=>B4 x x'&&B4 y y'&&K7 P t (λ e=>JL P e b9&&ZQ P e bytes&&(match P.info? e with|some i=>(match i.zero with|some z=>z.cells.size == b9|none=>false)|none=>false))&&b9 != 0&&(match P.underlying u with|some (.int _)=>true|_=>false)
   | _,_=>false)
  | _=>false
 | .gv tb i'=>match op with
  | .index t (.const (.string s)) i=>(match P.underlying t with|some .string=>true|_=>false)&&s.data.toList.map (λ b=>b.toNat) == tb&&B4 i i'
  | _=>false
 | .qo _ f' n6=>match op with
  | .makeFunc (.func f) first xs=>f == num f'&&first.toList.isEmpty&&EG xs.toList n6
  | _=>false
 | .sd f' x'=>match op with
  | .makeFunc (.func f) first xs=>f == num f'&&(match first.toList with|[x]=>B4 x x'|_=>false)&&xs.toList.isEmpty
  | _=>false
 | .m7 f' n6=>match op with
  | .call ⟨.value (.func f),xs,_⟩=>f == num f'&&EG xs.toList n6
  | _=>false
 | .sf ne n x' y'=>match op with | .binOp op t x y _=>(if ne then op == .neq else op == .eql)&&lO P t n&&B4 x x'&&B4 y y'|_=>false
 | .u6 _ f' n6=>match op with
  | .call ⟨.value (.func f),xs,_⟩=>f == num f'&&EG xs.toList n6
  | _=>false
 | .oh _ n x' v'=>match op with | .store t x v=>B4 x x'&&B4 v v'&&JL P t n|_=>false
 | .n0 x' n6=>match op with
  | .call ⟨.value x,xs,_⟩=>B4 x x'&&EG xs.toList n6
  | _=>false
def aS (ops:Array Oper):Option (Nat × Bool)->Option (Nat × Bool)->Bool
 | none,none=>true
 | some (j,b),some (t,b')=>b == b'&&(match ops[j]? with|some o=>o.dst == some t|none=>false)
 | _,_=>false
def fK (num:Nat->Nat) (N:Nat) (ops:Array Oper) (o:Oper) (a:AI):Bool :=
 o.dst == a.dst&&(match a.dst with|some d=>decide (d<N)|none=>true)&&aS ops o.guard a.guard&&BD P num o.op a.op
def UM (num:Nat->Nat) (N:Nat) (ops:Array Oper):List Oper->List AI->Bool
 | [],[]=>true
 | o::r,a::l=>fK P num N ops o a&&UM num N ops r l
 | _,_=>false
def GZ:D6->Bool
 | .st .. | .app .. | .g9 .. | .n0 .. => true
 | _=>false
def bD:D6->Bool
 | .ld .. | .call .. | .u6 .. => true
 | _=>false
def OK (a:D6):Bool:=GZ a||bD a||(ET a).isSome
def C0:AQ->List Nat
 | .t n=>[n]
 | .c _=>[]
def nM:Option AQ->List Nat
 | some x=>C0 x
 | none=>[]
def HA:D6->List Nat
 | .b7 x=>C0 x
 | .w4 _ _=>[]
 | .pick c a b=>C0 c++C0 a++C0 b
 | .bin _ x y=>C0 x++C0 y
 | .beq _ x y=>C0 x++C0 y
 | .un _ x=>C0 x
 | .conv _ x=>C0 x
 | .box _ x=>C0 x
 | .alloc _ _=>[]
 | .build _ ps=>ps.flatMap (λ p=>C0 p.2.2)
 | .e9 _ _ ps=>ps.flatMap C0
 | .a7 x _=>C0 x
 | .om x _ _ _=>C0 x
 | .a5 _ _ x i=>C0 x++C0 i
 | .ld _ _ x=>C0 x
 | .uq _ _ x=>C0 x
 | .st _ x v=>C0 x++C0 v
 | .mk _ _ _ _ l c=>C0 l++C0 c
 | .fx _ x lo hi=>C0 x++nM lo++nM hi
 | .ext x _=>C0 x
 | .len x=>C0 x
 | .mm _ xs=>xs.flatMap C0
 | .app _ _ _ x y=>C0 x++C0 y
 | .call _ xs=>xs.flatMap C0
 | .g9 _ xs=>xs.flatMap C0
 | .tu _ x=>C0 x
 | .gv _ x=>C0 x
 | .qo _ _ xs=>xs.flatMap C0
 | .sd _ x=>C0 x
 | .n0 x xs=>C0 x++xs.flatMap C0
 | .m7 _ xs=>xs.flatMap C0
 | .oh _ _ x v=>C0 x++C0 v
 | .u6 _ _ xs=>xs.flatMap C0
 | .cu _ _ xs=>xs.flatMap C0
 | .sf _ _ x y=>C0 x++C0 y
 | .bad=>[]
 | .fm x=>C0 x
 | .oi _ _ _ x y=>C0 x++C0 y
def YR (x:AI):List Nat:=HA x.op++(match x.guard with|some (g,_)=>[g]|none=>[])++x.dst.toList
def IZ (b:Array Nat) (i j:Nat):Bool:=(b.getD (max i j) 0).testBit (min i j)
def Rf (b:Array Nat) (x:AI) (i:Nat) (y:AI) (j:Nat):Bool :=
 i == j||IZ b i j ||
  ((match y.dst with|some t => !(YR x).contains t|none=>true) &&
   (!GZ x.op || !OK y.op) &&
   (!bD x.op||(match ET y.op with|some s=>x.c7.contains s|none=>true)) )
def WJ (ops:Array Oper) (l:List AI):Bool :=
 let b:=Region.before ops
 (l.zipIdx.all λ(x,i)=>l.zipIdx.all λ(y,j)=>Rf b x i y j&&(i == j||IZ b i j||(match ET x.op,ET y.op with|some s,some s'=>s != s'|_,_=>true))) &&
 (ops.toList.zipIdx.all λ(o,i)=>o.after.all λ e=>decide (e.on<i)||(match e.ground with | .gcOnly _=>true|_=>false)) &&
 (!Region.departs ops||(List.range ops.size).all (λ i=>(Region.linearise .gc ops 0).contains i))
def EZ (num:Nat->Nat) (N:Nat):Code->BJ->Bool
 | c,.dr a _ _=>EZ num N c a
 | c',.skip=>match c' with | .skip=>true | .label _=>true|_=>false
 | c',.scope a=>match c' with | .scope c=>EZ num N c a|_=>false
 | c',.ops l qz=>match c' with | .region _ ops draw=>draw == qz&&UM P num N ops ops.toList l&&(!draw||WJ ops l)|_=>false
 | c',.seq a' b'=>match c' with | .seq a b=>EZ num N a a'&&EZ num N b b'|_=>false
 | c',.cond x' a' b'=>match c' with | .cond x a b=>B4 x x'&&EZ num N a a'&&EZ num N b b'|_=>false
 | c',.block i' a=>match c' with | .block i c=>i == i'&&EZ num N c a|_=>false
 | c',.loop a=>match c' with | .loop c=>EZ num N c a|_=>false
 | c',.exit i'=>match c' with | .exit i=>i == i'|_=>false
 | c',.ret=>match c' with | .ret=>true|_=>false
def QG:List ResultVar->List J0->Bool
 | [],[]=>true
 | .tmp t::r,.tmp t'::l=>t == t'&&QG r l
 | .cell a t::r,.cell a' agg n::l=>a == a'&&WB P t == some agg&&(if agg then JL P t n else n == 1)&&QG r l
 | _,_=>false
def okFn (num:Nat->Nat) (fn:Func) (a:AFn):Bool :=
 fn.params.size+fn.nfree == a.ay&&decide (a.ay<=fn.ntmps)&&QG P fn.results.toList a.res&&(match fn.body with|some c=>EZ P num fn.ntmps c a.body|none=>false)
end
end Go.c9

namespace Go.c9
open Go.RowKit
theorem HL (b o n:Nat):(⟨b,o,none⟩:Addr).add n=⟨b,o+n,none⟩:=by
 unfold Addr.add;split<;>simp_all
inductive Rd (w:World) (R:Bool->Nat->Prop):AV->Value->Prop
 | int (k:IntKind) (n:Int):Rd w R (.int k n) (.int k n)
 | bool (b:Bool):Rd w R (.bool b) (.bool b)
 | str (s:ByteArray):Rd w R (.dh (.string s)) (.string s)
 | jv (l:Bool) (a:Option Addr) (cap:Nat):Rd w R (.sl l []) (.slice a 0 cap)
 | emp (b:Bool) (a:Option Addr) (cap:Nat) (h:a.isNone=b):Rd w R (.dh (.bool b)) (.slice a 0 cap)
 | sl (l:Bool) (es:List (List AV)) (b o b9 cap:Nat) (u:Nat->Nat->Value) (m5:es≠[]) (hp:0<b9) (hR:R l b) (ah:es.length<=cap) (hz : ∀ e∈es,e.length=b9)
   (hc : ∀ i e,es[i]? = some e -> ∀ j c,e[j]? = some c->w.cell? ⟨b,o+(i*b9+j),none⟩=some (u i j))
   (hr : ∀ i e,es[i]? = some e -> ∀ j c,e[j]? = some c->Rd w R c (u i j)) :
   Rd w R (.sl l es) (.slice (some ⟨b,o,none⟩) es.length cap)
theorem Rd.one {w:World} {R:Bool->Nat->Prop} {a:AV} {v:Value} (h:Rd w R a v):v.oneCell'=true:=by
 cases h<;>rfl
theorem WE {w:World} {a:Addr} {u:Value} (h:w.cell? a=some u):a.block<w.heap.size:=by
 unfold World.cell? at h;split at h
 ·rename_i hh
  exact (Array.getElem?_eq_some_iff.1 hh).1
 ·cases h
theorem aE {es:List (List AV)} {b9:Nat} (m5:es≠[]) (hp:0<b9) (hz : ∀ e∈es,e.length=b9) : ∃ e c,es[0]? = some e/\e[0]? = some c:=by
 cases es with
 | nil=>exact absurd rfl m5
 | cons e r =>
  have:=hz e (by simp)
  cases e with
  | nil=>simp at this;omega
  | cons c q=>exact ⟨c::q,c,rfl,rfl⟩
theorem Rd.mono {w w':World} {R R':Bool->Nat->Prop} (hR : ∀ l b,b<w.heap.size->R l b->R' l b)
  (hw : ∀ l b,b<w.heap.size->R l b->w'.heap[b]? = w.heap[b]?) {a:AV} {v:Value} (h:Rd w R a v):Rd w' R' a v:=by
 induction h with
 | int k n=>exact .int k n
 | bool b=>exact .bool b
 | str s=>exact .str s
 | jv l a cap=>exact .jv l a cap
 | emp b a cap h=>exact .emp b a cap h
 | sl l es b o b9 cap u m5 hp h1 ah hz hc hr ih =>
  obtain ⟨e,c,he,ja⟩:=aE m5 hp hz;have hb:b<w.heap.size:=WE (hc 0 e he 0 c ja);refine .sl l es b o b9 cap u m5 hp (hR l b hb h1) ah hz (λ i e he j c yq => ?_) ih;rw[World.cell?_of_block (w:=w) (hw l b hb h1)];exact hc i e he j c yq
structure M where
 ν:Nat->Nat->Option Nat
 own:AH
 w:World
section
variable (B:Nat) (S:Nat->Prop)
def safe (m:M) (l:Bool) (b:Nat):Prop :=
 (S b/\b<B)\/(B<=b /\ ∀ s t,(m.own.get s t).isSome=true->m.ν s t≠some b)\/(l=true/\b<B)
inductive CC (m:M):AV->Value->Prop
 | rd {a:AV} {v:Value} (h:Rd m.w (safe B S m) a v):CC m a v
 | nil:CC m .nil (.slice none 0 0)
 | row (s t z off len:Nat) (a:Option Addr) (cap:Nat) (ht:t<m.own.j7 s) (dv:0<z) (mg:len<=cap) (ha:0<len->a.isSome=true)
   (h : ∀ b,m.own.get s t=some b->b.b9=z/\((len=0/\cap=0) \/ ∃ g arr e,m.ν s t=some g/\a=some ⟨g,off*z,none⟩/\m.w.heap[g]? = some (.cells arr e (0,0))/\(off+cap)*z<=arr.size)) :
   CC m (.row s t z off len) (.slice a len cap)
 | ptr (s t i j:Nat) (a:Addr) (ht:t<m.own.j7 s) (h : ∀ b,m.own.get s t=some b -> ∃ g,m.ν s t=some g/\a=⟨g,i*b.b9+j,none⟩):CC m (.ptr s t i j) (.pointer (some a))
 | u5 (cs:List AV) (b o:Nat) (u:Nat->Value) (l:Bool) (hR:cs≠[]->safe B S m l b) (hc : ∀ j c,cs[j]? = some c->m.w.cell? ⟨b,o+j,none⟩=some (u j)) (hr : ∀ j c,cs[j]? = some c->Rd m.w (safe B S m) c (u j)) :
   CC m (.u5 cs) (.pointer (some ⟨b,o,none⟩))
def CL (m:M) (cs:List AV) (vs:List Value):Prop:=cs.length=vs.length /\ ∀ (j:Nat) (c:AV) (v:Value),cs[j]? = some c->vs[j]? = some v->CC B S m c v
inductive CA (m:M):AV->Value->Prop
 | one {a:AV} {v:Value} (h:CC B S m a v):CA m a v
 | agg (cs:List AV) (vs:List Value) (h:CL B S m cs vs):CA m (.agg cs) (.agg vs.toArray)
 | fn (p:Bool) (f g:Nat) (cs:List AV) (vs:List Value) (hp:p=true->cs=[]) (h:CL B S m cs vs):CA m (.fn p f g cs) (.func (.func g) #[] vs.toArray)
 | ua (f g:Nat) (cs:List AV) (vs:List Value) (hp:cs≠[]) (h:CL B S m cs vs):CA m (.fn true f g cs) (.func (.func g) #[.agg vs.toArray] #[])
inductive CV (m:M):AV->Value->Prop
 | any (v:Value):CV m .any v
 | ca {a:AV} {v:Value} (h:CA B S m a v):CV m a v
 | j5 (as:List AV) (vs:List Value) (hl:as.length=vs.length) (h : ∀ (j:Nat) (c:AV) (v:Value),as[j]? = some c->vs[j]? = some v->CA B S m c v):CV m (.j5 as) (.tuple vs.toArray)
def Acy (m:M) (s t:Nat) (b:EC):Prop :=
 (∀ e∈b.es,e.length=b.b9)/\match m.ν s t with
  | none=>b.es=[]
  | some g=>B<=g /\ ∃ arr e,m.w.heap[g]? = some (.cells arr e (0,0)) /\
    ∀ i cs,b.es[i]? = some cs -> ∀ j c,cs[j]? = some c -> ∃ u,arr[i*b.b9+j]? = some u/\CC B S m c u
structure BU (w0:World) (m:M):Prop where
 below:Below B w0 m.w
 size:B<=m.w.heap.size
 fresh : ∀ s t,m.own.j7 s<=t->m.own.get s t=none
 g7 : ∀ s t b,m.own.get s t=some b->Acy B S m s t b
 inj : ∀ s t s' t' b b' g,m.own.get s t=some b->m.own.get s' t'=some b'->m.ν s t=some g->m.ν s' t'=some g->s=s'/\t=t'
structure DL (m m':M):Prop where
 size:m.w.heap.size<=m'.w.heap.size
 wv : ∀ b,b<m.w.heap.size->safe B S m true b->m'.w.heap[b]? = m.w.heap[b]?
 Bh : ∀ l b,b<m.w.heap.size->safe B S m l b->safe B S m' l b
 j7 : ∀ s,m.own.j7 s<=m'.own.j7 s
 name : ∀ s t b',t<m.own.j7 s->m'.own.get s t=some b' -> ∃ b,m.own.get s t=some b/\b'.b9=b.b9/\m'.ν s t=m.ν s t /\
   ∀ g arr e,m.ν s t=some g->m.w.heap[g]? = some (.cells arr e (0,0)) -> ∃ u9,m'.w.heap[g]? = some (.cells u9 e (0,0))/\u9.size=arr.size
end
section
variable {B:Nat} {S:Nat->Prop}
theorem oJ {m:M} {l:Bool} {b:Nat} (h:safe B S m l b):safe B S m true b:=by
 rcases h with h|h|⟨_,h⟩
 ·exact .inl h
 ·exact .inr (.inl h)
 ·exact .inr (.inr ⟨rfl,h⟩)
theorem DL.rd {m m':M} (h:DL B S m m') {a:AV} {v:Value} (hr:Rd m.w (safe B S m) a v):Rd m'.w (safe B S m') a v :=
 hr.mono h.Bh (λ_ b hb hs=>h.wv b hb (oJ hs))
theorem DL.cc {m m':M} (h:DL B S m m') {a:AV} {v:Value} (hc:CC B S m a v):CC B S m' a v:=by
 cases hc with
 | rd hr=>exact .rd (h.rd hr)
 | nil=>exact .nil
 | row s t z off len a cap ht dv mg ha hb =>
  refine .row s t z off len a cap (Nat.lt_of_lt_of_le ht (h.j7 s)) dv mg ha λ b' l7 => ?_
  obtain ⟨b,h1,h2,h3,h4⟩:=h.name s t b' ht l7;obtain ⟨hz,bh⟩:=hb b h1;refine ⟨h2.trans hz,?_⟩;rcases bh with h0|⟨g,arr,e,hg,ma,hh,hle⟩
  ·exact .inl h0
  ·obtain ⟨u9,Lc,tl⟩:=h4 g arr e hg hh
   exact .inr ⟨g,u9,e,h3.trans hg,ma,Lc,tl ▸ hle⟩
 | ptr s t i j a ht hb =>
  refine .ptr s t i j a (Nat.lt_of_lt_of_le ht (h.j7 s)) λ b' l7 => ?_
  obtain ⟨b,h1,h2,h3,_⟩:=h.name s t b' ht l7;obtain ⟨g,hg,ma⟩:=hb b h1;exact ⟨g,h3.trans hg,h2 ▸ ma⟩
 | u5 cs b o u l hR hc hr =>
  have l9:cs≠[]->b<m.w.heap.size:=λ m5=>by
   cases cs with
   | nil=>exact absurd rfl m5
   | cons c r=>exact WE (hc 0 c rfl)
  refine .u5 cs b o u l (λ m5=>h.Bh l b (l9 m5) (hR m5)) (λ j c hj => ?_) (λ j c hj=>h.rd (hr j c hj));have m5:cs≠[]:=λ e=>by subst e;simp at hj
  rw[World.cell?_of_block (w:=m.w) (h.wv b (l9 m5) (oJ (hR m5)))];exact hc j c hj
theorem DL.cl {m m':M} (h:DL B S m m') {cs:List AV} {vs:List Value} (hc:CL B S m cs vs):CL B S m' cs vs :=
 ⟨hc.1,λ j c v h1 h2=>h.cc (hc.2 j c v h1 h2)⟩
theorem DL.ca {m m':M} (h:DL B S m m') {a:AV} {v:Value} (hc:CA B S m a v):CA B S m' a v:=by
 cases hc with
 | one hc=>exact .one (h.cc hc)
 | agg cs vs hc=>exact .agg cs vs (h.cl hc)
 | fn p f g cs vs hp hc=>exact .fn p f g cs vs hp (h.cl hc)
 | ua f g cs vs hp hc=>exact .ua f g cs vs hp (h.cl hc)
theorem DL.cv {m m':M} (h:DL B S m m') {a:AV} {v:Value} (hc:CV B S m a v):CV B S m' a v:=by
 cases hc with
 | any v=>exact .any v
 | ca hc=>exact .ca (h.ca hc)
 | j5 as vs hl hc=>exact .j5 as vs hl λ j c v h1 h2=>h.ca (hc j c v h1 h2)
theorem DL.refl (m:M):DL B S m m :=
 ⟨Nat.le_refl _,λ_ _ _=>rfl,λ_ _ _ h=>h,λ_=>Nat.le_refl _,λ_ _ b' _ h=>⟨b',h,rfl,rfl,λ_ arr _ _ h=>⟨arr,h,rfl⟩⟩⟩
theorem DL.trans {m m' Wz:M} (h:DL B S m m') (k:DL B S m' Wz):DL B S m Wz where
 size:=Nat.le_trans h.size k.size
 wv b hb hs:=(k.wv b (Nat.lt_of_lt_of_le hb h.size) (h.Bh true b hb hs)).trans (h.wv b hb hs)
 Bh l b hb hs:=k.Bh l b (Nat.lt_of_lt_of_le hb h.size) (h.Bh l b hb hs)
 j7 s:=Nat.le_trans (h.j7 s) (k.j7 s)
 name s t b'' ht Lg:=by
  obtain ⟨b',h1,h2,h3,h4⟩:=k.name s t b'' (Nat.lt_of_lt_of_le ht (h.j7 s)) Lg;obtain ⟨b,g1,g2,g3,g4⟩:=h.name s t b' ht h1;refine ⟨b,g1,h2.trans g2,h3.trans g3,λ g arr e hg ha => ?_⟩;obtain ⟨u9,Lc,tl⟩:=g4 g arr e hg ha;obtain ⟨Es,Ld,Nr⟩:=h4 g u9 e (g3.trans hg) Lc;exact ⟨Es,Ld,Nr.trans tl⟩
theorem CC.one {m:M} {a:AV} {v:Value} (h:CC B S m a v):v.oneCell'=true:=by
 cases h with
 | rd h=>exact h.one
 | _=>rfl
end
end Go.c9

namespace Go.c9
open Go.RowKit
section
variable {B:Nat} {S:Nat->Prop} {w0:World}
def live (m:M) (s t:Nat):Prop := ∃ b,m.own.get s t=some b
theorem BU.ge {m:M} (h:BU B S w0 m) {s t g:Nat} (hl:live m s t) (hg:m.ν s t=some g):B<=g /\ ∃ arr e,m.w.heap[g]? = some (.cells arr e (0,0)):=by
 obtain ⟨b,hb⟩:=hl;obtain ⟨_,h2⟩:=h.g7 s t b hb;rw[hg]at h2;obtain ⟨h3,arr,e,h4,_⟩:=h2;exact ⟨h3,arr,e,h4⟩
theorem WQ {m m':M} (hm:BU B S w0 m) (hs:m.w.heap.size<=m'.w.heap.size)
  (hk : ∀ b,b<m.w.heap.size->(∀ s t,live m s t->m.ν s t≠some b)->m'.w.heap[b]? = m.w.heap[b]?) (Ci : ∀ s,m.own.j7 s<=m'.own.j7 s)
  (Gu : ∀ s t b',t<m.own.j7 s->m'.own.get s t=some b' -> ∃ b,m.own.get s t=some b/\b'.b9=b.b9/\m'.ν s t=m.ν s t /\
   ∀ g arr e,m.ν s t=some g->m.w.heap[g]? = some (.cells arr e (0,0)) -> ∃ u9,m'.w.heap[g]? = some (.cells u9 e (0,0))/\u9.size=arr.size)
  (mi : ∀ s t g,live m' s t->m'.ν s t=some g->g<m.w.heap.size -> ∃ s0 t0,live m s0 t0/\m.ν s0 t0=some g):DL B S m m':=by
 have Ar : ∀ b,safe B S m true b -> ∀ s t,live m s t->m.ν s t≠some b:=by
  intro b hb s t hl hg;have kg:=(hm.ge hl hg).1;rcases hb with ⟨_,h⟩|⟨_,h⟩|⟨_,h⟩
  ·omega
  ·obtain ⟨b',l7⟩:=hl
   exact h s t (by simp [l7]) hg
  ·omega
 refine ⟨hs,λ b hb wg=>hk b hb (Ar b wg),λ l b hb wg => ?_,Ci,Gu⟩;rcases wg with h|⟨h,hn⟩|h
 ·exact .inl h
 ·refine .inr (.inl ⟨h,λ s t hl hg => ?_⟩)
  obtain ⟨b',l7⟩:=Option.isSome_iff_exists.1 hl;obtain ⟨s0,t0,⟨b0,ub⟩,Cp⟩:=mi s t b ⟨b',l7⟩ hg hb;exact hn s0 t0 (by simp [ub]) Cp
 ·exact .inr (.inr h)
theorem grow {m:M} (hm:BU B S w0 m) {w':World} (hb:Below m.w.heap.size m.w w') :
  BU B S w0 ⟨m.ν,m.own,w'⟩/\DL B S m ⟨m.ν,m.own,w'⟩:=by
 have he:DL B S m ⟨m.ν,m.own,w'⟩:=by
  refine WQ hm hb.size (λ b l7 _=>hb.block b l7) (λ_=>Nat.le_refl _) (λ s t b' _ l7=>⟨b',l7,rfl,rfl,λ g arr e hg ha=>⟨arr,?_,rfl⟩⟩) (λ s t g hl hg _=>⟨s,t,hl,hg⟩);have:g<m.w.heap.size:=(Array.getElem?_eq_some_iff.1 ha).1
  exact (hb.block g this).trans ha
 refine ⟨⟨hm.below.trans (hb.mono hm.size),Nat.le_trans hm.size hb.size,hm.fresh,λ s t b hg => ?_,hm.inj⟩,he⟩;obtain ⟨h1,h2⟩:=hm.g7 s t b hg;refine ⟨h1,?_⟩;show match m.ν s t with|none=>_|some g=>_
 cases hν:m.ν s t with
 | none=>rw[hν]at h2;exact h2
 | some g =>
  rw[hν]at h2;obtain ⟨h3,arr,e,h4,h5⟩:=h2;refine ⟨h3,arr,e,?_,λ i cs hi j c hj => ?_⟩
  ·exact (hb.block g (Array.getElem?_eq_some_iff.1 h4).1).trans h4
  ·obtain ⟨u,hu,z0⟩:=h5 i cs hi j c hj
   exact ⟨u,hu,he.cc z0⟩
theorem GF (o:AH) (s s' t':Nat) (b:EC):(o.put s ((o s).new b)).get s' t'=if s'=s/\t'=o.j7 s then some b else o.get s' t':=by
 unfold AH.get AH.put CF.new AH.j7;by_cases h:s'=s
 ·subst h
  by_cases h2:t'=(o s').j7<;>simp [h2]
 ·simp [h]
theorem O2 (o:AH) (s s':Nat) (b:EC):(o.put s ((o s).new b)).j7 s'=if s'=s then o.j7 s+1 else o.j7 s':=by
 unfold AH.j7 AH.put CF.new;by_cases h:s'=s<;>simp [h]
theorem aI (o:AH) (s t s' t':Nat) (b:Option EC):(o.put s ((o s).q5 t b)).get s' t'=if s'=s/\t'=t then b else o.get s' t':=by
 unfold AH.get AH.put CF.q5;by_cases h:s'=s
 ·subst h
  by_cases h2:t'=t<;>simp [h2]
 ·simp [h]
theorem tD (o:AH) (s t s':Nat) (b:Option EC):(o.put s ((o s).q5 t b)).j7 s'=o.j7 s':=by
 unfold AH.j7 AH.put CF.q5;by_cases h:s'=s<;>simp [h]
def j8 (m:M) (s:Nat) (g:Option Nat):Nat->Nat->Option Nat:=λ s' t'=>if s'=s/\t'=m.own.j7 s then g else m.ν s' t'
theorem fH {m:M} (hm:BU B S w0 m) (s:Nat) : ¬ live m s (m.own.j7 s):=λ⟨b,hb⟩=>by
 rw[hm.fresh s _ (Nat.le_refl _)]at hb;cases hb
theorem cU {m:M} (hm:BU B S w0 m) (s:Nat) (b:EC) (arr:Array Value) (e:TypeId) (hz : ∀ x∈b.es,x.length=b.b9)
  (hc : ∀ i cs,b.es[i]? = some cs -> ∀ j c,cs[j]? = some c -> ∃ u,arr[i*b.b9+j]? = some u/\CC B S m c u) :
  BU B S w0 ⟨j8 m s (some m.w.heap.size),m.own.put s ((m.own s).new b),m.w.alloc (.cells arr e)⟩ /\
  DL B S m ⟨j8 m s (some m.w.heap.size),m.own.put s ((m.own s).new b),m.w.alloc (.cells arr e)⟩:=by
 have v9:(m.w.alloc (.cells arr e)).heap.size=m.w.heap.size+1:=by simp
 have hν : ∀ s' t',live m s' t'->j8 m s (some m.w.heap.size) s' t'=m.ν s' t':=λ s' t' hl=>by
  unfold j8;rw[if_neg];rintro ⟨rfl,rfl⟩
  exact fH hm _ hl
 have he:DL B S m ⟨j8 m s (some m.w.heap.size),m.own.put s ((m.own s).new b),m.w.alloc (.cells arr e)⟩:=by
  refine WQ hm (by rw[v9];omega) (λ k hk _=>Below.heap_alloc _ _ _ hk) (λ s' => ?_) (λ s' t' b' ht l7 => ?_) (λ s' t' g hl hg l9 => ?_)
  ·rw[O2];split
   ·rename_i h;subst h;omega
   ·exact Nat.le_refl _
  ·rw[GF]at l7
   rw[if_neg (by rintro ⟨rfl,rfl⟩;omega)]at l7;refine ⟨b',l7,rfl,hν s' t' ⟨b',l7⟩,λ g ar e' hg ha=>⟨ar,?_,rfl⟩⟩;exact (Below.heap_alloc _ _ _ (Array.getElem?_eq_some_iff.1 ha).1).trans ha
  ·obtain ⟨b',l7⟩:=hl
   have u7:=l7;rw[GF]at l7;by_cases h:s'=s/\t'=m.own.j7 s
   ·simp only[j8,if_pos h,Option.some.injEq]at hg
    omega
   ·rw[if_neg h]at l7
    exact ⟨s',t',⟨b',l7⟩,by rw[<-hν s' t' ⟨b',l7⟩];exact hg⟩
 refine ⟨⟨hm.below.alloc hm.size _,by rw[v9];have:=hm.size;omega,λ s' t' ht => ?_,λ s' t' b' l7 => ?_,λ s1 t1 s2 t2 b1 b2 g h1 h2 g1 g2 => ?_⟩,he⟩
 ·rw[O2]at ht
  rw[GF,if_neg]
  ·refine hm.fresh s' t' ?_
   split at ht
   ·rename_i h;subst h;omega
   ·exact ht
  ·rintro ⟨rfl,rfl⟩
   simp at ht;omega
 ·rw[GF]at l7
  by_cases h:s'=s/\t'=m.own.j7 s
  ·rw[if_pos h]at l7
   obtain rfl:b=b':=by simpa using l7
   refine ⟨hz,?_⟩;show match j8 m s (some m.w.heap.size) s' t' with|none=>_|some g=>_
   rw[show j8 m s (some m.w.heap.size) s' t'=some m.w.heap.size by simp [j8,h]];refine ⟨hm.size,arr,e,heap_alloc_new _ _,λ i cs hi j c hj => ?_⟩;obtain ⟨u,hu,z0⟩:=hc i cs hi j c hj;exact ⟨u,hu,he.cc z0⟩
  ·rw[if_neg h]at l7
   obtain ⟨h1,h2⟩:=hm.g7 s' t' b' l7;refine ⟨h1,?_⟩;show match j8 m s (some m.w.heap.size) s' t' with|none=>_|some g=>_
   rw[hν s' t' ⟨b',l7⟩];cases hv:m.ν s' t' with
   | none=>rw[hv]at h2;exact h2
   | some g =>
    rw[hv]at h2;obtain ⟨h3,ar,e',h4,h5⟩:=h2;refine ⟨h3,ar,e',(Below.heap_alloc _ _ _ (Array.getElem?_eq_some_iff.1 h4).1).trans h4,λ i cs hi j c hj => ?_⟩;obtain ⟨u,hu,z0⟩:=h5 i cs hi j c hj;exact ⟨u,hu,he.cc z0⟩
 ·rw[GF]at h1 h2
  have lt : ∀ s' t' b',m.own.get s' t'=some b'->j8 m s (some m.w.heap.size) s' t'=some g->g<m.w.heap.size:=λ s' t' b' hb hg=>by
   rw[hν s' t' ⟨b',hb⟩]at hg;obtain ⟨_,ar,e',h4⟩:=hm.ge ⟨b',hb⟩ hg;exact (Array.getElem?_eq_some_iff.1 h4).1
  have at_ : ∀ s' t',s'=s/\t'=m.own.j7 s->j8 m s (some m.w.heap.size) s' t'=some g->g=m.w.heap.size:=λ s' t' h hg=>by
   simp only[j8,if_pos h,Option.some.injEq]at hg;exact hg.symm
  by_cases p1:s1=s/\t1=m.own.j7 s<;>by_cases p2:s2=s/\t2=m.own.j7 s
  ·exact ⟨p1.1.trans p2.1.symm,p1.2.trans p2.2.symm⟩
  ·rw[if_neg p2]at h2
   have:=lt s2 t2 b2 h2 g2
   have:=at_ s1 t1 p1 g1
   omega
  ·rw[if_neg p1]at h1
   have:=lt s1 t1 b1 h1 g1
   have:=at_ s2 t2 p2 g2
   omega
  ·rw[if_neg p1]at h1
   rw[if_neg p2]at h2;exact hm.inj s1 t1 s2 t2 b1 b2 g h1 h2 (by rw[<-hν s1 t1 ⟨b1,h1⟩];exact g1) (by rw[<-hν s2 t2 ⟨b2,h2⟩];exact g2)
theorem Sg {m:M} (hm:BU B S w0 m) (s b9:Nat) :
  BU B S w0 ⟨j8 m s none,m.own.put s ((m.own s).new ⟨b9,[]⟩),m.w⟩/\DL B S m ⟨j8 m s none,m.own.put s ((m.own s).new ⟨b9,[]⟩),m.w⟩:=by
 have hν : ∀ s' t',live m s' t'->j8 m s none s' t'=m.ν s' t':=λ s' t' hl=>by
  unfold j8;rw[if_neg];rintro ⟨rfl,rfl⟩
  exact fH hm _ hl
 have he:DL B S m ⟨j8 m s none,m.own.put s ((m.own s).new ⟨b9,[]⟩),m.w⟩:=by
  refine WQ hm (Nat.le_refl _) (λ k hk _=>rfl) (λ s' => ?_) (λ s' t' b' ht l7 => ?_) (λ s' t' g hl hg l9 => ?_)
  ·rw[O2];split
   ·rename_i h;subst h;omega
   ·exact Nat.le_refl _
  ·rw[GF]at l7
   rw[if_neg (by rintro ⟨rfl,rfl⟩;omega)]at l7;exact ⟨b',l7,rfl,hν s' t' ⟨b',l7⟩,λ g ar e' hg ha=>⟨ar,ha,rfl⟩⟩
  ·obtain ⟨b',l7⟩:=hl
   rw[GF]at l7;by_cases h:s'=s/\t'=m.own.j7 s
   ·simp [j8,if_pos h]at hg
   ·rw[if_neg h]at l7
    exact ⟨s',t',⟨b',l7⟩,by rw[<-hν s' t' ⟨b',l7⟩];exact hg⟩
 refine ⟨⟨hm.below,hm.size,λ s' t' ht => ?_,λ s' t' b' l7 => ?_,λ s1 t1 s2 t2 b1 b2 g h1 h2 g1 g2 => ?_⟩,he⟩
 ·rw[O2]at ht
  rw[GF,if_neg]
  ·refine hm.fresh s' t' ?_
   split at ht
   ·rename_i h;subst h;omega
   ·exact ht
  ·rintro ⟨rfl,rfl⟩
   simp at ht;omega
 ·rw[GF]at l7
  by_cases h:s'=s/\t'=m.own.j7 s
  ·rw[if_pos h]at l7
   obtain rfl:(⟨b9,[]⟩:EC)=b':=by simpa using l7
   refine ⟨by simp,?_⟩;show match j8 m s none s' t' with|none=>_|some g=>_
   rw[show j8 m s none s' t'=none by simp [j8,h]]
  ·rw[if_neg h]at l7
   obtain ⟨h1,h2⟩:=hm.g7 s' t' b' l7;refine ⟨h1,?_⟩;show match j8 m s none s' t' with|none=>_|some g=>_
   rw[hν s' t' ⟨b',l7⟩];cases hv:m.ν s' t' with
   | none=>rw[hv]at h2;exact h2
   | some g =>
    rw[hv]at h2;obtain ⟨h3,ar,e',h4,h5⟩:=h2;refine ⟨h3,ar,e',h4,λ i cs hi j c hj => ?_⟩;obtain ⟨u,hu,z0⟩:=h5 i cs hi j c hj;exact ⟨u,hu,he.cc z0⟩
 ·rw[GF]at h1 h2
  by_cases p1:s1=s/\t1=m.own.j7 s
  ·simp [j8,if_pos p1]at g1
  ·by_cases p2:s2=s/\t2=m.own.j7 s
   ·simp [j8,if_pos p2]at g2
   ·rw[if_neg p1]at h1
    rw[if_neg p2]at h2;exact hm.inj s1 t1 s2 t2 b1 b2 g h1 h2 (by rw[<-hν s1 t1 ⟨b1,h1⟩];exact g1) (by rw[<-hν s2 t2 ⟨b2,h2⟩];exact g2)
theorem Ale {m:M} (hm:BU B S w0 m) (s t:Nat) (b b':EC) (hb:m.own.get s t=some b) (g:Nat) (hg:m.ν s t=some g) (arr u9:Array Value) (e:TypeId)
  (ha:m.w.heap[g]? = some (.cells arr e (0,0))) (hz':b'.b9=b.b9) (hz : ∀ x∈b'.es,x.length=b'.b9) (v9:u9.size=arr.size)
  (hc : ∀ i cs,b'.es[i]? = some cs -> ∀ j c,cs[j]? = some c -> ∃ u,u9[i*b'.b9+j]? = some u/\CC B S m c u) (w':World) (jq:Below B w0 w') (Au:w'.heap.size=m.w.heap.size)
  (hk : ∀ k,k≠g->w'.heap[k]? = m.w.heap[k]?) (Vo:w'.heap[g]? = some (.cells u9 e (0,0))) :
  BU B S w0 ⟨m.ν,m.own.put s ((m.own s).q5 t (some b')),w'⟩/\DL B S m ⟨m.ν,m.own.put s ((m.own s).q5 t (some b')),w'⟩:=by
 have l9:t<m.own.j7 s:=by
  rcases Nat.lt_or_ge t (m.own.j7 s) with h|h
  ·exact h
  ·rw[hm.fresh s t h]at hb;cases hb
 have he:DL B S m ⟨m.ν,m.own.put s ((m.own s).q5 t (some b')),w'⟩:=by
  refine WQ hm (by rw[Au];exact Nat.le_refl _) (λ k jc hn=>hk k (λ e=>hn s t ⟨b,hb⟩ (e ▸ hg))) (λ s'=>by rw[tD];exact Nat.le_refl _) (λ s' t' b2 ht u7 => ?_) (λ s' t' g' hl fi _ => ?_)
  ·rw[aI]at u7
   by_cases h:s'=s/\t'=t
   ·obtain ⟨rfl,rfl⟩:=h
    rw[if_pos ⟨rfl,rfl⟩]at u7;obtain rfl:b'=b2:=by simpa using u7
    refine ⟨b,hb,hz',rfl,λ g2 ar e' jy yn => ?_⟩;obtain rfl:g=g2:=by rw[hg]at jy;simpa using jy
    rw[ha]at yn;obtain ⟨rfl,rfl⟩:arr=ar/\e=e':=by simpa using yn
    exact ⟨u9,Vo,v9⟩
   ·rw[if_neg h]at u7
    refine ⟨b2,u7,rfl,rfl,λ g2 ar e' jy yn=>⟨ar,?_,rfl⟩⟩;rw[<-yn];exact hk g2 (λ e2=>h (by
     subst e2;exact hm.inj s' t' s t b2 b g2 u7 hb jy hg))
  ·obtain ⟨b2,u7⟩:=hl
   rw[aI]at u7;by_cases h:s'=s/\t'=t
   ·obtain ⟨rfl,rfl⟩:=h
    exact ⟨s',t',⟨b,hb⟩,fi⟩
   ·rw[if_neg h]at u7
    exact ⟨s',t',⟨b2,u7⟩,fi⟩
 refine ⟨⟨jq,by rw[Au];exact hm.size,λ s' t' ht => ?_,λ s' t' b2 u7 => ?_,λ s1 t1 s2 t2 b1 b2 g1 h1 h2 e1 e2 => ?_⟩,he⟩
 ·rw[tD]at ht
  rw[aI,if_neg (by rintro ⟨rfl,rfl⟩;omega)];exact hm.fresh s' t' ht
 ·rw[aI]at u7
  by_cases h:s'=s/\t'=t
  ·obtain ⟨rfl,rfl⟩:=h
   rw[if_pos ⟨rfl,rfl⟩]at u7;obtain rfl:b'=b2:=by simpa using u7
   refine ⟨hz,?_⟩;show match m.ν s' t' with|none=>_|some g=>_
   rw[hg];refine ⟨(hm.ge ⟨b,hb⟩ hg).1,u9,e,Vo,λ i cs hi j c hj => ?_⟩;obtain ⟨u,hu,z0⟩:=hc i cs hi j c hj;exact ⟨u,hu,he.cc z0⟩
  ·rw[if_neg h]at u7
   obtain ⟨h1,h2⟩:=hm.g7 s' t' b2 u7;refine ⟨h1,?_⟩;show match m.ν s' t' with|none=>_|some g=>_
   cases hv:m.ν s' t' with
   | none=>rw[hv]at h2;exact h2
   | some g2 =>
    rw[hv]at h2;obtain ⟨h3,ar,e',h4,h5⟩:=h2;refine ⟨h3,ar,e',?_,λ i cs hi j c hj => ?_⟩
    ·rw[<-h4]
     exact hk g2 (λ e2=>h (by
      subst e2;exact hm.inj s' t' s t b2 b g2 u7 hb hv hg))
    ·obtain ⟨u,hu,z0⟩:=h5 i cs hi j c hj
     exact ⟨u,hu,he.cc z0⟩
 ·have old : ∀ s' t' b2,(m.own.put s ((m.own s).q5 t (some b'))).get s' t'=some b2 -> ∃ b3,m.own.get s' t'=some b3:=λ s' t' b2 h=>by
   rw[aI]at h;by_cases h':s'=s/\t'=t
   ·obtain ⟨rfl,rfl⟩:=h';exact ⟨b,hb⟩
   ·rw[if_neg h']at h;exact ⟨b2,h⟩
  obtain ⟨c1,k1⟩:=old s1 t1 b1 h1;obtain ⟨c2,k2⟩:=old s2 t2 b2 h2;exact hm.inj s1 t1 s2 t2 c1 c2 g1 k1 k2 e1 e2
theorem WS (o:AH) (s t s' t':Nat) (b:EC):(o.put s (((o s).q5 t none).new b)).get s' t'=if s'=s/\t'=o.j7 s then some b else if s'=s/\t'=t then none else o.get s' t':=by
 unfold AH.get AH.put CF.new CF.q5 AH.j7;by_cases h:s'=s
 ·subst h
  by_cases h2:t'=(o s').j7<;>by_cases h3:t'=t<;>simp [h2,h3]
 ·simp [h]
theorem dJ (o:AH) (s t s':Nat) (b:EC):(o.put s (((o s).q5 t none).new b)).j7 s'=if s'=s then o.j7 s+1 else o.j7 s':=by
 unfold AH.j7 AH.put CF.new CF.q5;by_cases h:s'=s<;>simp [h]
theorem mX {m:M} (hm:BU B S w0 m) (s t:Nat) (b b':EC) (hb:m.own.get s t=some b) (ep:Option Nat) (w':World) (jq:Below B w0 w') (v9:m.w.heap.size<=w'.heap.size)
  (hk : ∀ k,k<m.w.heap.size->m.ν s t≠some k->w'.heap[k]? = m.w.heap[k]?) (hz : ∀ x∈b'.es,x.length=b'.b9)
  (np:ep=none->b'.es=[])
  (wi : ∀ g,ep=some g->B<=g/\(m.w.heap.size<=g\/m.ν s t=some g) /\ ∃ arr e,w'.heap[g]? = some (.cells arr e (0,0)) /\
   ∀ i cs,b'.es[i]? = some cs -> ∀ j c,cs[j]? = some c -> ∃ u,arr[i*b'.b9+j]? = some u/\CC B S m c u) :
  BU B S w0 ⟨j8 m s ep,m.own.put s (((m.own s).q5 t none).new b'),w'⟩/\DL B S m ⟨j8 m s ep,m.own.put s (((m.own s).q5 t none).new b'),w'⟩:=by
 have l9:t<m.own.j7 s:=by
  rcases Nat.lt_or_ge t (m.own.j7 s) with h|h
  ·exact h
  ·rw[hm.fresh s t h]at hb;cases hb
 have hν : ∀ s' t',live m s' t'->j8 m s ep s' t'=m.ν s' t':=λ s' t' hl=>by
  unfold j8;rw[if_neg];rintro ⟨rfl,rfl⟩
  exact fH hm _ hl
 have he:DL B S m ⟨j8 m s ep,m.own.put s (((m.own s).q5 t none).new b'),w'⟩:=by
  refine WQ hm v9 (λ k jc hn=>hk k jc (hn s t ⟨b,hb⟩)) (λ s' => ?_) (λ s' t' b2 ht u7 => ?_) (λ s' t' g' hl fi vm => ?_)
  ·rw[dJ];split
   ·rename_i h;subst h;omega
   ·exact Nat.le_refl _
  ·rw[WS]at u7
   rw[if_neg (by rintro ⟨rfl,rfl⟩;omega)]at u7;by_cases h:s'=s/\t'=t
   ·rw[if_pos h]at u7;cases u7
   ·rw[if_neg h]at u7
    refine ⟨b2,u7,rfl,hν s' t' ⟨b2,u7⟩,λ g2 ar e' jy yn=>⟨ar,?_,rfl⟩⟩;rw[<-yn];exact hk g2 (Array.getElem?_eq_some_iff.1 yn).1 (λ e2=>h (hm.inj s' t' s t b2 b g2 u7 hb jy e2))
  ·obtain ⟨b2,u7⟩:=hl
   rw[WS]at u7;by_cases h0:s'=s/\t'=m.own.j7 s
   ·simp only[j8,if_pos h0]at fi
    obtain ⟨_,h2,_⟩:=wi g' fi;rcases h2 with h2|h2
    ·omega
    ·exact ⟨s,t,⟨b,hb⟩,h2⟩
   ·rw[if_neg h0]at u7
    by_cases h:s'=s/\t'=t
    ·rw[if_pos h]at u7;cases u7
    ·rw[if_neg h]at u7
     exact ⟨s',t',⟨b2,u7⟩,by rw[<-hν s' t' ⟨b2,u7⟩];exact fi⟩
 refine ⟨⟨jq,Nat.le_trans hm.size v9,λ s' t' ht => ?_,λ s' t' b2 u7 => ?_,λ s1 t1 s2 t2 b1 b2 g1 h1 h2 e1 e2 => ?_⟩,he⟩
 ·rw[dJ]at ht
  have oz:m.own.j7 s'<=t' /\ ¬ (s'=s/\t'=m.own.j7 s):=by
   by_cases h:s'=s
   ·subst h
    simp at ht;exact ⟨by omega,by omega⟩
   ·simp [h]at ht
    exact ⟨ht,λ h'=>h h'.1⟩
  rw[WS,if_neg oz.2];split
  ·rfl
  ·exact hm.fresh s' t' oz.1
 ·rw[WS]at u7
  by_cases h0:s'=s/\t'=m.own.j7 s
  ·rw[if_pos h0]at u7
   obtain rfl:b'=b2:=by simpa using u7
   refine ⟨hz,?_⟩;show match j8 m s ep s' t' with|none=>_|some g=>_
   rw[show j8 m s ep s' t'=ep by simp [j8,h0]];cases ep with
   | none=>exact np rfl
   | some g =>
    obtain ⟨h1,_,arr,e,h4,h5⟩:=wi g rfl;refine ⟨h1,arr,e,h4,λ i cs hi j c hj => ?_⟩;obtain ⟨u,hu,z0⟩:=h5 i cs hi j c hj;exact ⟨u,hu,he.cc z0⟩
  ·rw[if_neg h0]at u7
   by_cases h:s'=s/\t'=t
   ·rw[if_pos h]at u7;cases u7
   ·rw[if_neg h]at u7
    obtain ⟨h1,h2⟩:=hm.g7 s' t' b2 u7;refine ⟨h1,?_⟩;show match j8 m s ep s' t' with|none=>_|some g=>_
    rw[hν s' t' ⟨b2,u7⟩];cases hv:m.ν s' t' with
    | none=>rw[hv]at h2;exact h2
    | some g2 =>
     rw[hv]at h2;obtain ⟨h3,ar,e',h4,h5⟩:=h2;refine ⟨h3,ar,e',?_,λ i cs hi j c hj => ?_⟩
     ·rw[<-h4]
      exact hk g2 (Array.getElem?_eq_some_iff.1 h4).1 (λ e2=>h (hm.inj s' t' s t b2 b g2 u7 hb hv e2))
     ·obtain ⟨u,hu,z0⟩:=h5 i cs hi j c hj
      exact ⟨u,hu,he.cc z0⟩
 ·rw[WS]at h1 h2
  have old : ∀ s' t' b2,(if s'=s/\t'=t then none else m.own.get s' t')=some b2->m.own.get s' t'=some b2 /\ ¬ (s'=s/\t'=t):=λ s' t' b2 h=>by
   by_cases h':s'=s/\t'=t
   ·rw[if_pos h']at h;cases h
   ·rw[if_neg h']at h;exact ⟨h,h'⟩
  have nc : ∀ s' t' b2,m.own.get s' t'=some b2 -> ¬ (s'=s/\t'=t)->j8 m s ep s' t'=some g1->ep=some g1->False:=λ s' t' b2 u7 m5 e1 e2=>by
   rw[hν s' t' ⟨b2,u7⟩]at e1;obtain ⟨_,h2,_⟩:=wi g1 e2;obtain ⟨_,ar,e',h4⟩:=hm.ge ⟨b2,u7⟩ e1;have:=(Array.getElem?_eq_some_iff.1 h4).1
   rcases h2 with h2|h2
   ·omega
   ·exact m5 (hm.inj s' t' s t b2 b g1 u7 hb e1 h2)
  have at_ : ∀ s' t',s'=s/\t'=m.own.j7 s->j8 m s ep s' t'=some g1->ep=some g1:=λ s' t' h hg=>by simpa [j8,if_pos h] using hg
  by_cases p1:s1=s/\t1=m.own.j7 s<;>by_cases p2:s2=s/\t2=m.own.j7 s
  ·exact ⟨p1.1.trans p2.1.symm,p1.2.trans p2.2.symm⟩
  ·rw[if_neg p2]at h2
   obtain ⟨k2,n2⟩:=old s2 t2 b2 h2;exact (nc s2 t2 b2 k2 n2 e2 (at_ s1 t1 p1 e1)).elim
  ·rw[if_neg p1]at h1
   obtain ⟨k1,n1⟩:=old s1 t1 b1 h1;exact (nc s1 t1 b1 k1 n1 e1 (at_ s2 t2 p2 e2)).elim
  ·rw[if_neg p1]at h1
   rw[if_neg p2]at h2;obtain ⟨k1,n1⟩:=old s1 t1 b1 h1;obtain ⟨k2,n2⟩:=old s2 t2 b2 h2;exact hm.inj s1 t1 s2 t2 b1 b2 g1 k1 k2 (by rw[<-hν s1 t1 ⟨b1,k1⟩];exact e1) (by rw[<-hν s2 t2 ⟨b2,k2⟩];exact e2)
theorem xD (o:AH) (l:List Nat) (s t:Nat):(o.drop l).get s t=if s∈l then none else o.get s t:=by
 induction l with
 | nil=>simp [AH.drop]
 | cons x r ih =>
  unfold AH.get at *;by_cases h:s=x
  ·subst h;simp [AH.drop,AH.put]
  ·simp only[AH.drop,AH.put,if_neg h,List.mem_cons]
   rw[ih];by_cases h2:s∈r<;>simp [h,h2]
theorem tC (o:AH) (l:List Nat) (s:Nat):(o.drop l).j7 s=o.j7 s:=by
 induction l with
 | nil=>simp [AH.drop]
 | cons x r ih =>
  unfold AH.j7 at *;by_cases h:s=x
  ·subst h;simp [AH.drop,AH.put]
  ·simp [AH.drop,AH.put,h,ih]
theorem AfQ {m:M} (hm:BU B S w0 m) (l:List Nat):BU B S w0 ⟨m.ν,m.own.drop l,m.w⟩/\DL B S m ⟨m.ν,m.own.drop l,m.w⟩:=by
 have old : ∀ s t b,(m.own.drop l).get s t=some b->m.own.get s t=some b:=λ s t b h=>by
  rw[xD]at h;split at h
  ·cases h
  ·exact h
 have he:DL B S m ⟨m.ν,m.own.drop l,m.w⟩:=by
  refine WQ hm (Nat.le_refl _) (λ_ _ _=>rfl) (λ s=>by rw[tC];exact Nat.le_refl _) (λ s t b' _ l7=>⟨b',old s t b' l7,rfl,rfl,λ_ ar _ _ ha=>⟨ar,ha,rfl⟩⟩) (λ s t g hl hg _ => ?_);obtain ⟨b,hb⟩:=hl;exact ⟨s,t,⟨b,old s t b hb⟩,hg⟩
 refine ⟨⟨hm.below,hm.size,λ s t ht => ?_,λ s t b hb => ?_,λ s1 t1 s2 t2 b1 b2 g h1 h2=>hm.inj s1 t1 s2 t2 b1 b2 g (old _ _ _ h1) (old _ _ _ h2)⟩,he⟩
 ·rw[tC]at ht
  rw[xD];split
  ·rfl
  ·exact hm.fresh s t ht
 ·obtain ⟨h1,h2⟩:=hm.g7 s t b (old s t b hb)
  refine ⟨h1,?_⟩;show match m.ν s t with|none=>_|some g=>_
  cases hv:m.ν s t with
  | none=>rw[hv]at h2;exact h2
  | some g =>
   rw[hv]at h2;obtain ⟨h3,ar,e',h4,h5⟩:=h2;refine ⟨h3,ar,e',h4,λ i cs hi j c hj => ?_⟩;obtain ⟨u,hu,z0⟩:=h5 i cs hi j c hj;exact ⟨u,hu,he.cc z0⟩
end
end Go.c9

namespace Go.c9
section
variable {P:Program} {num:Nat->Nat} {op:Op}
theorem AiG {y:AQ} (h:BD P num op (.b7 y)=true) : ∃ x,(op = .move x\/op = .assign x)/\B4 x y=true:=by
 cases op with
 | move x=>exact ⟨x,.inl rfl,h⟩
 | assign x=>exact ⟨x,.inr rfl,h⟩
 | _=>exact Bool.noConfusion h
theorem AiM {s z:Nat} (h:BD P num op (.w4 s z)=true):(op = .move (.const (.slice none 0 0))\/op = .assign (.const (.slice none 0 0)))/\z≠0:=by
 simp only[BD,Bool.and_eq_true,bne_iff_ne]at h;refine ⟨?_,h.1⟩;have h2:=h.2;split at h2<;>simp_all
theorem AiH {c' a' b':AQ} (h:BD P num op (.pick c' a' b')=true) : ∃ c a b,op = .pick c a b/\B4 c c'=true/\B4 a a'=true/\B4 b b'=true:=by
 cases op with
 | pick c a b=>simp only[BD,Bool.and_eq_true]at h;exact ⟨c,a,b,rfl,h.1.1,h.1.2,h.2⟩
 | _=>exact Bool.noConfusion h
theorem Aip {f:BinOp} {x' y':AQ} (h:BD P num op (.bin f x' y')=true) : ∃ t x y u,op = .binOp f t x y u/\B4 x x'=true/\B4 y y'=true:=by
 cases op with
 | binOp f' t x y u =>
  simp only[BD,Bool.and_eq_true,beq_iff_eq]at h;exact ⟨t,x,y,u,by rw[h.1.1],h.1.2,h.2⟩
 | _=>exact Bool.noConfusion h
theorem Aio {ne:Bool} {x' y':AQ} (h:BD P num op (.beq ne x' y')=true) : ∃ t x y u,op = .binOp (if ne then .neq else .eql) t x y u/\P.underlying t=some .bool/\B4 x x'=true/\B4 y y'=true:=by
 cases op with
 | binOp f' t x y u =>
  simp only[BD,Bool.and_eq_true]at h;obtain ⟨⟨⟨h1,h2⟩,h3⟩,h4⟩:=h;refine ⟨t,x,y,u,?_,?_,h3,h4⟩
  ·cases ne<;>simp_all
  ·split at h2<;>simp_all
 | _=>exact Bool.noConfusion h
theorem AiL {f:UnOp} {x':AQ} (h:BD P num op (.un f x')=true) : ∃ t x,op = .unOp f t x/\B4 x x'=true:=by
 cases op with
 | unOp f' t x =>
  simp only[BD,Bool.and_eq_true,beq_iff_eq]at h;exact ⟨t,x,by rw[h.1],h.2⟩
 | _=>exact Bool.noConfusion h
theorem Aiy {k:IntKind} {x':AQ} (h:BD P num op (.conv k x')=true) : ∃ s d x ds,op = .convert s d x/\P.underlying s=some ds/\P.underlying d=some (.int k)/\B4 x x'=true:=by
 cases op with
 | convert s d x =>
  simp only[BD,Bool.and_eq_true]at h;obtain ⟨⟨h1,h2⟩,h3⟩:=h;obtain ⟨ds,Ck⟩:=Option.isSome_iff_exists.1 h1;refine ⟨s,d,x,ds,rfl,Ck,?_,h3⟩;split at h2<;>simp_all
 | _=>exact Bool.noConfusion h
theorem Aiq {s:Nat} {x':AQ} (h:BD P num op (.box s x')=true) : ∃ t x,op = .box t x/\B4 x x'=true:=by
 cases op with
 | box t x=>exact ⟨t,x,rfl,h⟩
 | _=>exact Bool.noConfusion h
theorem Aim {s:Nat} {z:List AV} (h:BD P num op (.alloc s z)=true) : ∃ t,op = .alloc t/\XL P t z=true:=by
 cases op with
 | alloc t=>exact ⟨t,rfl,h⟩
 | _=>exact Bool.noConfusion h
theorem Ais {z:List AV} {fc:List (Nat × Nat × AQ)} (h:BD P num op (.build z fc)=true) : ∃ t ps,op = .build t ps/\XL P t z=true/\jG P t ps.toList fc=true:=by
 cases op with
 | build t ps=>simp only[BD,Bool.and_eq_true]at h;exact ⟨t,ps,rfl,h.1,h.2⟩
 | _=>exact Bool.noConfusion h
theorem UT {t:TypeId} {f:TypeId->Bool} (h:K7 P t f=true) : ∃ e,P.underlying t=some (.slice e)/\f e=true:=by
 unfold K7 at h;split at h
 ·rename_i e he;exact ⟨e,he,h⟩
 ·cases h
theorem SI {t:TypeId} {n:Nat} (h:JL P t n=true) : ∃ i,P.info? t=some i/\i.size=n:=by
 unfold JL at h;split at h
 ·rename_i i hi;exact ⟨i,hi,by simpa using h⟩
 ·cases h
theorem jH {t:TypeId} {n:Nat} (h:ZQ P t n=true) : ∃ i,P.info? t=some i/\i.bytes=n:=by
 unfold ZQ at h;split at h
 ·rename_i i hi;exact ⟨i,hi,by simpa using h⟩
 ·cases h
theorem qH {t:TypeId} {l:List AV} (h:XL P t l=true) : ∃ i z,P.info? t=some i/\i.zero=some z/\T8 z.cells.toList l=true:=by
 unfold XL at h;split at h
 ·rename_i i hi
  split at h
  ·rename_i z hz;exact ⟨i,z,hi,hz,h⟩
  ·cases h
 ·cases h
theorem iX {t:TypeId} {b:Bool} (h:(WB P t == some b)=true) : ∀ w,(isAgg t).run P w = .ok b w:=by
 intro w;have h':WB P t=some b:=by simpa using h
 unfold WB at h';unfold isAgg;cases hu:P.underlying t with
 | none=>rw[hu]at h';cases h'
 | some d =>
  rw[hu]at h';rw[Sem.run_bind,run_underlying hu];cases d<;>simp_all<;>rfl
theorem qI {e:TypeId} {n:Nat} (h:(match P.info? e with|some i=>(match i.zero with|some z=>z.cells.size == n|none=>false)|none=>false)=true) : ∃ i z,P.info? e=some i/\i.zero=some z/\z.cells.size=n:=by
 split at h
 ·rename_i i hi
  split at h
  ·rename_i z hz;exact ⟨i,z,hi,hz,by simpa using h⟩
  ·cases h
 ·cases h
theorem Air {s b9:Nat} {fc:List AQ} (h:BD P num op (.e9 s b9 fc)=true) : ∃ t n ps e i,op = .buildSlice t n ps/\P.underlying t=some (.slice e)/\P.info? e=some i/\i.size=b9/\b9≠0/\n=fc.length/\n*b9<=16777216/\WL 0 ps.toList fc=true/\(n=0 \/ ∃ z,i.zero=some z/\z.cells.size=b9):=by
 cases op with
 | buildSlice t n ps =>
  simp only[BD,Bool.and_eq_true,decide_eq_true_eq,bne_iff_ne,beq_iff_eq,Bool.or_eq_true]at h;obtain ⟨⟨⟨⟨⟨h1,h2⟩,h3⟩,h4⟩,h5⟩,h6⟩:=h;obtain ⟨e,he,h1⟩:=UT h1;obtain ⟨i,hi,hs⟩:=SI h1;refine ⟨t,n,ps,e,i,rfl,he,hi,hs,h2,h3,h4,h5,h6.imp id λ h6 => ?_⟩;obtain ⟨e',jr,h6⟩:=UT h6;rw[he]at jr;obtain rfl:e=e':=by simpa using jr
  obtain ⟨i',z,o7,hz,tl⟩:=qI h6;rw[hi]at o7;obtain rfl:i=i':=by simpa using o7
  exact ⟨z,hz,tl⟩
 | _=>exact Bool.noConfusion h
theorem xX {x':AQ} {off:Nat} (h:BD P num op (.a7 x' off)=true) : ∃ t x f fs fd i,op = .fieldAddr t x f/\B4 x x'=true/\P.underlying t=some (.struct fs)/\fs[f]? = some fd/\fd.offset=off/\P.info? fd.type=some i/\i.size≠0:=by
 cases op with
 | fieldAddr t x f =>
  simp only[BD,Bool.and_eq_true]at h;obtain ⟨h1,h2⟩:=h;split at h2
  ·rename_i fs iu
   split at h2
   ·rename_i fd Iu
    simp only[Bool.and_eq_true,beq_iff_eq]at h2;obtain ⟨h3,h4⟩:=h2;split at h4
    ·rename_i i hi
     exact ⟨t,x,f,fs,fd,i,rfl,h1,iu,Iu,h3,hi,by simpa using h4⟩
    ·cases h4
   ·cases h2
  ·cases h2
 | _=>exact Bool.noConfusion h
theorem AiA {x':AQ} {off n:Nat} {agg:Bool} (h:BD P num op (.om x' off n agg)=true) : ∃ t x f fs fd i,op = .field t x f/\B4 x x'=true/\P.underlying t=some (.struct fs)/\fs[f]? = some fd/\fd.offset=off/\P.info? fd.type=some i/\i.size=n/\(∀ w,(isAgg fd.type).run P w = .ok agg w)/\n≠0:=by
 cases op with
 | field t x f =>
  simp only[BD,Bool.and_eq_true]at h;obtain ⟨⟨h1,h2⟩,h3⟩:=h;unfold wO at h2;unfold wP at h3;split at h2
  ·rename_i fs iu
   split at h2
   ·rename_i fd Iu
    simp only[Bool.and_eq_true,beq_iff_eq,bne_iff_ne]at h2;obtain ⟨⟨h4,h5⟩,h6⟩:=h2;obtain ⟨i,hi,hs⟩:=SI h5;rw[iu]at h3;simp only[Iu]at h3;exact ⟨t,x,f,fs,fd,i,rfl,h1,iu,Iu,h4,hi,hs,iX h3,h6⟩
   ·cases h2
  ·cases h2
 | _=>exact Bool.noConfusion h
theorem eN {arr:Option Nat} {b9:Nat} {x' i':AQ} (h:BD P num op (.a5 arr b9 x' i')=true) : ∃ t x i e inf,op = .indexAddr t x i/\B4 x x'=true/\B4 i i'=true/\P.info? e=some inf/\inf.size=b9 /\
  ((∃ len,arr=some len/\P.underlying t=some (.array len e)/\1<len)\/(arr=none/\P.underlying t=some (.slice e)/\b9≠0)):=by
 cases op with
 | indexAddr t x i =>
  simp only[BD,Bool.and_eq_true]at h;obtain ⟨⟨h1,h2⟩,h3⟩:=h;split at h3
  ·rename_i len e tv hu
   simp only[Bool.and_eq_true,beq_iff_eq,decide_eq_true_eq]at h3;obtain ⟨⟨h4,h5⟩,h6⟩:=h3;obtain ⟨inf,hi,hs⟩:=SI h5;exact ⟨t,x,i,e,inf,rfl,h1,h2,hi,hs,.inl ⟨len,by rw[h4],hu,h6⟩⟩
  ·rename_i e hu
   simp only[Bool.and_eq_true,bne_iff_ne]at h3;obtain ⟨inf,hi,hs⟩:=SI h3.1;exact ⟨t,x,i,e,inf,rfl,h1,h2,hi,hs,.inr ⟨rfl,hu,h3.2⟩⟩
  ·cases h3
 | _=>exact Bool.noConfusion h
theorem xY {agg:Bool} {n:Nat} {x':AQ} (h:BD P num op (.ld agg n x')=true) : ∃ t x,op = .load t x/\B4 x x'=true/\(∀ w,(isAgg t).run P w = .ok agg w)/\(if agg then ∃ i,P.info? t=some i/\i.size=n else n=1):=by
 cases op with
 | load t x =>
  simp only[BD,Bool.and_eq_true]at h;obtain ⟨⟨h1,h2⟩,h3⟩:=h;refine ⟨t,x,rfl,h1,iX h2,?_⟩;cases agg
  ·simpa using h3
  ·exact SI (by simpa using h3)
 | _=>exact Bool.noConfusion h
theorem AiJ {n:Nat} {x' v':AQ} (h:BD P num op (.st n x' v')=true) : ∃ t x v i,op = .store t x v/\B4 x x'=true/\B4 v v'=true/\P.info? t=some i/\i.size=n:=by
 cases op with
 | store t x v =>
  simp only[BD,Bool.and_eq_true]at h;obtain ⟨⟨h1,h2⟩,h3⟩:=h;obtain ⟨i,hi,hs⟩:=SI h3;exact ⟨t,x,v,i,rfl,h1,h2,hi,hs⟩
 | _=>exact Bool.noConfusion h
theorem AiD {s b9 bytes:Nat} {zero:List AV} {l' c':AQ} (h:BD P num op (.mk s b9 bytes zero l' c')=true) : ∃ t l c e i z,op = .makeSlice t l c/\B4 l l'=true/\B4 c c'=true/\P.underlying t=some (.slice e)/\P.info? e=some i/\i.size=b9/\i.bytes=bytes/\i.zero=some z/\T8 z.cells.toList zero=true/\b9≠0:=by
 cases op with
 | makeSlice t l c =>
  simp only[BD,Bool.and_eq_true,bne_iff_ne]at h;obtain ⟨⟨⟨h1,h2⟩,h3⟩,h4⟩:=h;obtain ⟨e,he,h3⟩:=UT h3;simp only[Bool.and_eq_true]at h3;obtain ⟨⟨h5,h6⟩,h7⟩:=h3;obtain ⟨i,hi,hs⟩:=SI h5;obtain ⟨i2,tf,qh⟩:=jH h6;obtain ⟨i3,z,yx,hz,gn⟩:=qH h7;rw[hi]at tf yx;obtain rfl:i=i2:=by simpa using tf
  obtain rfl:i=i3:=by simpa using yx
  exact ⟨t,l,c,e,i,z,rfl,h1,h2,he,hi,hs,qh,hz,gn,h4⟩
 | _=>exact Bool.noConfusion h
theorem mG {b9:Nat} {x':AQ} {pn o7:Option AQ} (h:BD P num op (.fx b9 x' pn o7)=true) : ∃ t x lo hi e i,op = .slice t x lo hi none/\B4 x x'=true/\TA lo pn=true/\TA hi o7=true/\P.underlying t=some (.slice e)/\P.info? e=some i/\i.size=b9/\b9≠0:=by
 cases op with
 | slice t x lo hi mx =>
  cases mx with
  | some _=>exact Bool.noConfusion h
  | none =>
   simp only[BD,Bool.and_eq_true,bne_iff_ne]at h;obtain ⟨⟨⟨⟨h1,h2⟩,h3⟩,h4⟩,h5⟩:=h;obtain ⟨e,he,h4⟩:=UT h4;obtain ⟨i,o7,hs⟩:=SI h4;exact ⟨t,x,lo,hi,e,i,rfl,h1,h2,h3,he,o7,hs,h5⟩
 | _=>exact Bool.noConfusion h
theorem Aiz {x':AQ} {i:Nat} (h:BD P num op (.ext x' i)=true) : ∃ x,op = .extract x i/\B4 x x'=true:=by
 cases op with
 | extract x j =>
  simp only[BD,Bool.and_eq_true,beq_iff_eq]at h;exact ⟨x,by rw[h.2],h.1⟩
 | _=>exact Bool.noConfusion h
theorem iB {α:Type} {xs:Array α} {x y:α} (h:xs.toList=[x,y]):xs = #[x,y]:=by cases xs;simp_all
theorem iA {α:Type} {xs:Array α} {x:α} (h:xs.toList=[x]):xs = #[x]:=by cases xs;simp_all
theorem AiC {x':AQ} (h:BD P num op (.len x')=true) : ∃ x t e,op = .call ⟨.builtin .len,#[x],#[t]⟩/\B4 x x'=true/\P.underlying t=some (.slice e):=by
 cases op with
 | call c =>
  obtain ⟨cl,xs,ts⟩:=c;cases cl with
  | builtin b =>
   cases b<;>first|exact Bool.noConfusion h|skip
   simp only[BD]at h;split at h
   ·rename_i x t hx ht
    simp only[Bool.and_eq_true]at h;obtain ⟨e,he,_⟩:=UT h.2;exact ⟨x,t,e,by rw[iA hx,iA ht],h.1,he⟩
   ·cases h
  | value f=>cases f<;>exact Bool.noConfusion h
  | invoke=>exact Bool.noConfusion h
 | _=>exact Bool.noConfusion h
theorem xZ {mx:Bool} {n6:List AQ} (h:BD P num op (.mm mx n6)=true) : ∃ xs ts,op = .call ⟨.builtin (if mx then .max else .min),xs,ts⟩/\EG xs.toList n6=true:=by
 cases op with
 | call c =>
  obtain ⟨cl,xs,ts⟩:=c;cases cl with
  | builtin b =>
   cases b<;>first|exact Bool.noConfusion h|skip
   all_goals
    simp only[BD,Bool.and_eq_true]at h;refine ⟨xs,ts,?_,h.2⟩;cases mx<;>simp_all
  | value f=>cases f<;>exact Bool.noConfusion h
  | invoke=>exact Bool.noConfusion h
 | _=>exact Bool.noConfusion h
theorem xW {s b9 bytes:Nat} {x' y':AQ} (h:BD P num op (.app s b9 bytes x' y')=true) : ∃ x y t e i z tx ex,op = .call ⟨.builtin .append,#[x,y],#[t,tx]⟩/\B4 x x'=true/\B4 y y'=true/\P.underlying t=some (.slice e)/\P.info? e=some i/\i.size=b9/\i.bytes=bytes/\i.zero=some z/\z.cells.size=b9/\b9≠0/\P.underlying tx=some (.slice ex):=by
 cases op with
 | call c =>
  obtain ⟨cl,xs,ts⟩:=c;cases cl with
  | builtin b =>
   cases b<;>first|exact Bool.noConfusion h|skip
   simp only[BD]at h;split at h
   ·rename_i x y t u hx ht
    simp only[Bool.and_eq_true,beq_iff_eq,bne_iff_ne]at h;obtain ⟨⟨⟨⟨h1,h2⟩,h3⟩,h4⟩,h5⟩:=h;obtain ⟨e,he,h3⟩:=UT h3;simp only[Bool.and_eq_true]at h3;obtain ⟨⟨h6,h7⟩,h8⟩:=h3;obtain ⟨i,hi,hs⟩:=SI h6;obtain ⟨i2,tf,qh⟩:=jH h7;obtain ⟨i3,z,yx,hz,gn⟩:=qI h8;rw[hi]at tf yx;obtain rfl:i=i2:=by simpa using tf
    obtain rfl:i=i3:=by simpa using yx
    obtain ⟨ex,hex,_⟩:=UT h5;exact ⟨x,y,t,e,i,z,u,ex,by rw[iB hx,iB ht],h1,h2,he,hi,hs,qh,hz,gn,h4,hex⟩
   ·cases h
  | value f=>cases f<;>exact Bool.noConfusion h
  | invoke=>exact Bool.noConfusion h
 | _=>exact Bool.noConfusion h
theorem mE {f:Nat} {n6:List AQ} (h:BD P num op (.call f n6)=true) : ∃ xs ts,op = .call ⟨.value (.func (num f)),xs,ts⟩/\EG xs.toList n6=true:=by
 cases op with
 | call c =>
  obtain ⟨cl,xs,ts⟩:=c;cases cl with
  | builtin b=>cases b<;>exact Bool.noConfusion h
  | value g =>
   cases g with
   | func g =>
    simp only[BD,Bool.and_eq_true,beq_iff_eq]at h;exact ⟨xs,ts,by rw[h.1],h.2⟩
   | _=>exact Bool.noConfusion h
  | invoke=>exact Bool.noConfusion h
 | _=>exact Bool.noConfusion h
theorem Ait {f:Nat} {n6:List AQ} (h:BD P num op (.g9 f n6)=true) : ∃ xs ts,op = .call ⟨.value (.func (num f)),xs,ts⟩/\EG xs.toList n6=true:=by
 cases op with
 | call c =>
  obtain ⟨cl,xs,ts⟩:=c;cases cl with
  | builtin b=>cases b<;>exact Bool.noConfusion h
  | value g =>
   cases g with
   | func g =>
    simp only[BD,Bool.and_eq_true,beq_iff_eq]at h;exact ⟨xs,ts,by rw[h.1],h.2⟩
   | _=>exact Bool.noConfusion h
  | invoke=>exact Bool.noConfusion h
 | _=>exact Bool.noConfusion h
theorem Aiu {f:Nat} {n6:List AQ} (h:BD P num op (.m7 f n6)=true):BD P num op (.call f n6)=true:=by
 cases op<;>exact h
theorem Ail {ne:Bool} {n:Nat} {x' y':AQ} (h:BD P num op (.sf ne n x' y')=true) : ∃ t x y u,op = .binOp (if ne then .neq else .eql) t x y u/\lO P t n=true/\B4 x x'=true/\B4 y y'=true:=by
 cases op with
 | binOp f' t x y u =>
  simp only[BD,Bool.and_eq_true]at h;obtain ⟨⟨⟨h1,h2⟩,h3⟩,h4⟩:=h;refine ⟨t,x,y,u,?_,h2,h3,h4⟩;cases ne<;>simp_all
 | _=>exact Bool.noConfusion h
theorem Aix {x':AQ} (h:BD P num op (.fm x')=true) : ∃ x t e,op = .call ⟨.builtin .cap,#[x],#[t]⟩/\B4 x x'=true/\P.underlying t=some (.slice e):=by
 cases op with
 | call c =>
  obtain ⟨cl,xs,ts⟩:=c;cases cl with
  | builtin b =>
   cases b<;>first|exact Bool.noConfusion h|skip
   simp only[BD]at h;split at h
   ·rename_i x t hx ht
    simp only[Bool.and_eq_true]at h;obtain ⟨e,he,_⟩:=UT h.2;exact ⟨x,t,e,by rw[iA hx,iA ht],h.1,he⟩
   ·cases h
  | value f=>cases f<;>exact Bool.noConfusion h
  | invoke=>exact Bool.noConfusion h
 | _=>exact Bool.noConfusion h
theorem Ain {s b9 bytes:Nat} {x' y':AQ} (h:BD P num op (.oi s b9 bytes x' y')=true) : ∃ x y t e i z tx k,op = .call ⟨.builtin .append,#[x,y],#[t,tx]⟩/\B4 x x'=true/\B4 y y'=true/\P.underlying t=some (.slice e)/\P.info? e=some i/\i.size=b9/\i.bytes=bytes/\i.zero=some z/\z.cells.size=b9/\b9≠0/\P.underlying tx=some (.int k):=by
 cases op with
 | call c =>
  obtain ⟨cl,xs,ts⟩:=c;cases cl with
  | builtin b =>
   cases b<;>first|exact Bool.noConfusion h|skip
   simp only[BD]at h;split at h
   ·rename_i x y t u hx ht
    simp only[Bool.and_eq_true,bne_iff_ne]at h;obtain ⟨⟨⟨⟨h1,h2⟩,h3⟩,h4⟩,h5⟩:=h;obtain ⟨e,he,h3⟩:=UT h3;simp only[Bool.and_eq_true]at h3;obtain ⟨⟨h6,h7⟩,h8⟩:=h3;obtain ⟨i,hi,hs⟩:=SI h6;obtain ⟨i2,tf,qh⟩:=jH h7;obtain ⟨i3,z,yx,hz,gn⟩:=qI h8;rw[hi]at tf yx;obtain rfl:i=i2:=by simpa using tf
    obtain rfl:i=i3:=by simpa using yx
    split at h5
    ·rename_i k hk
     exact ⟨x,y,t,e,i,z,u,k,by rw[iB hx,iB ht],h1,h2,he,hi,hs,qh,hz,gn,h4,hk⟩
    ·cases h5
   ·cases h
  | value f=>cases f<;>exact Bool.noConfusion h
  | invoke=>exact Bool.noConfusion h
 | _=>exact Bool.noConfusion h
theorem Aiw {s f:Nat} {n6:List AQ} (h:BD P num op (.cu s f n6)=true):BD P num op (.g9 f n6)=true:=by
 cases op<;>exact h
theorem Aiv {s f:Nat} {n6:List AQ} (h:BD P num op (.u6 s f n6)=true):BD P num op (.call f n6)=true:=by
 cases op<;>exact h
theorem AiK {s n:Nat} {x' v':AQ} (h:BD P num op (.oh s n x' v')=true):BD P num op (.st n x' v')=true:=by
 cases op<;>exact h
theorem AiB {ne:Bool} {x':AQ} (h:BD P num op (.tu ne x')=true) : ∃ t x u e,op = .binOp (if ne then .neq else .eql) t x (.const (.slice none 0 0)) u/\P.underlying t=some (.slice e)/\B4 x x'=true:=by
 cases op with
 | binOp f' t x y u =>
  simp only[BD]at h;split at h
  ·rename_i heq
   simp only[Op.binOp.injEq]at heq;obtain ⟨rfl,rfl,rfl,rfl,rfl⟩:=heq;simp only[Bool.and_eq_true]at h;obtain ⟨⟨h1,h2⟩,h3⟩:=h;unfold K7 at h2;split at h2
   ·rename_i e he
    refine ⟨t,x,u,e,?_,he,h3⟩;cases ne
    ·simp only[Bool.false_eq_true,if_false,beq_iff_eq]at h1;rw[h1];rfl
    ·simp only[if_true,beq_iff_eq]at h1;rw[h1];rfl
   ·cases h2
  ·cases h
 | _=>exact Bool.noConfusion h
theorem AiI {tb:List Nat} {i':AQ} (h:BD P num op (.gv tb i')=true) : ∃ t s i,op = .index t (.const (.string s)) i/\P.underlying t=some .string/\s.data.toList.map (λ b=>b.toNat)=tb/\B4 i i'=true:=by
 cases op with
 | index t x i =>
  simp only[BD]at h;split at h
  ·rename_i heq
   simp only[Op.index.injEq]at heq;obtain ⟨rfl,rfl,rfl⟩:=heq;simp only[Bool.and_eq_true,beq_iff_eq]at h;obtain ⟨⟨h1,h2⟩,h3⟩:=h;exact ⟨_,_,_,rfl,by split at h1<;>simp_all,h2,h3⟩
  ·cases h
 | _=>exact Bool.noConfusion h
theorem AiF {p:Bool} {f:Nat} {n6:List AQ} (h:BD P num op (.qo p f n6)=true) : ∃ first xs,op = .makeFunc (.func (num f)) first xs/\first = #[]/\EG xs.toList n6=true:=by
 cases op with
 | makeFunc g first xs =>
  cases g with
  | func g =>
   simp only[BD,Bool.and_eq_true,beq_iff_eq]at h;obtain ⟨⟨rfl,h2⟩,h3⟩:=h;refine ⟨first,xs,rfl,?_,h3⟩;obtain ⟨l⟩:=first
   simp at h2;rw[h2]
  | _=>exact Bool.noConfusion h
 | _=>exact Bool.noConfusion h
theorem AiE {f:Nat} {x':AQ} (h:BD P num op (.sd f x')=true) : ∃ x,op = .makeFunc (.func (num f)) #[x] #[]/\B4 x x'=true:=by
 cases op with
 | makeFunc g first xs =>
  cases g with
  | func g =>
   obtain ⟨l⟩:=first
   obtain ⟨l2⟩:=xs;simp only[BD,Bool.and_eq_true,beq_iff_eq]at h;obtain ⟨⟨rfl,h2⟩,h3⟩:=h;match l,l2,h2,h3 with
   | [x],[],h2,_=>exact ⟨x,rfl,h2⟩
  | _=>exact Bool.noConfusion h
 | _=>exact Bool.noConfusion h
theorem mF {x':AQ} {n6:List AQ} (h:BD P num op (.n0 x' n6)=true) : ∃ x xs ts,op = .call ⟨.value x,xs,ts⟩/\B4 x x'=true/\EG xs.toList n6=true:=by
 cases op with
 | call c =>
  obtain ⟨cl,xs,ts⟩:=c;cases cl with
  | builtin b=>cases b<;>exact Bool.noConfusion h
  | value g =>
   simp only[BD,Bool.and_eq_true]at h;exact ⟨g,xs,ts,rfl,h.1,h.2⟩
  | invoke=>exact Bool.noConfusion h
 | _=>exact Bool.noConfusion h
end
end Go.c9

namespace Go.c9
open Go.RowKit
def CE.z7:CE->AH->AH
 | .val _,o=>o
 | .new s b _,o=>o.put s ((o s).new b)
 | .zt s b _,o=>o.put s ((o s).new b)
 | .eb _ o',_=>o'
 | .q5 s x,o=>o.put s x
 | .yd s x _,o=>o.put s x
def CE.valOf:CE->AH->AV
 | .val v,_=>v
 | .new s _ v,o=>v (o.j7 s)
 | .zt s _ v,o=>v (o.j7 s)
 | .eb v _,_=>v
 | .q5 _ _,_ => .j5 []
 | .yd _ _ v,_=>v
section
variable {B:Nat} {S:Nat->Prop} {w0:World} {m:M}
theorem HQ {k:IntKind} {n:Int} {v:Value} (h:CV B S m (.int k n) v):v = .int k n:=by
 cases h with
 | ca h=>cases h with
  | one h=>cases h with
   | rd h=>cases h;rfl
theorem WH {b:Bool} {v:Value} (h:CV B S m (.bool b) v):v = .bool b:=by
 cases h with
 | ca h=>cases h with
  | one h=>cases h with
   | rd h=>cases h;rfl
theorem dK {cs:List AV} {v:Value} (h:CV B S m (.agg cs) v) : ∃ vs:List Value,v = .agg vs.toArray/\CL B S m cs vs:=by
 cases h with
 | ca h=>cases h with
  | one h=>cases h with
   | rd h=>cases h
  | agg _ vs h=>exact ⟨vs,rfl,h⟩
theorem jW {cs:List AV} {v:Value} (h:CV B S m (.j5 cs) v) : ∃ vs:List Value,v = .tuple vs.toArray/\cs.length=vs.length /\ ∀ (j:Nat) (c:AV) (u:Value),cs[j]? = some c->vs[j]? = some u->CA B S m c u:=by
 cases h with
 | ca h=>cases h with
  | one h=>cases h with
   | rd h=>cases h
 | j5 _ vs hl h=>exact ⟨vs,rfl,hl,h⟩
theorem UH (k:IntKind) (n:Int):CV B S m (.int k n) (.int k n):= .ca (.one (.rd (.int k n)))
theorem aQ (b:Bool):CV B S m (.bool b) (.bool b):= .ca (.one (.rd (.bool b)))
theorem yW:CV B S m (.j5 []) undef := .j5 [] [] rfl (λ j c v h=>by simp at h)
theorem dM {a:AV} {cs:List AV} {v:Value} (h:CV B S m a v) (hc:cellsOf a=some cs):CL B S m cs v.cells.toList:=by
 cases h with
 | any v=>simp [cellsOf]at hc
 | j5=>simp [cellsOf]at hc
 | ca h=>cases h with
  | agg fe vs h =>
   obtain rfl:fe=cs:=by simpa [cellsOf] using hc
   simpa [Value.cells] using h
  | fn=>simp [cellsOf]at hc
  | ua=>simp [cellsOf]at hc
  | one h =>
   have h1:v.cells.toList=[v]:=by
    cases h with
    | rd h=>cases h<;>rfl
    | _=>rfl
   have h2:cs=[a]:=by
    cases h with
    | rd h=>cases h<;>simp [cellsOf]at hc<;>exact hc.symm
    | _=>simp [cellsOf]at hc;exact hc.symm
   rw[h1,h2];refine ⟨rfl,λ j c u hj hu => ?_⟩;cases j with
   | zero=>simp at hj hu;subst hj hu;exact h
   | succ j=>simp at hj
theorem Ad7 {cs:List AV} {vs:List Value} (h:CL B S m cs vs) : ∀ v∈vs,v.oneCell'=true:=by
 intro v hv;obtain ⟨j,hj,rfl⟩:=List.getElem_of_mem hv;have Ea:j<cs.length:=by rw[h.1];exact hj
 exact (h.2 j cs[j] vs[j] (zE Ea) (zE hj)).one
theorem Ad8 {cs:List AV} {vs:List Value} (h:CL B S m cs vs) (off n:Nat):CL B S m ((cs.drop off).take n) ((vs.drop off).take n):=by
 refine ⟨by simp [h.1],λ j c v hj hv => ?_⟩;rw[List.getElem?_take]at hj hv;split at hj
 ·rename_i l9
  rw[if_pos l9]at hv;rw[List.getElem?_drop]at hj hv;exact h.2 _ c v hj hv
 ·cases hj
theorem vC {v:Value} {a:AV} (h:dW v a=true):CC B S m a v:=by
 unfold dW at h;split at h
 ·simp only[Bool.and_eq_true,beq_iff_eq]at h
  obtain ⟨rfl,rfl⟩:=h;exact .rd (.int _ _)
 ·obtain rfl:_=_:=by simpa using h
  exact .rd (.bool _)
 ·exact .nil
 ·rename_i s s'
  obtain rfl:s=s':=by
   have h':s.data.toList=s'.data.toList:=by simpa using h
   obtain ⟨⟨l⟩⟩:=s;obtain ⟨⟨l'⟩⟩:=s';simp only at h';rw[h']
  exact .rd (.str _)
 ·cases h
theorem YD : ∀ {vs:List Value} {cs:List AV},T8 vs cs=true->CL B S m cs vs
 | [],[],_=>⟨rfl,λ j c v h=>by simp at h⟩
 | v::r,c::l,h=>by
  simp only[T8,Bool.and_eq_true]at h;have ih:=YD (vs:=r) (cs:=l) h.2;refine ⟨by simp [ih.1],λ j c' v' hj hv => ?_⟩;cases j with
  | zero=>simp at hj hv;subst hj hv;exact vC h.1
  | succ j=>exact ih.2 j c' v' (by simpa using hj) (by simpa using hv)
 | [],_::_,h=>by simp [T8]at h
 | _::_,[],h=>by simp [T8]at h
theorem Af4 {v:Value} {a:AV} (h:kT v a=true):CV B S m a v:=by
 unfold kT at h;split at h
 ·rename_i cs l
  have:=YD (B:=B) (S:=S) (m:=m) h
  exact .ca (by simpa using CA.agg l cs.toList this)
 ·exact .ca (.one (vC h))
def CW (B:Nat) (S:Nat->Prop) (m:M) (ρ:AQ->AV) (e:Operand->Value):Prop := ∀ x y,B4 x y=true->CV B S m (ρ y) (e x)
theorem Akr {T:Nat->AV} {a:Act} {ρ:AQ->AV} (hρt : ∀ n,ρ (.t n)=T n) (Ww : ∀ v,ρ (.c v)=v) (h : ∀ i,CV B S m (T i) (a.tmps.getD i undef)):CW B S m ρ a.eval:=by
 intro x y um;unfold B4 at um;split at um
 ·obtain rfl:_=_:=by simpa using um
  rw[hρt];exact h _
 ·rw[Ww]
  exact Af4 um
 ·obtain rfl:_=_:=by simpa using um
  rw[Ww];exact .ca (.fn _ _ _ [] [] (λ_=>rfl) ⟨rfl,λ j c v h=>by simp at h⟩)
 ·cases um
variable {P:Program} {num:Nat->Nat} {o:Oper} {a:Act} {ρ:AQ->AV} {K:Act->World->Prop} {Q:Exit->Act->World->Prop}
theorem TQ {w w':World} {u:Value} (h:(execOp a.eval o).run P w = .ok (.value u) w') (hk:K (a.put o.dst u) w'):o.wp P a w K Q:=by
 unfold Oper.wp;rw[h];exact hk
theorem Alv {w w':World} (h:(execOp a.eval o).run P w = .ok .skip w') (hk:K (a.put o.dst undef) w'):o.wp P a w K Q:=by
 unfold Oper.wp;rw[h];exact hk
def CY (B:Nat) (S:Nat->Prop) (w0:World) (P:Program) (o:Oper) (a:Act) (m:M) (E:CE):Prop :=
 ∀ (K:Act->World->Prop) (Q:Exit->Act->World->Prop),(∀ u m',m'.own=E.z7 m.own->BU B S w0 m'->DL B S m m'->CV B S m' (E.valOf m.own) u->K (a.put o.dst u) m'.w)->o.wp P a m.w K Q
theorem EF (hm:BU B S w0 m) {v:AV} {u:Value} (h:(execOp a.eval o).run P m.w = .ok (.value u) m.w) (hc:CV B S m v u):CY B S w0 P o a m (.val v) :=
 λ K Q hK=>TQ h (hK u m rfl hm (DL.refl m) hc)
theorem AfD (hm:BU B S w0 m) (hs:CW B S m ρ a.eval) {y:AQ} (h:BD P num o.op (.b7 y)=true):CY B S w0 P o a m (.val (ρ y)):=by
 obtain ⟨x,hx,he⟩:=AiG h;refine EF hm (u:=a.eval x) ?_ (hs x y he);rcases hx with hx|hx<;>simp [execOp,hx]
theorem AfJ (hm:BU B S w0 m) {s z:Nat} (h:BD P num o.op (.w4 s z)=true):CY B S w0 P o a m (.zt s ⟨z,[]⟩ (λ t => .row s t z 0 0)):=by
 obtain ⟨hx,hz⟩:=AiM h;intro K Q hK;obtain ⟨h1,h2⟩:=Sg hm s z;refine TQ (u := .slice none 0 0) (w':=m.w) ?_ (hK _ ⟨j8 m s none,m.own.put s ((m.own s).new ⟨z,[]⟩),m.w⟩ rfl h1 h2 ?_)
 ·rcases hx with hx|hx<;>simp [execOp,hx,Act.eval]
 ·refine .ca (.one (.row s (m.own.j7 s) z 0 0 none 0 ?_ (by omega) (Nat.le_refl _) (λ h=>by omega) λ b hb => ?_))
  ·show _<AH.j7 _ s
   rw[O2];simp
  ·change AH.get _ s _=some b at hb
   rw[GF,if_pos ⟨rfl,rfl⟩]at hb;obtain rfl:(⟨z,[]⟩:EC)=b:=by simpa using hb
   exact ⟨rfl,.inl ⟨rfl,rfl⟩⟩
theorem uF (hm:BU B S w0 m) (hs:CW B S m ρ a.eval) {c' a' b':AQ} (h:BD P num o.op (.pick c' a' b')=true) {t:Bool} (hc:ρ c' = .bool t) :
  CY B S w0 P o a m (.val (if t then ρ a' else ρ b')):=by
 obtain ⟨c,x,y,k9,h1,h2,h3⟩:=AiH h;have w6:=WH (hc ▸ hs c c' h1);refine EF hm (u:=if t then a.eval x else a.eval y) ?_ ?_
 ·cases t<;>simp [execOp,k9,w6,asBool]
 ·cases t
  ·exact hs y b' h3
  ·exact hs x a' h2
theorem Akm (f:BinOp) (t:TypeId) (k k':IntKind) (x y:Int) (v:AV) (h:DM f k x k' y=some v) (w:World) : ∃ u,(binOp f t (.int k x) (.int k' y)).run P w = .ok u w/\((∃ n,v = .int k n/\u = .int k n) \/ ∃ b,v = .bool b/\u = .bool b):=by
 cases f<;>simp only[DM]at h;case shl =>
  split at h
  ·cases h
  ·rename_i hy;simp at h;subst h
   exact ⟨_,by simp [binOp,Op.shift,hy],.inl ⟨_,rfl,rfl⟩⟩
 case shr =>
  split at h
  ·cases h
  ·rename_i hy;simp at h;subst h
   exact ⟨_,by simp [binOp,Op.shift,hy],.inl ⟨_,rfl,rfl⟩⟩
 case quo =>
  split at h
  ·rename_i hy;obtain ⟨rfl,hy⟩:=hy;simp at h;subst h
   exact ⟨_,by simp [binOp,Op.intDiv,hy],.inl ⟨_,rfl,rfl⟩⟩
  ·cases h
 case rem =>
  split at h
  ·rename_i hy;obtain ⟨rfl,hy⟩:=hy;simp at h;subst h
   exact ⟨_,by simp [binOp,Op.intDiv,hy],.inl ⟨_,rfl,rfl⟩⟩
  ·cases h
 case and|or|xor|andNot =>
  all_goals
   split at h
   ·rename_i hk;subst hk;obtain rfl:=Option.some.inj h
    exact ⟨_,by simp only[binOp,ne_eq,not_true_eq_false,if_false];rfl,.inl ⟨_,rfl,rfl⟩⟩
   ·cases h
 case add|sub|mul =>
  all_goals
   split at h
   ·rename_i hk;subst hk;obtain rfl:=Option.some.inj h
    exact ⟨_,by simp [binOp,Op.intArith],.inl ⟨_,rfl,rfl⟩⟩
   ·cases h
 all_goals
  split at h
  ·rename_i hk;subst hk;obtain rfl:=Option.some.inj h
   exact ⟨_,by simp [binOp,Op.intCmp],.inr ⟨_,rfl,rfl⟩⟩
  ·cases h
theorem Akg (f:BinOp) (t:TypeId) (x y:Operand) (k k':IntKind) (n n':Int) (w:World):(eqGuard f t x y (.int k n) (.int k' n')).run P w = .ok () w:=by
 unfold eqGuard;cases f<;>simp
theorem Akh (f:BinOp) (t:TypeId) (x y:Operand) (b b':Bool) (w:World):(eqGuard f t x y (.bool b) (.bool b')).run P w = .ok () w:=by
 unfold eqGuard;cases f<;>simp
theorem Ae5 (hm:BU B S w0 m) (hs:CW B S m ρ a.eval) {f:BinOp} {x' y':AQ} (h:BD P num o.op (.bin f x' y')=true) {k k':IntKind} {n n':Int} {v:AV} (hx:ρ x' = .int k n) (hy:ρ y' = .int k' n') (hv:DM f k n k' n'=some v) :
  CY B S w0 P o a m (.val v):=by
 obtain ⟨t,x,y,u,k9,h1,h2⟩:=Aip h;have ex:=HQ (hx ▸ hs x x' h1);have ey:=HQ (hy ▸ hs y y' h2);obtain ⟨r,hr,bh⟩:=Akm (P:=P) f t k k' n n' v hv m.w;refine EF hm (u:=r) ?_ ?_
 ·simp [execOp,k9,ex,ey,Akg,hr]
 ·rcases bh with ⟨q,rfl,rfl⟩|⟨q,rfl,rfl⟩
  ·exact UH _ _
  ·exact aQ _
theorem Akj (t:TypeId) (b b':Bool) (hu:P.underlying t=some .bool) (w:World):(Op.equal t (.bool b) (.bool b')).run P w = .ok (b == b') w:=by
 have h : ∀ d:Nat,(Op.equalIn (d+1) t (.bool b) (.bool b')).run P w = .ok (b == b') w:=λ d=>by
  unfold Op.equalIn;rw[Sem.run_bind,run_underlying hu];rfl
 exact h 9999
theorem Ae4 (hm:BU B S w0 m) (hs:CW B S m ρ a.eval) {ne:Bool} {x' y':AQ} (h:BD P num o.op (.beq ne x' y')=true) {b b':Bool} (hx:ρ x' = .bool b) (hy:ρ y' = .bool b') :
  CY B S w0 P o a m (.val (.bool (if ne then !(b == b') else b == b'))):=by
 obtain ⟨t,x,y,u,k9,hu,h1,h2⟩:=Aio h;have ex:=WH (hx ▸ hs x x' h1);have ey:=WH (hy ▸ hs y y' h2);refine EF hm (u := .bool (if ne then !(b == b') else b == b')) ?_ (aQ _);cases ne<;>simp [execOp,k9,ex,ey,Akh,binOp,Akj t b b' hu]
theorem wR : ∀ {fs:List Field} {k n:Nat},fieldsI P k fs n=true->k<=n
 | [],k,n,h=>by simp only[fieldsI,beq_iff_eq]at h;omega
 | f::fs,k,n,h=>by
  simp only[fieldsI,Bool.and_eq_true]at h;have:=wR h.2
  omega
theorem Qh (d:Nat) (a b:List Int) (w:World) : ∀ {fs:List Field} {k:Nat},fieldsI P k fs a.length=true->b.length=a.length ->
  (Op.eqFields (d+1) (a.map (Value.int .i64)).toArray (b.map (Value.int .i64)).toArray fs).run P w = .ok (decide (a.drop k=b.drop k)) w
 | [],k,h,hl=>by
  simp only[fieldsI,beq_iff_eq]at h;rw[List.drop_of_length_le (by omega),List.drop_of_length_le (by omega)];simp [Op.eqFields]
 | f::fs,k,h,hl=>by
  simp only[fieldsI,Bool.and_eq_true,bne_iff_ne,beq_iff_eq]at h;obtain ⟨⟨⟨h1,h2⟩,h3⟩,h4⟩:=h;have hk:=wR h4;have hp:P.plainKey f.type=true:=by unfold Program.plainKey;split at h3<;>simp_all
  obtain ⟨kd,hu⟩ : ∃ kd,P.underlying f.type=some (.int kd):=by split at h3<;>simp_all
  have e1:(a.map (Value.int .i64)).toArray[f.offset]? = some (.int .i64 (a[k]'(by omega))):=by rw[h2];simp [zE (show k<a.length by omega)]
  have e2:(b.map (Value.int .i64)).toArray[f.offset]? = some (.int .i64 (b[k]'(by omega))):=by rw[h2];simp [zE (show k<b.length by omega)]
  have ih:=Qh d a b w h4 hl;have hd:(a.drop k=b.drop k)↔(a[k]'(by omega)=b[k]'(by omega)/\a.drop (k+1)=b.drop (k+1)):=by
   rw[List.drop_eq_getElem_cons (show k<a.length by omega),List.drop_eq_getElem_cons (show k<b.length by omega),List.cons.injEq]
  simp only[Op.eqFields,ne_eq,h1,not_false_eq_true,if_true,Sem.run_bind,run_part_plain w hp e1,run_part_plain w hp e2,Result.andThen_ok,run_equalIn_int w d f.type .i64 kd _ _ hu,Sem.run_ite];by_cases jk:a[k]'(by omega)=b[k]'(by omega)
  ·simp [jk,ih,hd]
  ·simp [jk,hd]
theorem mC : ∀ {cs:List AV} {a:List Int} {vs:List Value},H8 cs=some a->CL B S m cs vs->vs=a.map (Value.int .i64)
 | [],a,vs,h,hc=>by
  simp only[H8,Option.some.injEq]at h;subst h;have:=hc.1
  exact List.eq_nil_of_length_eq_zero (by simpa using this.symm)
 | c::r,a,vs,h,hc=>by
  cases vs with
  | nil=>have:=hc.1;simp at this
  | cons v vs =>
   cases c with
   | int k n =>
    cases k<;>simp only[H8]at h<;>first|cases h|skip
    cases hr:H8 r with
    | none=>rw[hr]at h;cases h
    | some b =>
     rw[hr]at h;simp only[Option.map_some,Option.some.injEq]at h;subst h;have h0:=HQ (.ca (.one (hc.2 0 _ v rfl rfl)));have ih:=mC (vs:=vs) hr ⟨by have:=hc.1;simpa using this,λ j c v h1 h2=>hc.2 (j+1) c v h1 h2⟩;rw[h0,ih];rfl
   | _=>simp only[H8]at h;cases h
theorem AeZ (hm:BU B S w0 m) (hs:CW B S m ρ a.eval) {ne:Bool} {n:Nat} {x' y':AQ} (h:BD P num o.op (.sf ne n x' y')=true) {cs ds:List AV} (hx:ρ x' = .agg cs) (hy:ρ y' = .agg ds) {p q:List Int} (hp:H8 cs=some p) (hq:H8 ds=some q) (hn:p.length=n/\q.length=n) :
  CY B S w0 P o a m (.val (.bool (if ne then !(decide (p=q)) else decide (p=q)))):=by
 obtain ⟨t,x,y,u,k9,eg,h1,h2⟩:=Ail h;obtain ⟨vx,ex,cx⟩:=dK (hx ▸ hs x x' h1);obtain ⟨vy,ey,cy⟩:=dK (hy ▸ hs y y' h2);obtain rfl:=mC hp cx;obtain rfl:=mC hq cy;obtain ⟨rfl,xu⟩:=hn;simp only[lO,Bool.and_eq_true,Bool.not_eq_true']at eg;obtain ⟨⟨hf,k6⟩,hg⟩:=eg;obtain ⟨fs,hu,iu⟩ : ∃ fs,P.underlying t=some (.struct fs)/\fieldsI P 0 fs.toList p.length=true:=by
  split at hf
  ·exact ⟨_,by assumption,hf⟩
  ·cases hf
 have Vm:P.fieldsOf t=fs:=by simp [Program.fieldsOf,hu]
 have hr:=run_equalIn_struct m.w 9999 t (p.map (Value.int .i64)).toArray (q.map (Value.int .i64)).toArray (by rw[Vm];exact hu) k6;rw[Vm,Qh 9998 p q m.w iu xu,List.drop_zero,List.drop_zero]at hr;refine EF hm (u := .bool (if ne then !(decide (p=q)) else decide (p=q))) ?_ (aQ _);cases ne
 ·simp [execOp,k9,ex,ey,run_eqGuard_agg m.w _ t x y _ _ hg,run_eql_struct,hr]
 ·simp [execOp,k9,ex,ey,run_eqGuard_agg m.w _ t x y _ _ hg,run_neq_struct,hr]
theorem AfI (hm:BU B S w0 m) (hs:CW B S m ρ a.eval) {f:UnOp} {x':AQ} (h:BD P num o.op (.un f x')=true) {v:AV} (hv:VZ f (ρ x')=some v):CY B S w0 P o a m (.val v):=by
 obtain ⟨t,x,k9,h1⟩:=AiL h;have hx:=hs x x' h1;unfold VZ at hv;split at hv
 ·rename_i k n hk
  have ex:=HQ (hk ▸ hx);split at hv
  ·obtain rfl:_=v:=by simpa using hv
   exact EF hm (by simp [execOp,k9,ex,Op.unary,Op.intArith]) (UH _ _)
  ·obtain rfl:_=v:=by simpa using hv
   exact EF hm (by simp only[execOp,k9,ex,Op.unary];rfl) (UH _ _)
  ·cases hv
 ·rename_i b hk
  have ex:=WH (hk ▸ hx);split at hv
  ·obtain rfl:_=v:=by simpa using hv
   exact EF hm (by simp [execOp,k9,ex,Op.unary]) (aQ _)
  ·cases hv
 ·cases hv
theorem Afg (hm:BU B S w0 m) (hs:CW B S m ρ a.eval) {k:IntKind} {x':AQ} (h:BD P num o.op (.conv k x')=true) {k':IntKind} {n:Int} (hx:ρ x' = .int k' n):CY B S w0 P o a m (.val (.int k (k.wrap n))):=by
 obtain ⟨s,d,x,ds,k9,Ck,hd,h1⟩:=Aiy h;have ex:=HQ (hx ▸ hs x x' h1);refine EF hm (u := .int k (k.wrap n)) ?_ (UH _ _);simp [execOp,k9,ex,convert,run_underlying Ck,run_underlying hd,Conv.intToInt]
theorem Akk (t:TypeId) (a:Option Addr) (n c:Nat) {e:TypeId} (hu:P.underlying t=some (.slice e)) (w:World):(Op.equal t (.slice a n c) (.slice none 0 0)).run P w = .ok a.isNone w:=by
 have h : ∀ d:Nat,(Op.equalIn (d+1) t (.slice a n c) (.slice none 0 0)).run P w = .ok a.isNone w:=λ d=>by
  unfold Op.equalIn;rw[Sem.run_bind,run_underlying hu];cases a<;>rfl
 exact h 9999
theorem Aki (f:BinOp) (t:TypeId) (x y:Operand) (a b:Option Addr) (n c n' c':Nat) (w:World):(eqGuard f t x y (.slice a n c) (.slice b n' c')).run P w = .ok () w:=by
 unfold eqGuard;cases f<;>simp
theorem dT (hm:BU B S w0 m) (hs:CW B S m ρ a.eval) {ne:Bool} {x':AQ} (h:BD P num o.op (.tu ne x')=true) {b:Bool} (hx : ∀ v,CV B S m (ρ x') v -> ∃ ad n c,v = .slice ad n c/\ad.isNone=b) :
  CY B S w0 P o a m (.val (.bool (xor b ne))):=by
 obtain ⟨t,x,u,e,k9,hu,h1⟩:=AiB h;obtain ⟨ad,n,c,ex,hb⟩:=hx _ (hs x x' h1);refine EF hm (u := .bool (xor b ne)) ?_ (aQ _);have e0:a.eval (.const (.slice none 0 0)) = .slice none 0 0:=rfl;cases ne<;>cases b<;>simp [execOp,k9,ex,e0,Aki,binOp,Akk t ad n c hu,hb]
theorem U8 {v:Value} (h:CV B S m .nil v):v = .slice none 0 0:=by
 cases h with
 | ca h=>cases h with
  | one h=>cases h with
   | rd h=>cases h
   | nil=>rfl
theorem tL {b:Bool} {v:Value} (h:CV B S m (.dh (.bool b)) v) : ∃ ad c,v = .slice ad 0 c/\ad.isNone=b:=by
 cases h with
 | ca h=>cases h with
  | one h=>cases h with
   | rd h=>cases h with
    | emp b a cap h=>exact ⟨a,cap,rfl,h⟩
theorem AeD {l:Bool} {e:List AV} {es:List (List AV)} {v:Value} (h:CV B S m (.sl l (e::es)) v) : ∃ ad n c,v = .slice ad n c/\ad.isNone=false:=by
 cases h with
 | ca h=>cases h with
  | one h=>cases h with
   | rd h=>cases h with
    | sl=>exact ⟨_,_,_,rfl,rfl⟩
theorem AeC {s t z off n:Nat} {v:Value} (h:CV B S m (.row s t z off (n+1)) v) : ∃ ad n c,v = .slice ad n c/\ad.isNone=false:=by
 cases h with
 | ca h=>cases h with
  | one h=>cases h with
   | rd h=>cases h
   | row _ _ _ _ _ a cap _ _ _ ha=>exact ⟨_,_,_,rfl,by have:=ha (by omega);cases a<;>simp_all⟩
theorem AfE (hm:BU B S w0 m) (hs:CW B S m ρ a.eval) {tb:List Nat} {x':AQ} (h:BD P num o.op (.gv tb x')=true) {k:IntKind} {n:Int} {v:Nat} (hx:ρ x' = .int k n) (h0:0<=n) (hv:tb[n.toNat]? = some v) :
  CY B S w0 P o a m (.val (.int .u8 v)):=by
 obtain ⟨t,s,i,k9,hu,pc,h1⟩:=AiI h;have ex:=HQ (hx ▸ hs i x' h1);have hb : ∃ b:UInt8,s[n.toNat]? = some b/\b.toNat=v:=by
  rw[<-pc,List.getElem?_map]at hv;cases hg:s.data.toList[n.toNat]? with
  | none=>simp [hg]at hv
  | some b =>
   simp only[hg,Option.map_some,Option.some.injEq]at hv;refine ⟨b,?_,hv⟩;have l9:n.toNat<s.size:=by
    have:=(zS hg).1
    simpa using this
   rw[getElem?_pos s n.toNat l9];congr 1;have:=(zS hg).2
   rw[<-this];rfl
 obtain ⟨b,pz,u7⟩:=hb;refine EF hm (u := .int .u8 v) ?_ (UH _ _);have e0:a.eval (.const (.string s)) = .string s:=rfl;simp [execOp,k9,ex,e0,Instr.index,asIntOf,run_underlying hu,h0,pz,u7]
theorem AjD {x c:AV} {v:Value} (h:CV B S m x v) (hc:GW x=some c):CC B S m c v:=by
 cases h with
 | any=>simp [GW]at hc
 | j5=>simp [GW]at hc
 | ca h=>cases h with
  | agg=>simp [GW]at hc
  | fn=>simp [GW]at hc
  | ua=>simp [GW]at hc
  | one h =>
   have:c=x:=by
    cases h with
    | rd h=>cases h<;>simp [GW]at hc<;>exact hc.symm
    | _=>simp [GW]at hc;exact hc.symm
   subst this;exact h
theorem vB (hs:CW B S m ρ a.eval) : ∀ {xs:List Operand} {n6:List AQ} {cs:List AV},EG xs n6=true->n6.mapM (λ x=>GW (ρ x))=some cs->CL B S m cs (xs.map a.eval)
 | [],[],cs,_,h=>by
  simp at h;subst h;exact ⟨rfl,λ j c v h=>by simp at h⟩
 | x::r,y::l,cs,h,hc=>by
  simp only[EG,Bool.and_eq_true]at h;simp only[List.mapM_cons,Option.bind_eq_bind,Option.pure_def]at hc;cases h1:GW (ρ y) with
  | none=>simp [h1]at hc
  | some c =>
   cases h2:l.mapM (λ x=>GW (ρ x)) with
   | none=>simp [h1,h2]at hc
   | some fe =>
    simp [h1,h2]at hc;subst hc;have ih:=vB hs h.2 h2;refine ⟨by simpa using ih.1,λ j c' v hj hv => ?_⟩;cases j with
    | zero =>
     simp at hj hv;subst hj hv;exact AjD (hs x y h.1) h1
    | succ j=>exact ih.2 j c' v (by simpa using hj) (by simpa using hv)
 | [],_::_,_,h,_=>by simp [EG]at h
 | _::_,[],_,h,_=>by simp [EG]at h
theorem Afy (hm:BU B S w0 m) (hs:CW B S m ρ a.eval) {p:Bool} {f:Nat} {n6:List AQ} (h:BD P num o.op (.qo p f n6)=true) {cs:List AV} (hc:n6.mapM (λ x=>GW (ρ x))=some cs) :
  CY B S w0 P o a m (.val (.fn (p&&cs.isEmpty) f (num f) cs)):=by
 obtain ⟨first,xs,k9,rfl,he⟩:=AiF h;have n7:=vB hs he hc;have gl:(xs.map a.eval)=(xs.toList.map a.eval).toArray:=by cases xs;simp
 refine EF hm (u := .func (.func (num f)) #[] (xs.toList.map a.eval).toArray) ?_ (.ca (.fn (p&&cs.isEmpty) f (num f) cs _ (λ h=>by simpa using (Bool.and_eq_true _ _ ▸ h:p=true/\cs.isEmpty=true).2) n7));simp [execOp,k9,Instr.makeFunc,gl]
end
end Go.c9

namespace Go.c9
open Go.RowKit
section
variable {B:Nat} {S:Nat->Prop} {w0:World} {m:M}
variable {P:Program} {num:Nat->Nat} {o:Oper} {a:Act} {ρ:AQ->AV}
theorem X5 {cs:List AV} {vs:List Value} (h:CL B S m cs vs) {j:Nat} {c:AV} (hj:cs[j]? = some c) : ∃ u,vs[j]? = some u/\CC B S m c u:=by
 have l9:j<cs.length:=(zS hj).1;have vm:j<vs.length:=by rw[<-h.1];exact l9
 exact ⟨vs[j],zE vm,h.2 j c _ hj (zE vm)⟩
theorem Ajv {s:Nat} {b:EC} {w':World} {g:Nat}:CV B S ⟨j8 m s (some g),m.own.put s ((m.own s).new b),w'⟩ (.ptr s (m.own.j7 s) 0 0) (.pointer (some ⟨g,0,none⟩)):=by
 refine .ca (.one (.ptr s (m.own.j7 s) 0 0 ⟨g,0,none⟩ ?_ λ b' l7=>⟨g,?_,by simp⟩))
 ·show _<AH.j7 _ s
  rw[O2];simp
 ·simp [j8]
theorem uD (hm:BU B S w0 m) (s:Nat) (cs:List AV) (vs:Array Value) (e:TypeId) (hc:CL B S m cs vs.toList) (h:(execOp a.eval o).run P m.w = .ok (.value (.pointer (some ⟨m.w.heap.size,0,none⟩))) (m.w.alloc (.cells vs e))) :
  CY B S w0 P o a m (.new s ⟨cs.length,[cs]⟩ (λ t => .ptr s t 0 0)):=by
 intro K Q hK;obtain ⟨h1,h2⟩:=cU hm s ⟨cs.length,[cs]⟩ vs e (by simp) (λ i fe hi j c hj=>by
  cases i with
  | zero =>
   obtain rfl:cs=fe:=by simpa using hi
   obtain ⟨u,hu,z0⟩:=X5 hc hj;exact ⟨u,by simpa using hu,z0⟩
  | succ i=>simp at hi)
 exact TQ h (hK _ ⟨j8 m s (some m.w.heap.size),m.own.put s ((m.own s).new ⟨cs.length,[cs]⟩),m.w.alloc (.cells vs e)⟩ rfl h1 h2 Ajv)
theorem Ae6 (hm:BU B S w0 m) (hs:CW B S m ρ a.eval) {s:Nat} {x':AQ} (h:BD P num o.op (.box s x')=true) {cs:List AV} (hc:cellsOf (ρ x')=some cs) :
  CY B S w0 P o a m (.new s ⟨cs.length,[cs]⟩ (λ t => .ptr s t 0 0)):=by
 obtain ⟨t,x,k9,h1⟩:=Aiq h;exact uD hm s cs (a.eval x).cells t (dM (hs x x' h1) hc) (by simp [execOp,k9,Instr.box,newVar,newRow])
theorem Ae0 (hm:BU B S w0 m) {s:Nat} {z:List AV} (h:BD P num o.op (.alloc s z)=true):CY B S w0 P o a m (.new s ⟨z.length,[z]⟩ (λ t => .ptr s t 0 0)):=by
 obtain ⟨t,k9,h1⟩:=Aim h;obtain ⟨i,v,hi,hz,he⟩:=qH h1;exact uD hm s z v.cells t (YD he) (by simp [execOp,k9,Instr.alloc,zeroValue,typeInfo,hi,hz,newVar,newRow])
theorem lT (off:Nat) : ∀ (vs:List Value) (k:Nat) (cells:Array Value),off+k+vs.length<=cells.size ->
  ((vs.zipIdx k).foldl (λ cs (x:Value × Nat)=>cs.setIfInBounds (off+x.2) x.1) cells).toList=cells.toList.take (off+k)++vs++cells.toList.drop (off+k+vs.length)
 | [],k,cells,_=>by simp
 | v::r,k,cells,h=>by
  simp only[List.length_cons]at h;rw[List.zipIdx_cons,List.foldl_cons,lT off r (k+1) _ (by simp;omega)];simp only[Array.toList_setIfInBounds,List.length_cons];apply List.ext_getElem?;intro q;have e1:(cells.toList.set (off+k) v).drop (off+(k+1)+r.length)=cells.toList.drop (off+k+(r.length+1)):=by
   rw[show off+(k+1)+r.length=off+k+(r.length+1) by omega];exact List.drop_set_of_lt (by omega)
  have e2:(cells.toList.set (off+k) v).take (off+(k+1))=cells.toList.take (off+k)++[v]:=by
   rw[show off+(k+1)=off+k+1 by omega,List.take_succ_eq_append_getElem (by simp;omega)];simp [List.take_set_of_le]
  rw[e1,e2];simp
theorem lL (place:Nat->Option (Nat × Nat)) (hs:CW B S m ρ a.eval) : ∀ (ps:List (Nat × Operand)) (fc:List (Nat × Nat × AQ)) (cs fe:List AV) (vs:Array Value),W4 place ps fc=true->CL B S m cs vs.toList ->
  fill cs (fc.map λ p=>(p.1,p.2.1,ρ p.2.2))=some fe -> ∃ bq,Instr.fill place vs (ps.map λ p=>(p.1,a.eval p.2))=some bq/\CL B S m fe bq.toList
 | [],[],cs,fe,vs,_,hc,hf=>by
  simp [fill]at hf;subst hf;exact ⟨vs,rfl,hc⟩
 | (i,x)::r,(off,n,y)::l,cs,fe,vs,hp,hc,hf=>by
  simp only[W4,Bool.and_eq_true,beq_iff_eq]at hp;obtain ⟨⟨Mz,Ed⟩,hp3⟩:=hp;simp only[List.map_cons,fill]at hf;cases hcell:cellsOf (ρ y) with
  | none=>simp [hcell]at hf
  | some us =>
   simp only[hcell]at hf;split at hf
   ·rename_i hn
    obtain ⟨hn1,Jc⟩:=hn;have ga:=dM (hs x y Ed) hcell;have v9:(a.eval x).cells.size=n:=by rw[<-hn1,ga.1];simp
    have Cv:off+(a.eval x).cells.size<=vs.size:=by rw[v9];have:=hc.1;simp at this;omega
    have vi:=lT off (a.eval x).cells.toList 0 vs (by simpa using Cv);have ik:Instr.fill place vs (((i,x)::r).map λ p=>(p.1,a.eval p.2))=Instr.fill place ((a.eval x).cells.zipIdx.foldl (λ cs (c,j)=>cs.setIfInBounds (off+j) c) vs) (r.map λ p=>(p.1,a.eval p.2)):=by
     simp only[List.map_cons,Instr.fill,Mz];rw[if_neg (by simp;omega)]
    rw[ik];refine lL place hs r l (splice cs off us) fe _ hp3 ?_ hf;have hz:((a.eval x).cells.zipIdx.foldl (λ cs (c,j)=>cs.setIfInBounds (off+j) c) vs).toList=vs.toList.take off++(a.eval x).cells.toList++vs.toList.drop (off+(a.eval x).cells.toList.length):=by
     rw[<-Array.foldl_toList];simpa using vi
    rw[hz];unfold splice;refine ⟨?_,λ j c v hj hv => ?_⟩
    ·have:=hc.1;have:=ga.1;simp at *;omega
    ·have kj:=hc.1
     have gk:=ga.1;simp only[Array.length_toList]at kj gk;rw[List.getElem?_append]at hj hv;simp only[List.length_append,List.length_take,Array.length_toList]at hj hv;rw[List.getElem?_append]at hj hv;simp only[List.length_take,Array.length_toList]at hj hv;have kn:min off cs.length=off:=by omega
     have ib:min off vs.size=off:=by omega
     rw[kn]at hj;rw[ib]at hv;rw[<-gk]at hv;split at hj
     ·rename_i h1
      rw[if_pos h1]at hv;split at hj
      ·rename_i h2
       rw[if_pos h2]at hv;rw[List.getElem?_take]at hj hv;rw[if_pos h2]at hj hv;exact hc.2 j c v hj hv
      ·rename_i h2
       rw[if_neg h2]at hv;exact ga.2 _ c v hj hv
     ·rename_i h1
      rw[if_neg h1]at hv;rw[List.getElem?_drop]at hj hv;exact hc.2 _ c v hj hv
   ·cases hf
 | [],_::_,_,_,_,hp,_,_=>by simp [W4]at hp
 | _::_,[],_,_,_,hp,_,_=>by simp [W4]at hp
theorem Ae8 (hm:BU B S w0 m) (hs:CW B S m ρ a.eval) {z:List AV} {fc:List (Nat × Nat × AQ)} (h:BD P num o.op (.build z fc)=true) {cs:List AV} (hf:fill z (fc.map λ p=>(p.1,p.2.1,ρ p.2.2))=some cs) :
  CY B S w0 P o a m (.val (.agg cs)):=by
 obtain ⟨t,ps,k9,h1,h2⟩:=Ais h;obtain ⟨i,v,hi,hz,he⟩:=qH h1;have key : ∃ bq,P.built t (ps.map λ p=>(p.1,a.eval p.2)).toList=some bq/\CL B S m cs bq.toList:=by
  unfold jG at h2;unfold Program.built;split at h2
  ·rename_i fs hu
   split at h2
   ·rename_i places hp
    obtain ⟨bq,h3,h4⟩:=lL _ hs ps.toList fc z cs v.cells h2 (YD he) hf;refine ⟨bq,?_,h4⟩;simp only[hi,hu,hz,hp,Array.toList_map];exact h3
   ·cases h2
  ·rename_i n e hu
   split at h2
   ·rename_i ie Mf
    obtain ⟨bq,h3,h4⟩:=lL _ hs ps.toList fc z cs v.cells h2 (YD he) hf;refine ⟨bq,?_,h4⟩;simp only[hi,hu,hz,Mf,Array.toList_map];exact h3
   ·cases h2
  ·cases h2
 obtain ⟨bq,h3,h4⟩:=key;refine EF hm (u := .agg bq) ?_ (.ca (by simpa using CA.agg cs bq.toList h4));simp only[execOp,k9,Sem.run_bind];rw[run_build m.w t _ bq h3];rfl
theorem wT (size:Nat) (hs:CW B S m ρ a.eval) : ∀ (ps:List (Nat × Operand)) (fc:List AQ) (k:Nat) (es:List (List AV)) (vs:Array Value),WL k ps fc=true->fc.mapM (λ x=>cellsOf (ρ x))=some es->(∀ e∈es,e.length=size)->vs.size=(k+fc.length)*size ->
  ∃ bq,Instr.fill (λ i=>some (i*size,size)) vs (ps.map λ p=>(p.1,a.eval p.2))=some bq/\bq.size=vs.size/\(∀ q,q<k*size->bq[q]? = vs[q]?) /\ ∀ i cs,es[i]? = some cs -> ∀ j c,cs[j]? = some c -> ∃ u,bq[(k+i)*size+j]? = some u/\CC B S m c u
 | [],[],k,es,vs,_,js,_,_=>by
  simp at js;subst js;exact ⟨vs,rfl,rfl,λ_ _=>rfl,λ i cs hi=>by simp at hi⟩
 | (i,x)::r,y::l,k,es,vs,he,js,hz,hv=>by
  simp only[WL,Bool.and_eq_true,beq_iff_eq]at he;obtain ⟨⟨rfl,h1⟩,h2⟩:=he;simp only[List.mapM_cons,Option.bind_eq_bind,Option.pure_def]at js;cases hcell:cellsOf (ρ y) with
  | none=>simp [hcell]at js
  | some us =>
   cases eo:l.mapM (λ x=>cellsOf (ρ x)) with
   | none=>simp [hcell,eo]at js
   | some es' =>
    simp [hcell,eo]at js;subst js;have ga:=dM (hs x y h1) hcell;have Wr:us.length=size:=hz us (by simp);have v9:(a.eval x).cells.size=size:=by rw[<-Wr,ga.1];simp
    simp only[List.length_cons]at hv;have hle:i*size+size<=vs.size:=by rw[hv,show i+(l.length+1)=i+1+l.length by omega,Nat.add_mul,Nat.add_mul];omega
    have vi:=lT (i*size) (a.eval x).cells.toList 0 vs (by simp [v9];omega);generalize Hr:(a.eval x).cells.zipIdx.foldl (λ cs (c,j)=>cs.setIfInBounds (i*size+j) c) vs=Ep;have jf:Ep.toList=vs.toList.take (i*size)++(a.eval x).cells.toList++vs.toList.drop (i*size+size):=by
     rw[<-Hr,<-Array.foldl_toList];simpa [v9] using vi
    have Ei:Ep.size=vs.size:=by
     have:=congrArg List.length jf
     simp [v9]at this;omega
    obtain ⟨bq,h3,h4,h5,h6⟩:=wT size hs r l (i+1) es' Ep h2 eo (λ e he=>hz e (by simp [he])) (by rw[Ei,hv];congr 1;omega);refine ⟨bq,?_,h4.trans Ei,λ q hq => ?_,λ i' cs o7 j c hj => ?_⟩
    ·simp only[List.map_cons,Instr.fill]
     rw[if_neg (by simp [v9];omega),Hr];exact h3
    ·rw[h5 q (by rw[Nat.add_mul];omega)]
     have:Ep.toList[q]? = vs.toList[q]? := by
      rw[jf,List.append_assoc,List.getElem?_append_left (by simp;omega),List.getElem?_take,if_pos hq]
     simpa using this
    ·cases i' with
     | zero =>
      obtain rfl:us=cs:=by simpa using o7
      obtain ⟨u,hu,z0⟩:=X5 ga hj;have cp:j<size:=by rw[<-Wr];exact (zS hj).1
      refine ⟨u,?_,z0⟩;rw[Nat.add_zero,h5 _ (by rw[Nat.add_mul];omega)];have:Ep.toList[i*size+j]? = some u:=by
       rw[jf,List.append_assoc,List.getElem?_append_right (by simp;omega)];simp only[List.length_take,Array.length_toList,show min (i*size) vs.size=i*size by omega,show i*size+j-i*size=j by omega];rw[List.getElem?_append_left (by simp [v9];omega)];exact hu
      simpa using this
     | succ i' =>
      obtain ⟨u,hu,z0⟩:=h6 i' cs (by simpa using o7) j c hj;exact ⟨u,by rw[show i+(i'+1)=i+1+i' by omega];exact hu,z0⟩
 | [],_::_,_,_,_,he,_,_,_=>by simp [WL]at he
 | _::_,[],_,_,_,he,_,_,_=>by simp [WL]at he
theorem nD {s z n cap:Nat} {es:List (List AV)} {w':World} {g:Nat} {arr:Array Value} {e:TypeId} (hz:0<z) (hn:n<=cap) (hg:w'.heap[g]? = some (.cells arr e (0,0))) (hc:cap*z<=arr.size) :
  CV B S ⟨j8 m s (some g),m.own.put s ((m.own s).new ⟨z,es⟩),w'⟩ (.row s (m.own.j7 s) z 0 n) (.slice (some ⟨g,0,none⟩) n cap):=by
 refine .ca (.one (.row s (m.own.j7 s) z 0 n _ cap ?_ hz hn (λ_=>rfl) λ b' l7=>⟨?_,.inr ⟨g,arr,e,?_,by simp,hg,by simpa using hc⟩⟩))
 ·show _<AH.j7 _ s
  rw[O2];simp
 ·change AH.get _ s _=some b' at l7
  rw[GF,if_pos ⟨rfl,rfl⟩]at l7;obtain rfl:(⟨z,es⟩:EC)=b':=by simpa using l7
  rfl
 ·simp [j8]
theorem uI (hm:BU B S w0 m) (s z n cap:Nat) (es:List (List AV)) (vs:Array Value) (e:TypeId) (dv:0<z) (hn:n<=cap) (v9:cap*z<=vs.size) (hz : ∀ x∈es,x.length=z)
  (hc : ∀ i cs,es[i]? = some cs -> ∀ j c,cs[j]? = some c -> ∃ u,vs[i*z+j]? = some u/\CC B S m c u)
  (h:(execOp a.eval o).run P m.w = .ok (.value (.slice (some ⟨m.w.heap.size,0,none⟩) n cap)) (m.w.alloc (.cells vs e))) :
  CY B S w0 P o a m (.new s ⟨z,es⟩ (λ t => .row s t z 0 n)):=by
 intro K Q hK;obtain ⟨h1,h2⟩:=cU hm s ⟨z,es⟩ vs e hz hc;exact TQ h (hK _ ⟨j8 m s (some m.w.heap.size),m.own.put s ((m.own s).new ⟨z,es⟩),m.w.alloc (.cells vs e)⟩ rfl h1 h2 (nD dv hn (heap_alloc_new _ _) v9))
theorem Ae7 (hm:BU B S w0 m) (hs:CW B S m ρ a.eval) {s b9:Nat} {fc:List AQ} (h:BD P num o.op (.e9 s b9 fc)=true) {es:List (List AV)} (js:fc.mapM (λ x=>cellsOf (ρ x))=some es) (hz : ∀ e∈es,e.length=b9) :
  CY B S w0 P o a m (.new s ⟨b9,es⟩ (λ t => .row s t b9 0 es.length)):=by
 obtain ⟨t,n,ps,e,i,k9,hu,hi,v9,h0,hn,Ny,fg,hzero⟩:=Air h;have hlen:es.length=n:=by
  rw[hn];clear h fg hzero hn;induction fc generalizing es with
  | nil=>simp at js;subst js;rfl
  | cons y l ih =>
   simp only[List.mapM_cons,Option.bind_eq_bind,Option.pure_def]at js;cases hcell:cellsOf (ρ y) with
   | none=>simp [hcell]at js
   | some us =>
    cases eo:l.mapM (λ x=>cellsOf (ρ x)) with
    | none=>simp [hcell,eo]at js
    | some es' =>
     simp [hcell,eo]at js;subst js;simp [ih eo (λ e he=>hz e (by simp [he]))]
 obtain ⟨zc,Bf⟩ : ∃ zc:Array Value,(n*b9=0/\zc = #[])\/(¬ n*b9=0 /\ ∃ z,i.zero=some z/\zc=z.cells):=by
  by_cases m5:n*b9=0
  ·exact ⟨#[],.inl ⟨m5,rfl⟩⟩
  ·rcases hzero with yf|⟨z,jf,ya⟩
   ·simp [yf]at m5
   ·exact ⟨z.cells,.inr ⟨m5,z,jf,rfl⟩⟩
 have Hv:((Array.range (n*b9)).map (zc[· % zc.size]!)).size=n*b9:=by simp
 obtain ⟨bq,h3,h4,_,h6⟩:=wT b9 hs ps.toList fc 0 es _ fg js hz (by rw[Hv,hn];simp);have o9:(execOp a.eval o).run P m.w = .ok (.value (.slice (some ⟨m.w.heap.size,0,none⟩) n n)) (m.w.alloc (.cells bq e)):=by
  simp only[execOp,k9,Instr.buildSlice,Sem.run_bind,run_underlying hu,Result.andThen_ok,sizeOf,typeInfo,run_program,hi,Sem.run_pure,v9];simp only[show ¬ (n*b9>2^24) from by omega,if_false,Sem.run_bind,Sem.run_pure,Result.andThen_ok];rcases Bf with ⟨yf,rfl⟩|⟨yf,z,jf,rfl⟩
  ·simp only[yf,if_true,Sem.run_bind,Sem.run_pure,Result.andThen_ok,Array.toList_map]
   rw[yf]at h3;rw[h3];rfl
  ·simp only[yf,if_false,Sem.run_bind,Sem.run_pure,Result.andThen_ok,Array.toList_map,zeroValue,typeInfo,run_program,hi,jf]
   rw[h3];rfl
 rw[hlen];exact uI hm s b9 n n es bq e (Nat.pos_of_ne_zero h0) (Nat.le_refl _) (by rw[h4,Hv];exact Nat.le_refl _) hz (λ i cs o7 j c hj=>by simpa using h6 i cs o7 j c hj) o9
end
end Go.c9
