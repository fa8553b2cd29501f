/-
  The abstract machine: data without memory. AV: a value; slices that are only read are lists ('sl'), rows and boxes of the call's own are named by a site and a stamp.
  Nothing here speaks of a program; EngSound ties it to the model.
-/
import Derived.Calls
import Derived.Below
import Derived.Laws.CopyRow
import Derived.Laws.Cells
import Derived.Laws.MakeOwn
import Derived.Laws.AppendOwn
import Derived.Deep.AppendSrc
import Derived.Deep.Draws
import Derived.ArgAppend
import Derived.Laws.StructEq
import Derived.ChangeKeysEq
set_option linter.unusedSimpArgs false
set_option linter.unusedVariables false
set_option linter.unnecessarySimpa false
namespace Go.c4
theorem zE {α : Type} {l : List α} {i : Nat} (h : i < l.length) : l[i]? = some l[i] :=
 List.getElem?_eq_getElem h
theorem zS {α : Type} {l : List α} {i : Nat} {a : α} (h : l[i]? = some a) : ∃ h : i < l.length, l[i] = a :=
 List.getElem?_eq_some_iff.1 h
theorem zM {α : Type} {l : List α} {i : Nat} {a : α} (h : l[i]? = some a) : a ∈ l :=
 List.mem_of_getElem? h
end Go.c4
namespace Go.c4
inductive AV where
 | int (k:IntKind) (n:Int)
 | bool (b:Bool)
 | sl (l:Bool) (es:List (List AV))
 | row (s t z off len:Nat)
 | nil
 | ptr (s t i j:Nat)
 | o8 (cs:List AV)
 | agg (cs:List AV)
 | j5 (vs:List AV)
 | z9 (v:Value)
 | fn (p:Bool) (f g:Nat) (cs:List AV)
 | any
 deriving Inhabited
inductive AM where
 | t (n:Nat)
 | c (v:AV)
 deriving Inhabited
structure DJ where
 a6:Nat
 es:List (List AV)
structure BX where
 g7:Nat
 e8:Nat->Option DJ
def AH:=Nat->BX
def AH.emp:AH:=λ_=>⟨0,λ_=>none⟩
def AH.put (o:AH) (s:Nat) (x:BX):AH:=λ s'=>if s'=s then x else o s'
def AH.get (o:AH) (s t:Nat):Option DJ:=(o s).e8 t
def AH.g7 (o:AH) (s:Nat):Nat:=(o s).g7
def BX.m7 (x:BX) (t:Nat) (b:Option DJ):BX:=⟨x.g7,λ t'=>if t'=t then b else x.e8 t'⟩
def BX.new (x:BX) (b:DJ):BX:=⟨x.g7+1,λ t'=>if t'=x.g7 then some b else x.e8 t'⟩
theorem AH.j4 (o:AH) (s:Nat) (x:BX):o.put s x s=x:=by simp [AH.put]
theorem AH.cr (o:AH) (s s':Nat) (x:BX) (h:s'≠s):o.put s x s'=o s':=by simp [AH.put,h]
theorem AH.du (o:AH) (s:Nat) (x y:BX):(o.put s x).put s y=o.put s y:=by
 funext s';by_cases h:s'=s<;>simp [AH.put,h]
inductive DL where
 | b7 (x:AM)
 | w9 (s a6:Nat)
 | pick (c a b:AM)
 | bin (op:BinOp) (x y:AM)
 | beq (ne:Bool) (x y:AM)
 | un (op:UnOp) (x:AM)
 | conv (k:IntKind) (x:AM)
 | box (s:Nat) (x:AM)
 | alloc (s:Nat) (zero:List AV)
 | build (zero:List AV) (parts:List (Nat × Nat × AM))
 | c9 (s a6:Nat) (parts:List AM)
 | a5 (x:AM) (off:Nat)
 | ja (x:AM) (off n:Nat) (agg:Bool)
 | a9 (arr:Option Nat) (a6:Nat) (x i:AM)
 | idx (len a6:Nat) (agg:Bool) (x i:AM)
 | ld (agg:Bool) (n:Nat) (x:AM)
 | st (n:Nat) (x v:AM)
 | mk (s a6 bytes:Nat) (zero:List AV) (l c:AM)
 | dc (a6:Nat) (x:AM) (lo hi:Option AM)
 | ext (x:AM) (i:Nat)
 | len (x:AM)
 | mm (max:Bool) (xs:List AM)
 | app (s a6 bytes:Nat) (x y:AM)
 | jq (a6:Nat) (x y:AM)
 | call (f:Nat) (xs:List AM)
 | g6 (f:Nat) (xs:List AM)
 | mr (ne:Bool) (x:AM)
 | ct (tb:List Nat) (x:AM)
 | kf (p:Bool) (f:Nat) (xs:List AM)
 | n9 (x:AM) (xs:List AM)
 | k9 (f:Nat) (xs:List AM)
 | jl (s n:Nat) (x v:AM)
 | o6 (s f:Nat) (xs:List AM)
 | mv (ne:Bool) (n:Nat) (x y:AM)
 | az (s a6 bytes:Nat) (x y:AM)
 | dd (x:AM)
 | jn (s a6 bytes:Nat) (x y:AM)
 | jm (s a6 bytes:Nat) (x y:AM)
 | y6 (s f:Nat) (xs:List AM)
 | bad
 | nm (x:AM)
 deriving Inhabited
structure AI where
 dst:Option Nat
 op:DL
 guard:Option (Nat × Bool):=none
 b9:List Nat:=[]
 deriving Inhabited
inductive BC where
 | skip
 | ops (l:List AI) (draw:Bool)
 | dr (c:BC) (ts ss:List Nat)
 | scope (c:BC)
 | seq (a b:BC)
 | cond (c:AM) (a b:BC)
 | block (id:Nat) (c:BC)
 | loop (c:BC)
 | exit (id:Nat)
 | ret
 deriving Inhabited
inductive ID where
 | tmp (t:Nat)
 | cell (t:Nat) (agg:Bool) (n:Nat)
 deriving Inhabited
structure AFn where
 v9:Nat
 body:BC
 res:List ID
 kj:Bool
abbrev Tm:=List (Nat × AV)
def e9:Tm->Nat->AV
 | [],_ => .any
 | (i,v)::r,j=>if j=i then v else e9 r j
def fb:Tm->Nat->AV->Tm
 | [],j,u=>[(j,u)]
 | (i,v)::r,j,u=>if j=i then (i,u)::r else if j<i then (j,u)::(i,v)::r else (i,v)::fb r j u
def v7:Tm->List Nat->Tm
 | [],_=>[]
 | (i,v)::r,l=>if l.contains i then v7 r l else (i,v)::v7 r l
theorem T3 (m:Tm) (i:Nat) (v:AV) (j:Nat):e9 (fb m i v) j=if j=i then v else e9 m j:=by
 induction m with
 | nil=>by_cases h:j=i<;>simp [fb,e9,h]
 | cons x r ih =>
  obtain ⟨a,u⟩:=x;by_cases h:i=a
  ·subst h
   by_cases h2:j=i<;>simp [fb,e9,h2]
  ·by_cases l6:i<a
   ·by_cases h2:j=i<;>simp [fb,e9,h,l6,h2]
   ·by_cases h2:j=a
    ·subst h2
     have : ¬ j=i:=λ e=>h e.symm
     simp [fb,e9,h,l6,this]
    ·simp [fb,e9,h,l6,h2,ih]
structure St where
 tm:Tm
 own:AH
def St.ev (st:St):AM->AV
 | .t n=>e9 st.tm n
 | .c v=>v
inductive BW where
 | val (v:AV)
 | new (s:Nat) (b:DJ) (v:Nat->AV)
 | sd (s:Nat) (b:DJ) (v:Nat->AV)
 | z0 (v:AV) (own:AH)
 | m7 (s:Nat) (x:BX)
 | nr (s:Nat) (x:BX) (v:AV)
def cellsOf:AV->Option (List AV)
 | .agg cs=>some cs
 | .fn _ _ _ _=>none
 | .j5 _=>none
 | .any=>none
 | v=>some [v]
def H6 (agg:Bool) (cs:List AV):Option AV :=
 if agg then some (.agg cs) else match cs with|[c]=>some c|_=>none
def part (cs:List AV) (off n:Nat):Option (List AV) :=
 if off+n<=cs.length then some ((cs.drop off).take n) else none
def splice (cs:List AV) (off:Nat) (vs:List AV):List AV:=cs.take off++vs++cs.drop (off+vs.length)
def fill (cells:List AV):List (Nat × Nat × AV)->Option (List AV)
 | []=>some cells
 | (off,n,v)::r=>match cellsOf v with
  | some vs=>if vs.length=n/\off+n<=cells.length then fill (splice cells off vs) r else none
  | none=>none
def C9 (op:BinOp) (k:IntKind) (a:Int) (k':IntKind) (b:Int):Option AV :=
 match op with
 | .shl=>if b<0 then none else some (.int k (k.wrap (a*2^(min b.toNat k.bits))))
 | .shr=>if b<0 then none else some (.int k (a.fdiv (2^(min b.toNat k.bits))))
 | .add=>if k=k' then some (.int k (k.wrap (a+b))) else none
 | .sub=>if k=k' then some (.int k (k.wrap (a-b))) else none
 | .mul=>if k=k' then some (.int k (k.wrap (a*b))) else none
 | .quo=>if k=k'/\b≠0 then some (.int k (k.wrap (a.tdiv b))) else none
 | .rem=>if k=k'/\b≠0 then some (.int k (a.tmod b)) else none
 | .and=>if k=k' then some (.int k (k.wrap (BitVec.ofInt k.bits a &&& BitVec.ofInt k.bits b).toNat)) else none
 | .or=>if k=k' then some (.int k (k.wrap (BitVec.ofInt k.bits a ||| BitVec.ofInt k.bits b).toNat)) else none
 | .xor=>if k=k' then some (.int k (k.wrap (BitVec.ofInt k.bits a ^^^ BitVec.ofInt k.bits b).toNat)) else none
 | .andNot=>if k=k' then some (.int k (k.wrap (BitVec.ofInt k.bits a &&& ~~~ BitVec.ofInt k.bits b).toNat)) else none
 | .eql=>if k=k' then some (.bool (a == b)) else none
 | .neq=>if k=k' then some (.bool (a != b)) else none
 | .lss=>if k=k' then some (.bool (decide (a<b))) else none
 | .leq=>if k=k' then some (.bool (decide (a<=b))) else none
 | .gtr=>if k=k' then some (.bool (decide (a>b))) else none
 | .geq=>if k=k' then some (.bool (decide (a≥b))) else none
def O0 (op:UnOp):AV->Option AV
 | .int k n=>match op with
  | .neg=>some (.int k (k.wrap (0-n)))
  | .xor=>some (.int k (k.wrap (BitVec.ofInt k.bits (if k.signed then -1 else k.max) ^^^ BitVec.ofInt k.bits n).toNat))
  | _=>none
 | .bool b=>match op with
  | .not=>some (.bool (!b))
  | _=>none
 | _=>none
def NT (max:Bool):AV->AV->Option AV
 | .int k a,.int _ b=>some (.int k (if max then (if b>a then b else a) else (if b<a then b else a)))
 | _,_=>none
def JB (max:Bool):AV->List AV->Option AV
 | v,[]=>some v
 | v,u::r=>match NT max v u with|some x=>JB max x r|none=>none
def AH.l9 (o:AH):List Nat->AH
 | []=>o
 | s::r=>λ s'=>if s'=s then ⟨0,λ_=>none⟩ else o.l9 r s'
def AH.kb (own:AH) (s t i j n:Nat):Option (List AV) :=
 match own.get s t with
 | some b=>match b.es[i]? with
  | some cs=>part cs j n
  | none=>none
 | none=>none
def AH.gi (own:AH) (s t i j:Nat) (vs:List AV):Option AH :=
 match own.get s t with
 | some b=>match b.es[i]? with
  | some cs=>if j+vs.length<=cs.length then some (own.put s ((own s).m7 t (some ⟨b.a6,b.es.set i (splice cs j vs)⟩))) else none
  | none=>none
 | none=>none
def DT (own:AH):AV->Option (List (List AV))
 | .sl _ es=>some es
 | .nil=>some []
 | .z9 (.bool _)=>some []
 | .row s t z off len=>match own.get s t with
  | some b=>if off+len<=b.es.length/\b.a6=z then some ((b.es.drop off).take len) else none
  | none=>none
 | _=>none
def lenOf:AV->Option Nat
 | .sl _ es=>some es.length
 | .nil=>some 0
 | .row _ _ _ _ len=>some len
 | _=>none
def snap (own:AH) (l:Bool):Nat->AV->Option AV
 | _,.int k n=>some (.int k n)
 | _,.bool b=>some (.bool b)
 | _,.sl l' es=>some (.sl l' es)
 | _,.nil=>some (.sl false [])
 | _,.z9 v=>some (.z9 v)
 | d+1,.row s t z off len=>match DT own (.row s t z off len) with
  | some es=>(es.mapM (λ cs:List AV=>cs.mapM (snap own l d))).map (AV.sl l)
  | none=>none
 | _,_=>none
def DB (own:AH) (l:Bool):AV->Option AV
 | .agg cs=>(cs.mapM (snap own l 6)).map AV.agg
 | v=>snap own l 6 v
def M6 (own:AH) (l:Bool):AV->Option AV
 | .nil=>some .nil
 | v=>DB own l v
def OX (own:AH) (l:Bool):AV->Option AV
 | .j5 cs=>(cs.mapM (DB own l)).map AV.j5
 | v=>DB own l v
mutual
def A1:AV->Prop
 | .int _ _=>True
 | .bool _=>True
 | .z9 _=>True
 | .sl l es=>l=false/\FM es
 | .agg cs=>CQ cs
 | .j5 cs=>CQ cs
 | _=>False
def CQ:List AV->Prop
 | []=>True
 | c::r=>A1 c/\CQ r
def FM:List (List AV)->Prop
 | []=>True
 | c::r=>CQ c/\FM r
end
def EA:Nat:=140737488355328
structure Cl where
 pure:Nat->List AV->Option AV
 dh:Nat->List AV->AH->Option (AV × AH)
 num:Nat->Nat
noncomputable def UT (C:Cl) (f:Nat) (vs:List AV) (s:Nat) (q:BX):Option (AV × BX) :=
 open Classical in if h : ∃ p : AV × BX, ∀ o : AH, o s = q -> C.dh f vs o = some (p.1, o.put s p.2) then some h.choose else none
theorem UU {C:Cl} {f:Nat} {vs:List AV} {s:Nat} {q:BX} {p:AV × BX}:UT C f vs s q=some p ↔ ∀ o:AH,o s=q->C.dh f vs o=some (p.1,o.put s p.2):=by
 unfold UT;constructor
 ·intro h
  split at h
  ·rename_i hx
   obtain rfl:=Option.some.inj h;exact hx.choose_spec
  ·cases h
 ·intro h
  rw[dif_pos ⟨p,h⟩];have h1:=(⟨p,h⟩ : ∃ p:AV × BX,∀ o:AH,o s=q->C.dh f vs o=some (p.1,o.put s p.2)).choose_spec (λ_=>q) rfl;have h2:=h (λ_=>q) rfl;have h3:=Option.some.inj (h2.symm.trans h1);refine congrArg some ?_;generalize (Exists.choose _:AV × BX)=p' at h3;obtain ⟨a,b⟩:=p;obtain ⟨a',b'⟩:=p';simp only[Prod.mk.injEq]at h3;obtain ⟨h4,h5⟩:=h3;have h6:b=b':=by
   have:=congrFun h5 s
   simpa [AH.put] using this
  rw[h4,h6]
def RK:AV->AV
 | .sl _ es => .sl false es
 | .nil => .sl false []
 | v=>v
def qt:AV->AV
 | .agg cs => .agg (cs.map RK)
 | v=>RK v
def S4:AV->AV
 | .sl _ es => .sl true es
 | v=>v
def ru:AV->AV
 | .agg cs => .agg (cs.map S4)
 | v=>S4 v
mutual
def FO:AV->AV
 | .sl _ es => .sl true (IK es)
 | v=>v
def GS:List AV->List AV
 | []=>[]
 | c::r=>FO c::GS r
def IK:List (List AV)->List (List AV)
 | []=>[]
 | c::r=>GS c::IK r
end
def I9:AV->AV
 | .agg cs => .agg (GS cs)
 | v=>FO v
def O2:AV->Prop
 | .j5 _=>False
 | .fn _ _ _ _=>False
 | _=>True
def GD:AV->Bool
 | .int _ _=>true | .bool _=>true | .sl _ _=>true | .nil=>true
 | _=>false
def dq:AV->Bool
 | .agg cs=>cs.all GD
 | v=>GD v
def Z2:AV->Bool
 | .int _ _=>true | .bool _=>true
 | _=>false
def RR:AV->Prop
 | .int _ _=>True
 | .bool _=>True
 | .sl _ es => ∀ e∈es,∀ c∈e,Z2 c=true
 | _=>False
def HE:AV->Prop
 | .agg cs => ∀ c∈cs,RR c
 | v=>RR v
open Classical in
noncomputable def JU (r:AV):AV:=if HE r then ru r else I9 r
theorem ZR {r:AV} (h:HE r):JU r=ru r:=if_pos h
theorem ZQ {r:AV} (h : ¬ HE r):JU r=I9 r:=if_neg h
def G7:List AV->Option (List Int)
 | []=>some []
 | .int .i64 n::r=>(G7 r).map (n :: ·)
 | _=>none
def GF:AV->Option AV
 | .agg _=>none
 | .fn _ _ _ _=>none
 | .j5 _=>none
 | .any=>none
 | v=>some v
open Classical in
noncomputable def MO (x:Option (AV × AH)):Option (Nat × List (List AV)):=match x with
 | some (.row s t z 0 n,o)=>match o.get s t with
  | some b=>if b.es.length=n/\FM b.es then some (z,b.es) else none
  | none=>none
 | _=>none
theorem tJ {x:Option (AV × AH)} {z:Nat} {es:List (List AV)} (h:MO x=some (z,es)) : ∃ s t o b,x=some (.row s t z 0 es.length,o)/\o.get s t=some b/\b.es=es/\FM es:=by
 unfold MO at h;split at h
 ·split at h
  ·rename_i s t z' n o b hb
   split at h
   ·rename_i hc
    obtain ⟨rfl,hc⟩:=hc;simp only[Option.some.injEq,Prod.mk.injEq]at h;obtain ⟨rfl,rfl⟩:=h;exact ⟨_,_,_,_,rfl,hb,rfl,hc⟩
   ·cases h
  ·cases h
 ·cases h
open Classical in
noncomputable def c8 (C:Cl) (b9:List Nat) (ρ:AM->AV) (own:AH):DL->Option BW
 | .b7 x=>some (.val (ρ x))
 | .w9 s a6=>some (.sd s ⟨a6,[]⟩ (λ t => .row s t a6 0 0))
 | .pick c a b=>match ρ c with
  | .bool true=>some (.val (ρ a))
  | .bool false=>some (.val (ρ b))
  | _=>none
 | .bin op x y=>match ρ x,ρ y with
  | .int k a,.int k' b=>(C9 op k a k' b).map .val
  | _,_=>none
 | .beq ne x y=>match ρ x,ρ y with
  | .bool a,.bool b=>some (.val (.bool (if ne then !(a == b) else a == b)))
  | _,_=>none
 | .un op x=>(O0 op (ρ x)).map .val
 | .conv k x=>match ρ x with
  | .int _ n=>some (.val (.int k (k.wrap n)))
  | _=>none
 | .box s x=>match cellsOf (ρ x) with
  | some cs=>some (.new s ⟨cs.length,[cs]⟩ (λ t => .ptr s t 0 0))
  | none=>none
 | .alloc s zero=>some (.new s ⟨zero.length,[zero]⟩ (λ t => .ptr s t 0 0))
 | .build zero parts=>(fill zero (parts.map λ p=>(p.1,p.2.1,ρ p.2.2))).map (λ cs => .val (.agg cs))
 | .c9 s a6 parts=>match parts.mapM (λ x=>cellsOf (ρ x)) with
  | some es=>if ∀ e∈es,e.length=a6 then some (.new s ⟨a6,es⟩ (λ t => .row s t a6 0 es.length)) else none
  | none=>none
 | .a5 x off=>match ρ x with
  | .ptr s t i j=>some (.val (.ptr s t i (j+off)))
  | .o8 cs=>some (.val (.o8 (cs.drop off)))
  | _=>none
 | .ja x off n agg=>match ρ x with
  | .agg cs=>match part cs off n with
   | some ds=>(H6 agg ds).map .val
   | none=>none
  | _=>none
 | .a9 arr a6 x i=>match ρ i with
  | .int _ n=>match arr,ρ x with
   | some len,.ptr s t i' j=>if 0<=n/\n<len then some (.val (.ptr s t i' (j+n.toNat*a6))) else none
   | some len,.o8 cs=>if 0<=n/\n<len then some (.val (.o8 (cs.drop (n.toNat*a6)))) else none
   | none,.row s t z off len=>if 0<=n/\n<len/\z=a6 then some (.val (.ptr s t (off+n.toNat) 0)) else none
   | none,.sl _ es=>if 0<=n then match es[n.toNat]? with
     | some cs=>if cs.length=a6 then some (.val (.o8 cs)) else none
     | none=>none
    else none
   | _,_=>none
  | _=>none
 | .idx len a6 agg x i=>match ρ i,ρ x with
  | .int _ n,.agg cs=>if 0<=n/\n<len then match part cs (n.toNat*a6) a6 with
    | some ds=>(H6 agg ds).map .val
    | none=>none
   else none
  | _,_=>none
 | .ld agg n x=>match ρ x with
  | .ptr s t i j=>match (own.l9 b9).kb s t i j n with
   | some cs=>(H6 agg cs).map .val
   | none=>none
  | .o8 cs=>match part cs 0 n with
   | some ds=>(H6 agg ds).map .val
   | none=>none
  | _=>none
 | .st n x v=>match ρ x,cellsOf (ρ v) with
  | .ptr s t i j,some vs=>if vs.length=n then (own.gi s t i j vs).map (BW.z0 (.j5 [])) else none
  | _,_=>none
 | .mk s a6 bytes zero l c=>match ρ l,ρ c with
  | .int _ a,.int _ b=>if 0<=a/\a<=b/\b*bytes<=EA/\b<=9223372036854775807/\zero.length=a6 then some (.new s ⟨a6,List.replicate a.toNat zero⟩ (λ t => .row s t a6 0 a.toNat)) else none
  | _,_=>none
 | .dc a6 x lo hi=>match ρ x with
  | .sl l es =>
   let h:Option Nat:=match hi with|none=>some es.length|some o=>match ρ o with | .int _ n=>if 0<=n/\n<=es.length then some n.toNat else none|_=>none
   let a:Option Nat:=match lo with|none=>some 0|some o=>match ρ o with | .int _ n=>if 0<=n then some n.toNat else none|_=>none
   match a,h with
   | some a,some h=>if a<=h /\ ∀ e∈es,e.length=a6 then some (.val (.sl l ((es.take h).drop a))) else none
   | _,_=>none
  | .nil =>
   let h:Option Nat:=match hi with|none=>some 0|some o=>match ρ o with | .int _ n=>if n=0 then some 0 else none|_=>none
   let a:Option Nat:=match lo with|none=>some 0|some o=>match ρ o with | .int _ n=>if n=0 then some 0 else none|_=>none
   match a,h with
   | some _,some _=>some (.val .nil)
   | _,_=>none
  | .row s t z off len =>
   let h:Option Nat:=match hi with|none=>some len|some o=>match ρ o with | .int _ n=>if 0<=n/\n<=len then some n.toNat else none|_=>none
   let a:Option Nat:=match lo with|none=>some 0|some o=>match ρ o with | .int _ n=>if 0<=n then some n.toNat else none|_=>none
   match a,h with
   | some a,some h=>if a<=h/\z=a6 then some (.val (.row s t z (off+a) (h-a))) else none
   | _,_=>none
  | _=>none
 | .ext x i=>match ρ x with
  | .j5 vs=>(vs[i]?).map .val
  | _=>none
 | .len x=>match lenOf (ρ x) with
  | some n=>some (.val (.int .i64 (n:Int)))
  | none=>none
 | .mm max xs=>match xs.map ρ with
  | []=>none
  | v::r=>(JB max v r).map .val
 | .app s a6 bytes x y=>match DT own (ρ y) with
  | some ys=>if ∀ e∈ys,e.length=a6 then match ρ x with
    | .row s' t z 0 len=>match own.get s' t with
     | some b=>if b.a6=a6/\z=a6/\len<=b.es.length/\(len+ys.length)*bytes<=EA/\len+ys.length<=9223372036854775807 then
       some (.z0 (.row s' (own.g7 s') a6 0 (len+ys.length)) (own.put s' (((own s').m7 t none).new ⟨a6,b.es.take len++ys⟩)))
      else none
     | none=>none
    | .nil=>if ys.length*bytes<=EA/\ys.length<=9223372036854775807 then
       some (.z0 (.row s (own.g7 s) a6 0 ys.length) (own.put s ((own s).new ⟨a6,ys⟩))) else none
    | _=>none
   else none
  | none=>none
 | .az s a6 bytes x y=>match ρ y,ρ x with
  | .sl _ ys,.row s' t z 0 len=>match own.get s t with
   | some b=>if s'=s/\(∀ e∈ys,e.length=a6)/\b.a6=a6/\z=a6/\len<=b.es.length/\(len+ys.length)*bytes<=EA/\len+ys.length<=9223372036854775807 then
     some (.nr s (((own s).m7 t none).new ⟨a6,b.es.take len++ys⟩) (.row s (own.g7 s) a6 0 (len+ys.length)))
    else none
   | none=>none
  | _,_=>none
 | .jq a6 x y=>match ρ x,DT own (ρ y) with
  | .row s t z off len,some ys=>match own.get s t with
   | some b=>if b.a6=a6/\z=a6/\off+len<=b.es.length/\(∀ e∈ys,e.length=a6) then
     some (.z0 (.int .i64 (min ys.length len:Nat)) (own.put s ((own s).m7 t (some ⟨a6,b.es.take off++ys.take len++b.es.drop (off+min ys.length len)⟩))))
    else none
   | none=>none
  | _,_=>none
 | .call f xs=>match (xs.map ρ).mapM (DB (own.l9 b9) true) with
  | some vs=>(C.pure f vs).map .val
  | none=>none
 | .g6 f xs=>(C.dh f (xs.map ρ) own).map (λ r => .z0 r.1 r.2)
 | .mr ne x=>match ρ x with
  | .nil=>some (.val (.bool (xor true ne)))
  | .z9 (.bool b)=>some (.val (.bool (xor b ne)))
  | .sl _ (_::_)=>some (.val (.bool (xor false ne)))
  | .row _ _ _ _ (_+1)=>some (.val (.bool (xor false ne)))
  | _=>none
 | .bad=>none
 | .nm x=>match ρ x with
  | .ptr s t i j=>some (.val (.ptr s t i j))
  | _=>none
 | .dd x=>match ρ x with
  | .nil=>some (.val (.int .i64 0))
  | _=>none
 | .jn s a6 bytes x y=>match ρ x,ρ y with
  | .nil,.int _ n=>if 0<n/\n*bytes<=EA/\n<=9223372036854775807 then some (.new s ⟨a6,[]⟩ (λ t => .row s t a6 0 n.toNat)) else none
  | _,_=>none
 | .y6 s f xs=>(UT C f (xs.map ρ) s (own s)).map λ p => .nr s p.2 p.1
 | .jm s a6 bytes x y=>match ρ x,ρ y with
  | .nil,.sl _ ys=>if (∀ e∈ys,e.length=a6)/\0<ys.length/\ys.length*bytes<=EA/\ys.length<=9223372036854775807 then some (.new s ⟨a6,ys⟩ (λ t => .row s t a6 0 ys.length)) else none
  | _,_=>none
 | .ct tb x=>match ρ x with
  | .int _ n=>if 0<=n then (match tb[n.toNat]? with
   | some v=>some (.val (.int .u8 v))
   | none=>none) else none
  | _=>none
 | .kf p f xs=>(xs.mapM (λ x=>GF (ρ x))).map (λ cs => .val (.fn p f (C.num f) cs))
 | .k9 f xs=>if (xs.map ρ).all dq=true then (match C.pure f ((xs.map ρ).map qt) with
   | some r=>if HE r\/O2 r then some (.val (JU r)) else none
   | none=>none) else none
 | .jl s n x v=>match ρ x,cellsOf (ρ v) with
  | .ptr s' t i j,some vs=>if s'=s/\vs.length=n then (own.gi s t i j vs).map (λ o'=>BW.m7 s (o' s)) else none
  | _,_=>none
 | .mv ne n x y=>match ρ x,ρ y with
  | .agg cs,.agg ds=>match G7 cs,G7 ds with
   | some a,some b=>if a.length=n/\b.length=n then some (.val (.bool (if ne then !(decide (a=b)) else decide (a=b)))) else none
   | _,_=>none
  | _,_=>none
 | .o6 s f xs=>match (xs.map ρ).mapM (M6 (own.l9 b9) true) with
  | some vs=>(MO (C.dh f vs AH.emp)).map (λ r => .new s ⟨r.1,r.2⟩ (λ t => .row s t r.1 0 r.2.length))
  | none=>none
 | .n9 x xs=>match ρ x with
  | .fn p f g cs=>if g=C.num f then (match p,cs with
   | true,[]=>(match (xs.map ρ).mapM (DB own true) with
    | some vs=>(C.pure f vs).map .val
    | none=>none)
   | false,cs=>(C.dh f (xs.map ρ++cs) own).map (λ r => .z0 r.1 r.2)
   | _,_=>none) else none
  | _=>none
def St.dst (st:St) (d:Option Nat) (v:AV):St :=
 match d with
 | some d=>{ st with tm:=fb st.tm d v }
 | none=>st
def St.app (st:St) (d:Option Nat):BW->St
 | .val v=>st.dst d v
 | .new s b v=>{ (st.dst d (v (st.own.g7 s))) with own:=st.own.put s ((st.own s).new b) }
 | .sd s b v=>{ (st.dst d (v (st.own.g7 s))) with own:=st.own.put s ((st.own s).new b) }
 | .z0 v o=>{ (st.dst d v) with own:=o }
 | .m7 s x=>{ (st.dst d (.j5 [])) with own:=st.own.put s x }
 | .nr s x v=>{ (st.dst d v) with own:=st.own.put s x }
def E4 (st:St):Option (Nat × Bool)->Option Bool
 | none=>some true
 | some (g,want)=>match e9 st.tm g with
  | .bool b=>some (b == want)
  | .j5 []=>some false
  | _=>none
noncomputable def C3 (C:Cl) (o:AI) (st:St):Option St :=
 match E4 st o.guard with
 | some true=>(c8 C o.b9 st.ev st.own o.op).map (st.app o.dst)
 | some false=>some (st.dst o.dst (.j5 []))
 | none=>none
noncomputable def C6 (C:Cl):List AI->St->Option St
 | [],st=>some st
 | o::r,st=>match C3 C o st with
  | some j7=>C6 C r j7
  | none=>none
def D7:DL->Option Nat
 | .w9 s _=>some s
 | .box s _=>some s
 | .alloc s _=>some s
 | .c9 s _ _=>some s
 | .mk s _ _ _ _ _=>some s
 | .jl s _ _ _=>some s
 | .o6 s _ _=>some s
 | .az s _ _ _ _=>some s
 | .jn s _ _ _ _=>some s
 | .jm s _ _ _ _=>some s
 | .y6 s _ _=>some s
 | _=>none
inductive It where
 | code (c:BC)
 | iz (ts ss:List Nat)
 | e8 (id:Nat)
 | lp (c:BC)
def EX (id:Nat):List It->Option (List It)
 | .e8 Cs::k=>if Cs=id then some k else EX id k
 | _::k=>EX id k
 | []=>none
def AH.drop (o:AH):List Nat->AH
 | []=>o
 | s::r=>(o.drop r).put s ⟨(o s).g7,λ_=>none⟩
noncomputable def run (C:Cl):Nat->List It->St->Option St
 | 0,_,_=>none
 | _+1,[],st=>some st
 | n+1,.e8 _::k,st=>run C n k st
 | n+1,.iz ts ss::k,st=>run C n k ⟨v7 st.tm ts,st.own.drop ss⟩
 | n+1,.lp c::k,st=>run C n (.code c :: .lp c::k) st
 | n+1,.code c::k,st=>match c with
  | .skip=>run C n k st
  | .ops l _=>match C6 C l st with
   | some j7=>run C n k j7
   | none=>none
  | .dr c ts ss=>run C n (.code c :: .iz ts ss::k) st
  | .scope c=>run C n (.code c::k) st
  | .seq a b=>run C n (.code a :: .code b::k) st
  | .cond c a b=>match st.ev c with
   | .bool true=>run C n (.code a::k) st
   | .bool false=>run C n (.code b::k) st
   | _=>none
  | .block id c=>run C n (.code c :: .e8 id::k) st
  | .loop c=>run C n (.code c :: .lp c::k) st
  | .exit id=>match EX id k with
   | some k'=>run C n k' st
   | none=>none
  | .ret=>some st
def CH (i:Nat):List AV->Tm
 | []=>[]
 | v::r=>(i,v)::CH (i+1) r
def H8:AV->Option AV
 | .any=>none
 | .j5 _=>none
 | v=>some v
def EQ (st:St):ID->Option AV
 | .tmp t=>H8 (e9 st.tm t)
 | .cell t agg n=>match e9 st.tm t with
  | .ptr s u i j=>match st.own.kb s u i j n with
   | some cs=>H6 agg cs
   | none=>none
  | _=>none
def G8:List AV->AV
 | [v]=>v
 | vs => .j5 vs
structure Lib where
 fn:Nat->Option AFn
 num:Nat->Nat
instance : CoeFun Lib (λ_ => Nat -> Option AFn) := ⟨Lib.fn⟩
open Classical in
noncomputable def HO (I:List AV->Option (AV × AH)) (vs:List AV):Option AV :=
 match I vs with
 | some (r,o)=>match OX o false r with
  | some r'=>if A1 r' then some r' else none
  | none=>none
 | none=>none
def Lib.kj (L:Lib) (f:Nat):Bool:=match L f with
 | some fn=>fn.kj
 | none=>false
open Classical in
noncomputable def JC (b:Bool) (I:List AV->Option (AV × AH)) (vs:List AV):Option AV:=match b,vs with
 | true,.sl _ []::vs=>match HO I (.z9 (.bool true)::vs),HO I (.z9 (.bool false)::vs) with
  | some r,some r'=>if r=r' then some r else none
  | _,_=>none
 | _,vs=>HO I vs
noncomputable def DD (L:Lib):Nat->Nat->List AV->AH->Option (AV × AH)
 | 0,_,_,_=>none
 | n+1,f,args,own=>match L f with
  | none=>none
  | some fn=>if args.length=fn.v9 then
    match run ⟨λ f vs=>JC (L.kj f) (λ vs=>DD L n f vs AH.emp) vs,DD L n,L.num⟩ n [.code fn.body] ⟨CH 0 args,own⟩ with
    | some st=>match fn.res.mapM (EQ st) with
     | some vs=>some (G8 vs,st.own)
     | none=>none
    | none=>none
   else none
noncomputable def G6 (L:Lib) (n f:Nat) (vs:List AV):Option AV:=JC (L.kj f) (λ vs=>DD L n f vs AH.emp) vs
noncomputable def C8 (L:Lib) (n:Nat):Cl:=⟨G6 L n,DD L n,L.num⟩
theorem SK (L:Lib) (n f:Nat) (args:List AV) (own:AH):DD L (n+1) f args own =
  match L f with
  | none=>none
  | some fn=>if args.length=fn.v9 then
    match run (C8 L n) n [.code fn.body] ⟨CH 0 args,own⟩ with
    | some st=>match fn.res.mapM (EQ st) with
     | some vs=>some (G8 vs,st.own)
     | none=>none
    | none=>none
   else none:=rfl
namespace C
abbrev o (d:Nat) (op:DL):AI:=⟨some d,op,none,[]⟩
abbrev n (op:DL):AI:=⟨none,op,none,[]⟩
abbrev g (d i:Nat) (b:Bool) (op:DL):AI:=⟨some d,op,some (i,b),[]⟩
abbrev m (d s:Nat):AI:=⟨some d,.b7 (.t s),none,[]⟩
abbrev k (v:Int):AM := .c (.int .i64 v)
abbrev z:AV := .int .i64 0
abbrev q (d:Nat) (b9:List Nat) (op:DL):AI:=⟨some d,op,none,b9⟩
abbrev u (b9:List Nat) (op:DL):AI:=⟨none,op,none,b9⟩
abbrev v (d i:Nat) (b:Bool) (b9:List Nat) (op:DL):AI:=⟨some d,op,some (i,b),b9⟩
abbrev p (l:List AI):BC := .ops l false
abbrev P (l:List AI):BC := .ops l true
abbrev d (l:List AI) (ts:List Nat):BC := .dr (.ops l false) ts []
abbrev e (l:List AI) (ts:List Nat):BC := .dr (.ops l true) ts []
abbrev s (a b:BC):BC := .seq a b
abbrev i (c:AM) (a b:BC):BC := .cond c a b
abbrev b (id:Nat) (c:BC):BC := .block id c
abbrev w (c:BC):BC := .loop c
abbrev x (id:Nat):BC := .exit id
instance (i : Nat) : OfNat AM i := ⟨.t i⟩
end C
end Go.c4
namespace Go.c4
def VD:Value->AV->Bool
 | .int k n,.int k' n'=>k == k'&&n == n'
 | .bool b,.bool b'=>b == b'
 | .slice none 0 0,.nil=>true
 | .string s,.z9 (.string s')=>s.data.toList == s'.data.toList
 | _,_=>false
def NL:List Value->List AV->Bool
 | [],[]=>true
 | v::r,a::l=>VD v a&&NL r l
 | _,_=>false
def YG:Value->AV->Bool
 | .agg cs,.agg l=>NL cs.toList l
 | v,a=>VD v a
def BF:Operand->AM->Bool
 | .tmp t,.t n=>t == n
 | .const v,.c a=>YG v a
 | .func g,.c (.fn _ _ g' [])=>g == g'
 | _,_=>false
def DX:List Operand->List AM->Bool
 | [],[]=>true
 | v::r,a::l=>BF v a&&DX r l
 | _,_=>false
def MW:Option Operand->Option AM->Bool
 | none,none=>true
 | some x,some y=>BF x y
 | _,_=>false
section
variable (P:Program)
def PA (t:TypeId):Option Bool :=
 match P.underlying t with
 | some (.struct _)=>some true
 | some (.array _ _)=>some true
 | some _=>some false
 | none=>none
def GI (t:TypeId) (n:Nat):Bool:=match P.info? t with|some i=>i.size == n|none=>false
def PD (t:TypeId) (n:Nat):Bool:=match P.info? t with|some i=>i.bytes == n|none=>false
def QG (t:TypeId) (l:List AV):Bool:=match P.info? t with|some i=>(match i.zero with|some z=>NL z.cells.toList l|none=>false)|none=>false
def GJ (t:TypeId) (f:TypeId->Bool):Bool:=match P.underlying t with|some (.slice e)=>f e|_=>false
def jN (t:TypeId) (i off n:Nat):Bool:=match P.underlying t with
 | some (.struct fs)=>(match fs[i]? with|some f=>f.offset == off&&GI P f.type n&&n != 0|none=>false)
 | _=>false
def jO (t:TypeId) (i:Nat) (agg:Bool):Bool:=match P.underlying t with
 | some (.struct fs)=>(match fs[i]? with|some f=>PA P f.type == some agg|none=>false)
 | _=>false
def P0 (place:Nat->Option (Nat × Nat)):List (Nat × Operand)->List (Nat × Nat × AM)->Bool
 | [],[]=>true
 | (i,x)::r,(off,n,y)::l=>place i == some (off,n)&&BF x y&&P0 place r l
 | _,_=>false
def XN (t:TypeId) (ps:List (Nat × Operand)) (bl:List (Nat × Nat × AM)):Bool:=match P.underlying t with
 | some (.struct fs)=>(match fs.toList.mapM (λ f=>(P.info? f.type).map λ i=>(f.offset,i.size)) with|some places=>P0 (places.toArray[·]?) ps bl|none=>false)
 | some (.array _ e)=>(match P.info? e with|some ie=>P0 (λ i=>some (i*ie.size,ie.size)) ps bl|none=>false)
 | _=>false
def PM (k:Nat):List (Nat × Operand)->List AM->Bool
 | [],[]=>true
 | (i,x)::r,y::l=>i == k&&BF x y&&PM (k+1) r l
 | _,_=>false
def fieldsI:Nat->List Field->Nat->Bool
 | k,[],n=>k == n
 | k, f :: fs, n => f.name != "_" && f.offset == k && (match P.underlying f.type with | some (.int _) => true | _ => false) && fieldsI (k + 1) fs n
def Y3 (t:TypeId) (n:Nat):Bool:=(match P.underlying t with|some (.struct fs)=>fieldsI P 0 fs.toList n|_=>false) && !P.stoodInHeld t && !P.eqGuardType P.depth t
def A2 (num:Nat->Nat) (op:Op):DL->Bool
 | .b7 y=>match op with | .move x=>BF x y | .assign x=>BF x y|_=>false
 | .w9 _ z=>z != 0&&(match op with | .move (.const (.slice none 0 0))=>true | .assign (.const (.slice none 0 0))=>true|_=>false)
 | .pick c' a' b'=>match op with | .pick c a b=>BF c c'&&BF a a'&&BF b b'|_=>false
 | .bin vt x' y'=>match op with | .binOp op _ x y _=>op == vt&&BF x x'&&BF y y'|_=>false
 | .beq ne x' y'=>match op with | .binOp op t x y _=>(if ne then op == .neq else op == .eql)&&(match P.underlying t with|some .bool=>true|_=>false)&&BF x x'&&BF y y'|_=>false
 | .un vt x'=>match op with | .unOp op _ x=>op == vt&&BF x x'|_=>false
 | .conv k x'=>match op with | .convert s d x=>(P.underlying s).isSome&&(match P.underlying d with|some (.int k')=>k == k'|_=>false)&&BF x x'|_=>false
 | .box _ x'=>match op with | .box _ x=>BF x x'|_=>false
 | .alloc _ z=>match op with | .alloc t=>QG P t z|_=>false
 | .build z bl=>match op with | .build t ps=>QG P t z&&XN P t ps.toList bl|_=>false
 | .c9 _ a6 bl=>match op with
  | .buildSlice t n ps=>GJ P t (λ e=>GI P e a6)&&a6 != 0&&n == bl.length&&decide (n*a6<=16777216)&&PM 0 ps.toList bl&&(n == 0||GJ P t (λ e=>match P.info? e with|some i=>(match i.zero with|some z=>z.cells.size == a6|none=>false)|none=>false))
  | _=>false
 | .a5 x' off=>match op with
  | .fieldAddr s x f=>BF x x'&&(match P.underlying s with|some (.struct fs)=>(match fs[f]? with|some fd=>fd.offset == off&&(match P.info? fd.type with|some i=>i.size != 0|none=>false)|none=>false)|_=>false)
  | _=>false
 | .ja x' off n agg=>match op with | .field t x f=>BF x x'&&jN P t f off n&&jO P t f agg|_=>false
 | .a9 arr a6 x' i'=>match op with
  | .indexAddr t x i=>BF x x'&&BF i i'&&(match P.underlying t,arr with|some (.array len e),some gf=>len == gf&&GI P e a6&&decide (1<len)|some (.slice e),none=>GI P e a6&&a6 != 0|_,_=>false)
  | _=>false
 | .idx len a6 agg x' i'=>match op with
  | .index t x i=>BF x x'&&BF i i'&&(match P.underlying t with|some (.array gf e)=>len == gf&&GI P e a6&&PA P e == some agg|_=>false)
  | _=>false
 | .ld agg n x'=>match op with | .load t x=>BF x x'&&PA P t == some agg&&(if agg then GI P t n else n == 1)|_=>false
 | .st n x' v'=>match op with | .store t x v=>BF x x'&&BF v v'&&GI P t n|_=>false
 | .mk _ a6 bytes z l' c'=>match op with
  | .makeSlice t l c=>BF l l'&&BF c c'&&GJ P t (λ e=>GI P e a6&&PD P e bytes&&QG P e z)&&a6 != 0
  | _=>false
 | .dc a6 x' ji m4=>match op with
  | .slice t x lo hi none=>BF x x'&&MW lo ji&&MW hi m4&&GJ P t (λ e=>GI P e a6)&&a6 != 0
  | _=>false
 | .ext x' i'=>match op with | .extract x i=>BF x x'&&i == i'|_=>false
 | .len x'=>match op with
  | .call ⟨.builtin .len,xs,ts⟩=>(match xs.toList,ts.toList with|[x],[t]=>BF x x'&&GJ P t (λ_=>true)|_,_=>false)
  | _=>false
 | .mm max m8=>match op with
  | .call ⟨.builtin .min,xs,_⟩ => !max&&DX xs.toList m8
  | .call ⟨.builtin .max,xs,_⟩=>max&&DX xs.toList m8
  | _=>false
 | .app _ a6 bytes x' y'=>match op with
  | .call ⟨.builtin .append,xs,ts⟩=>(match xs.toList,ts.toList with
   | [x,y],[t,u]=>BF x x'&&BF y y'&&GJ P t (λ e=>GI P e a6&&PD P e bytes&&(match P.info? e with|some i=>(match i.zero with|some z=>z.cells.size == a6|none=>false)|none=>false))&&a6 != 0&&GJ P u (λ_=>true)
   | _,_=>false)
  | _=>false
 | .az _ a6 bytes x' y'=>match op with
  | .call ⟨.builtin .append,xs,ts⟩=>(match xs.toList,ts.toList with
   | [x,y],[t,u]=>BF x x'&&BF y y'&&GJ P t (λ e=>GI P e a6&&PD P e bytes&&(match P.info? e with|some i=>(match i.zero with|some z=>z.cells.size == a6|none=>false)|none=>false))&&a6 != 0&&GJ P u (λ_=>true)
   | _,_=>false)
  | _=>false
 | .jq a6 x' y'=>match op with
  | .call ⟨.builtin .copy,xs,ts⟩=>(match xs.toList,ts.toList with
   | [x,y],[t,u]=>BF x x'&&BF y y'&&GJ P t (λ e=>GI P e a6)&&a6 != 0&&u == t
   | _,_=>false)
  | _=>false
 | .call f' m8=>match op with
  | .call ⟨.value (.func f),xs,_⟩=>f == num f'&&DX xs.toList m8
  | _=>false
 | .g6 f' m8=>match op with
  | .call ⟨.value (.func f),xs,_⟩=>f == num f'&&DX xs.toList m8
  | _=>false
 | .y6 _ f' m8=>match op with
  | .call ⟨.value (.func f),xs,_⟩=>f == num f'&&DX xs.toList m8
  | _=>false
 | .mr ne x'=>match op with
  | .binOp op t x (.const (.slice none 0 0)) _=>(if ne then op == .neq else op == .eql)&&GJ P t (λ_=>true)&&BF x x'
  | _=>false
 | .bad=>true
 | .nm x'=>match op with
  | .nilCheck x=>BF x x'
  | _=>false
 | .dd x'=>match op with
  | .call ⟨.builtin .cap,xs,ts⟩=>(match xs.toList,ts.toList with|[x],[t]=>BF x x'&&GJ P t (λ_=>true)|_,_=>false)
  | _=>false
 | .jm _ a6 bytes x' y'=>match op with
  | .call ⟨.builtin .append,xs,ts⟩=>(match xs.toList,ts.toList with
   | [x,y],[t,u]=>BF x x'&&BF y y'&&GJ P t (λ e=>GI P e a6&&PD P e bytes&&(match P.info? e with|some i=>(match i.zero with|some z=>z.cells.size == a6|none=>false)|none=>false))&&a6 != 0&&GJ P u (λ_=>true)
   | _,_=>false)
  | _=>false
 | .jn _ a6 bytes x' y'=>match op with
  | .call ⟨.builtin .append,xs,ts⟩=>(match xs.toList,ts.toList with
   | [x,y],[t,u]=>BF x x'&&BF y y'&&GJ P t (λ e=>GI P e a6&&PD P e bytes&&(match P.info? e with|some i=>(match i.zero with|some z=>z.cells.size == a6|none=>false)|none=>false))&&a6 != 0&&(match P.underlying u with|some (.int _)=>true|_=>false)
   | _,_=>false)
  | _=>false
 | .ct tb i'=>match op with
  | .index t (.const (.string s)) i=>(match P.underlying t with|some .string=>true|_=>false)&&s.data.toList.map (λ b=>b.toNat) == tb&&BF i i'
  | _=>false
 | .kf _ f' m8=>match op with
  | .makeFunc (.func f) first xs=>f == num f'&&first.toList.isEmpty&&DX xs.toList m8
  | _=>false
 | .k9 f' m8=>match op with
  | .call ⟨.value (.func f),xs,_⟩=>f == num f'&&DX xs.toList m8
  | _=>false
 | .mv ne n x' y'=>match op with | .binOp op t x y _=>(if ne then op == .neq else op == .eql)&&Y3 P t n&&BF x x'&&BF y y'|_=>false
 | .o6 _ f' m8=>match op with
  | .call ⟨.value (.func f),xs,_⟩=>f == num f'&&DX xs.toList m8
  | _=>false
 | .jl _ n x' v'=>match op with | .store t x v=>BF x x'&&BF v v'&&GI P t n|_=>false
 | .n9 x' m8=>match op with
  | .call ⟨.value x,xs,_⟩=>BF x x'&&DX xs.toList m8
  | _=>false
def S8 (ops:Array Oper):Option (Nat × Bool)->Option (Nat × Bool)->Bool
 | none,none=>true
 | some (j,b),some (t,b')=>b == b'&&(match ops[j]? with|some o=>o.dst == some t|none=>false)
 | _,_=>false
def VZ (num:Nat->Nat) (N:Nat) (ops:Array Oper) (o:Oper) (a:AI):Bool :=
 o.dst == a.dst&&(match a.dst with|some d=>decide (d<N)|none=>true)&&S8 ops o.guard a.guard&&A2 P num o.op a.op
def NV (num:Nat->Nat) (N:Nat) (ops:Array Oper):List Oper->List AI->Bool
 | [],[]=>true
 | o::r,a::l=>VZ P num N ops o a&&NV num N ops r l
 | _,_=>false
def FS:DL->Bool
 | .st .. | .app .. | .jq .. | .g6 .. | .n9 .. => true
 | _=>false
def TH:DL->Bool
 | .ld .. | .call .. | .o6 .. => true
 | _=>false
def JA (a:DL):Bool:=FS a||TH a||(D7 a).isSome
def B5:AM->List Nat
 | .t n=>[n]
 | .c _=>[]
def aB:Option AM->List Nat
 | some x=>B5 x
 | none=>[]
def FF:DL->List Nat
 | .b7 x=>B5 x
 | .w9 _ _=>[]
 | .pick c a b=>B5 c++B5 a++B5 b
 | .bin _ x y=>B5 x++B5 y
 | .beq _ x y=>B5 x++B5 y
 | .un _ x=>B5 x
 | .conv _ x=>B5 x
 | .box _ x=>B5 x
 | .alloc _ _=>[]
 | .build _ ps=>ps.flatMap (λ p=>B5 p.2.2)
 | .c9 _ _ ps=>ps.flatMap B5
 | .a5 x _=>B5 x
 | .ja x _ _ _=>B5 x
 | .a9 _ _ x i=>B5 x++B5 i
 | .idx _ _ _ x i=>B5 x++B5 i
 | .ld _ _ x=>B5 x
 | .st _ x v=>B5 x++B5 v
 | .mk _ _ _ _ l c=>B5 l++B5 c
 | .dc _ x lo hi=>B5 x++aB lo++aB hi
 | .ext x _=>B5 x
 | .len x=>B5 x
 | .mm _ xs=>xs.flatMap B5
 | .app _ _ _ x y=>B5 x++B5 y
 | .az _ _ _ x y=>B5 x++B5 y
 | .jq _ x y=>B5 x++B5 y
 | .call _ xs=>xs.flatMap B5
 | .g6 _ xs=>xs.flatMap B5
 | .mr _ x=>B5 x
 | .ct _ x=>B5 x
 | .kf _ _ xs=>xs.flatMap B5
 | .n9 x xs=>B5 x++xs.flatMap B5
 | .k9 _ xs=>xs.flatMap B5
 | .jl _ _ x v=>B5 x++B5 v
 | .o6 _ _ xs=>xs.flatMap B5
 | .y6 _ _ xs=>xs.flatMap B5
 | .mv _ _ x y=>B5 x++B5 y
 | .bad=>[]
 | .nm x=>B5 x
 | .dd x=>B5 x
 | .jn _ _ _ x y=>B5 x++B5 y
 | .jm _ _ _ x y=>B5 x++B5 y
def Q4 (x:AI):List Nat:=FF x.op++(match x.guard with|some (g,_)=>[g]|none=>[])++x.dst.toList
def HN (b:Array Nat) (i j:Nat):Bool:=(b.getD (max i j) 0).testBit (min i j)
def mP (b:Array Nat) (x:AI) (i:Nat) (y:AI) (j:Nat):Bool :=
 i == j||HN b i j ||
  ((match y.dst with|some t => !(Q4 x).contains t|none=>true) &&
   (!FS x.op || !JA y.op) &&
   (!TH x.op||(match D7 y.op with|some s=>x.b9.contains s|none=>true)) )
def PK (ops:Array Oper) (l:List AI):Bool :=
 let b:=Region.before ops
 (l.zipIdx.all λ(x,i)=>l.zipIdx.all λ(y,j)=>mP b x i y j&&(i == j||HN b i j||(match D7 x.op,D7 y.op with|some s,some s'=>s != s'|_,_=>true))) &&
 (ops.toList.zipIdx.all λ(o,i)=>o.after.all λ e=>decide (e.on<i)||(match e.ground with | .gcOnly _=>true|_=>false)) &&
 (!Region.departs ops||(List.range ops.size).all (λ i=>(Region.linearise .gc ops 0).contains i))
def EH (num:Nat->Nat) (N:Nat):Code->BC->Bool
 | c,.dr a _ _=>EH num N c a
 | c',.skip=>match c' with | .skip=>true | .label _=>true|_=>false
 | c',.scope a=>match c' with | .scope c=>EH num N c a|_=>false
 | c',.ops l ko=>match c' with | .region _ ops draw=>draw == ko&&NV P num N ops ops.toList l&&(!draw||PK ops l)|_=>false
 | c',.seq a' b'=>match c' with | .seq a b=>EH num N a a'&&EH num N b b'|_=>false
 | c',.cond x' a' b'=>match c' with | .cond x a b=>BF x x'&&EH num N a a'&&EH num N b b'|_=>false
 | c',.block i' a=>match c' with | .block i c=>i == i'&&EH num N c a|_=>false
 | c',.loop a=>match c' with | .loop c=>EH num N c a|_=>false
 | c',.exit i'=>match c' with | .exit i=>i == i'|_=>false
 | c',.ret=>match c' with | .ret=>true|_=>false
def KI:List ResultVar->List ID->Bool
 | [],[]=>true
 | .tmp t::r,.tmp t'::l=>t == t'&&KI r l
 | .cell a t::r,.cell a' agg n::l=>a == a'&&PA P t == some agg&&(if agg then GI P t n else n == 1)&&KI r l
 | _,_=>false
def okFn (num:Nat->Nat) (fn:Func) (a:AFn):Bool :=
 fn.params.size+fn.nfree == a.v9&&decide (a.v9<=fn.ntmps)&&KI P fn.results.toList a.res&&(match fn.body with|some c=>EH P num fn.ntmps c a.body|none=>false)
end
end Go.c4

namespace Go.c4
open Go.RowKit
theorem GO (b o n:Nat):(⟨b,o,none⟩:Addr).add n=⟨b,o+n,none⟩:=by
 unfold Addr.add;split<;>simp_all
inductive Rd (w:World) (R:Bool->Nat->Prop):AV->Value->Prop
 | int (k:IntKind) (n:Int):Rd w R (.int k n) (.int k n)
 | bool (b:Bool):Rd w R (.bool b) (.bool b)
 | str (s:ByteArray):Rd w R (.z9 (.string s)) (.string s)
 | ew (l:Bool) (a:Option Addr) (cap:Nat):Rd w R (.sl l []) (.slice a 0 cap)
 | emp (b:Bool) (a:Option Addr) (cap:Nat) (h:a.isNone=b):Rd w R (.z9 (.bool b)) (.slice a 0 cap)
 | sl (l:Bool) (es:List (List AV)) (b o a6 cap:Nat) (u:Nat->Nat->Value) (k8:es≠[]) (hp:0<a6) (hR:R l b) (s9:es.length<=cap) (hz : ∀ e∈es,e.length=a6)
   (hc : ∀ i e,es[i]? = some e -> ∀ j c,e[j]? = some c->w.cell? ⟨b,o+(i*a6+j),none⟩=some (u i j))
   (hr : ∀ i e,es[i]? = some e -> ∀ j c,e[j]? = some c->Rd w R c (u i j)) :
   Rd w R (.sl l es) (.slice (some ⟨b,o,none⟩) es.length cap)
theorem Rd.one {w:World} {R:Bool->Nat->Prop} {a:AV} {v:Value} (h:Rd w R a v):v.oneCell'=true:=by
 cases h<;>rfl
theorem PE {w:World} {a:Addr} {u:Value} (h:w.cell? a=some u):a.block<w.heap.size:=by
 unfold World.cell? at h;split at h
 ·rename_i hh
  exact (Array.getElem?_eq_some_iff.1 hh).1
 ·cases h
theorem SV {es:List (List AV)} {a6:Nat} (k8:es≠[]) (hp:0<a6) (hz : ∀ e∈es,e.length=a6) : ∃ e c,es[0]? = some e/\e[0]? = some c:=by
 cases es with
 | nil=>exact absurd rfl k8
 | cons e r =>
  have:=hz e (by simp)
  cases e with
  | nil=>simp at this;omega
  | cons c q=>exact ⟨c::q,c,rfl,rfl⟩
theorem Rd.mono {w w':World} {R R':Bool->Nat->Prop} (hR : ∀ l b,b<w.heap.size->R l b->R' l b)
  (hw : ∀ l b,b<w.heap.size->R l b->w'.heap[b]? = w.heap[b]?) {a:AV} {v:Value} (h:Rd w R a v):Rd w' R' a v:=by
 induction h with
 | int k n=>exact .int k n
 | bool b=>exact .bool b
 | str s=>exact .str s
 | ew l a cap=>exact .ew l a cap
 | emp b a cap h=>exact .emp b a cap h
 | sl l es b o a6 cap u k8 hp h1 s9 hz hc hr ih =>
  obtain ⟨e,c,he,cj⟩:=SV k8 hp hz;have hb:b<w.heap.size:=PE (hc 0 e he 0 c cj);refine .sl l es b o a6 cap u k8 hp (hR l b hb h1) s9 hz (λ i e he j c wy => ?_) ih;rw[World.cell?_of_block (w:=w) (hw l b hb h1)];exact hc i e he j c wy
structure M where
 ν:Nat->Nat->Option Nat
 own:AH
 w:World
section
variable (B:Nat) (S:Nat->Prop)
def safe (m:M) (l:Bool) (b:Nat):Prop :=
 (S b/\b<B)\/(B<=b /\ ∀ s t,(m.own.get s t).isSome=true->m.ν s t≠some b)\/(l=true/\b<B)
inductive CC (m:M):AV->Value->Prop
 | rd {a:AV} {v:Value} (h:Rd m.w (safe B S m) a v):CC m a v
 | nil:CC m .nil (.slice none 0 0)
 | row (s t z off len:Nat) (a:Option Addr) (cap:Nat) (ht:t<m.own.g7 s) (ay:0<z) (de:len<=cap) (ha:0<len->a.isSome=true)
   (h : ∀ b,m.own.get s t=some b->b.a6=z/\((len=0/\cap=0) \/ ∃ g arr e,m.ν s t=some g/\a=some ⟨g,off*z,none⟩/\m.w.heap[g]? = some (.cells arr e (0,0))/\(off+cap)*z<=arr.size)) :
   CC m (.row s t z off len) (.slice a len cap)
 | ptr (s t i j:Nat) (a:Addr) (ht:t<m.own.g7 s) (h : ∀ b,m.own.get s t=some b -> ∃ g,m.ν s t=some g/\a=⟨g,i*b.a6+j,none⟩):CC m (.ptr s t i j) (.pointer (some a))
 | o8 (cs:List AV) (b o:Nat) (u:Nat->Value) (l:Bool) (hR:cs≠[]->safe B S m l b) (hc : ∀ j c,cs[j]? = some c->m.w.cell? ⟨b,o+j,none⟩=some (u j)) (hr : ∀ j c,cs[j]? = some c->Rd m.w (safe B S m) c (u j)) :
   CC m (.o8 cs) (.pointer (some ⟨b,o,none⟩))
def CL (m:M) (cs:List AV) (vs:List Value):Prop:=cs.length=vs.length /\ ∀ (j:Nat) (c:AV) (v:Value),cs[j]? = some c->vs[j]? = some v->CC B S m c v
inductive CA (m:M):AV->Value->Prop
 | one {a:AV} {v:Value} (h:CC B S m a v):CA m a v
 | agg (cs:List AV) (vs:List Value) (h:CL B S m cs vs):CA m (.agg cs) (.agg vs.toArray)
 | fn (p:Bool) (f g:Nat) (cs:List AV) (vs:List Value) (h:CL B S m cs vs):CA m (.fn p f g cs) (.func (.func g) #[] vs.toArray)
inductive CV (m:M):AV->Value->Prop
 | any (v:Value):CV m .any v
 | ca {a:AV} {v:Value} (h:CA B S m a v):CV m a v
 | j5 (as:List AV) (vs:List Value) (hl:as.length=vs.length) (h : ∀ (j:Nat) (c:AV) (v:Value),as[j]? = some c->vs[j]? = some v->CA B S m c v):CV m (.j5 as) (.tuple vs.toArray)
def qS (m:M) (s t:Nat) (b:DJ):Prop :=
 (∀ e∈b.es,e.length=b.a6)/\match m.ν s t with
  | none=>b.es=[]
  | some g=>B<=g /\ ∃ arr e,m.w.heap[g]? = some (.cells arr e (0,0)) /\
    ∀ i cs,b.es[i]? = some cs -> ∀ j c,cs[j]? = some c -> ∃ u,arr[i*b.a6+j]? = some u/\CC B S m c u
structure BI (w0:World) (m:M):Prop where
 below:Below B w0 m.w
 size:B<=m.w.heap.size
 fresh : ∀ s t,m.own.g7 s<=t->m.own.get s t=none
 e8 : ∀ s t b,m.own.get s t=some b->qS B S m s t b
 inj : ∀ s t s' t' b b' g,m.own.get s t=some b->m.own.get s' t'=some b'->m.ν s t=some g->m.ν s' t'=some g->s=s'/\t=t'
structure C7 (m m':M):Prop where
 size:m.w.heap.size<=m'.w.heap.size
 qa : ∀ b,b<m.w.heap.size->safe B S m true b->m'.w.heap[b]? = m.w.heap[b]?
 ub : ∀ l b,b<m.w.heap.size->safe B S m l b->safe B S m' l b
 g7 : ∀ s,m.own.g7 s<=m'.own.g7 s
 name : ∀ s t b',t<m.own.g7 s->m'.own.get s t=some b' -> ∃ b,m.own.get s t=some b/\b'.a6=b.a6/\m'.ν s t=m.ν s t /\
   ∀ g arr e,m.ν s t=some g->m.w.heap[g]? = some (.cells arr e (0,0)) -> ∃ n8,m'.w.heap[g]? = some (.cells n8 e (0,0))/\n8.size=arr.size
end
section
variable {B:Nat} {S:Nat->Prop}
theorem aS {m:M} {l:Bool} {b:Nat} (h:safe B S m l b):safe B S m true b:=by
 rcases h with h|h|⟨_,h⟩
 ·exact .inl h
 ·exact .inr (.inl h)
 ·exact .inr (.inr ⟨rfl,h⟩)
theorem C7.rd {m m':M} (h:C7 B S m m') {a:AV} {v:Value} (hr:Rd m.w (safe B S m) a v):Rd m'.w (safe B S m') a v :=
 hr.mono h.ub (λ_ b hb hs=>h.qa b hb (aS hs))
theorem C7.cc {m m':M} (h:C7 B S m m') {a:AV} {v:Value} (hc:CC B S m a v):CC B S m' a v:=by
 cases hc with
 | rd hr=>exact .rd (h.rd hr)
 | nil=>exact .nil
 | row s t z off len a cap ht ay de ha hb =>
  refine .row s t z off len a cap (Nat.lt_of_lt_of_le ht (h.g7 s)) ay de ha λ b' k6 => ?_
  obtain ⟨b,h1,h2,h3,h4⟩:=h.name s t b' ht k6;obtain ⟨hz,au⟩:=hb b h1;refine ⟨h2.trans hz,?_⟩;rcases au with h0|⟨g,arr,e,hg,fc,hh,hle⟩
  ·exact .inl h0
  ·obtain ⟨n8,Dv,rl⟩:=h4 g arr e hg hh
   exact .inr ⟨g,n8,e,h3.trans hg,fc,Dv,rl ▸ hle⟩
 | ptr s t i j a ht hb =>
  refine .ptr s t i j a (Nat.lt_of_lt_of_le ht (h.g7 s)) λ b' k6 => ?_
  obtain ⟨b,h1,h2,h3,_⟩:=h.name s t b' ht k6;obtain ⟨g,hg,fc⟩:=hb b h1;exact ⟨g,h3.trans hg,h2 ▸ fc⟩
 | o8 cs b o u l hR hc hr =>
  have l6:cs≠[]->b<m.w.heap.size:=λ k8=>by
   cases cs with
   | nil=>exact absurd rfl k8
   | cons c r=>exact PE (hc 0 c rfl)
  refine .o8 cs b o u l (λ k8=>h.ub l b (l6 k8) (hR k8)) (λ j c hj => ?_) (λ j c hj=>h.rd (hr j c hj));have k8:cs≠[]:=λ e=>by subst e;simp at hj
  rw[World.cell?_of_block (w:=m.w) (h.qa b (l6 k8) (aS (hR k8)))];exact hc j c hj
theorem C7.cl {m m':M} (h:C7 B S m m') {cs:List AV} {vs:List Value} (hc:CL B S m cs vs):CL B S m' cs vs :=
 ⟨hc.1,λ j c v h1 h2=>h.cc (hc.2 j c v h1 h2)⟩
theorem C7.ca {m m':M} (h:C7 B S m m') {a:AV} {v:Value} (hc:CA B S m a v):CA B S m' a v:=by
 cases hc with
 | one hc=>exact .one (h.cc hc)
 | agg cs vs hc=>exact .agg cs vs (h.cl hc)
 | fn p f g cs vs hc=>exact .fn p f g cs vs (h.cl hc)
theorem C7.cv {m m':M} (h:C7 B S m m') {a:AV} {v:Value} (hc:CV B S m a v):CV B S m' a v:=by
 cases hc with
 | any v=>exact .any v
 | ca hc=>exact .ca (h.ca hc)
 | j5 as vs hl hc=>exact .j5 as vs hl λ j c v h1 h2=>h.ca (hc j c v h1 h2)
theorem C7.refl (m:M):C7 B S m m :=
 ⟨Nat.le_refl _,λ_ _ _=>rfl,λ_ _ _ h=>h,λ_=>Nat.le_refl _,λ_ _ b' _ h=>⟨b',h,rfl,rfl,λ_ arr _ _ h=>⟨arr,h,rfl⟩⟩⟩
theorem C7.trans {m m' Jb:M} (h:C7 B S m m') (k:C7 B S m' Jb):C7 B S m Jb where
 size:=Nat.le_trans h.size k.size
 qa b hb hs:=(k.qa b (Nat.lt_of_lt_of_le hb h.size) (h.ub true b hb hs)).trans (h.qa b hb hs)
 ub l b hb hs:=k.ub l b (Nat.lt_of_lt_of_le hb h.size) (h.ub l b hb hs)
 g7 s:=Nat.le_trans (h.g7 s) (k.g7 s)
 name s t Ta ht Ea:=by
  obtain ⟨b',h1,h2,h3,h4⟩:=k.name s t Ta (Nat.lt_of_lt_of_le ht (h.g7 s)) Ea;obtain ⟨b,g1,g2,g3,g4⟩:=h.name s t b' ht h1;refine ⟨b,g1,h2.trans g2,h3.trans g3,λ g arr e hg ha => ?_⟩;obtain ⟨n8,Dv,rl⟩:=g4 g arr e hg ha;obtain ⟨yf,Dw,Fk⟩:=h4 g n8 e (g3.trans hg) Dv;exact ⟨yf,Dw,Fk.trans rl⟩
theorem CC.one {m:M} {a:AV} {v:Value} (h:CC B S m a v):v.oneCell'=true:=by
 cases h with
 | rd h=>exact h.one
 | _=>rfl
end
end Go.c4

namespace Go.c4
open Go.RowKit
section
variable {B:Nat} {S:Nat->Prop} {w0:World}
def live (m:M) (s t:Nat):Prop := ∃ b,m.own.get s t=some b
theorem BI.ge {m:M} (h:BI B S w0 m) {s t g:Nat} (hl:live m s t) (hg:m.ν s t=some g):B<=g /\ ∃ arr e,m.w.heap[g]? = some (.cells arr e (0,0)):=by
 obtain ⟨b,hb⟩:=hl;obtain ⟨_,h2⟩:=h.e8 s t b hb;rw[hg]at h2;obtain ⟨h3,arr,e,h4,_⟩:=h2;exact ⟨h3,arr,e,h4⟩
theorem PQ {m m':M} (hm:BI B S w0 m) (hs:m.w.heap.size<=m'.w.heap.size)
  (hk : ∀ b,b<m.w.heap.size->(∀ s t,live m s t->m.ν s t≠some b)->m'.w.heap[b]? = m.w.heap[b]?) (uz : ∀ s,m.own.g7 s<=m'.own.g7 s)
  (Ac : ∀ s t b',t<m.own.g7 s->m'.own.get s t=some b' -> ∃ b,m.own.get s t=some b/\b'.a6=b.a6/\m'.ν s t=m.ν s t /\
   ∀ g arr e,m.ν s t=some g->m.w.heap[g]? = some (.cells arr e (0,0)) -> ∃ n8,m'.w.heap[g]? = some (.cells n8 e (0,0))/\n8.size=arr.size)
  (gd : ∀ s t g,live m' s t->m'.ν s t=some g->g<m.w.heap.size -> ∃ s0 t0,live m s0 t0/\m.ν s0 t0=some g):C7 B S m m':=by
 have nf : ∀ b,safe B S m true b -> ∀ s t,live m s t->m.ν s t≠some b:=by
  intro b hb s t hl hg;have ig:=(hm.ge hl hg).1;rcases hb with ⟨_,h⟩|⟨_,h⟩|⟨_,h⟩
  ·omega
  ·obtain ⟨b',k6⟩:=hl
   exact h s t (by simp [k6]) hg
  ·omega
 refine ⟨hs,λ b hb pj=>hk b hb (nf b pj),λ l b hb pj => ?_,uz,Ac⟩;rcases pj with h|⟨h,hn⟩|h
 ·exact .inl h
 ·refine .inr (.inl ⟨h,λ s t hl hg => ?_⟩)
  obtain ⟨b',k6⟩:=Option.isSome_iff_exists.1 hl;obtain ⟨s0,t0,⟨b0,qg⟩,vg⟩:=gd s t b ⟨b',k6⟩ hg hb;exact hn s0 t0 (by simp [qg]) vg
 ·exact .inr (.inr h)
theorem grow {m:M} (hm:BI B S w0 m) {w':World} (hb:Below m.w.heap.size m.w w') :
  BI B S w0 ⟨m.ν,m.own,w'⟩/\C7 B S m ⟨m.ν,m.own,w'⟩:=by
 have he:C7 B S m ⟨m.ν,m.own,w'⟩:=by
  refine PQ hm hb.size (λ b k6 _=>hb.block b k6) (λ_=>Nat.le_refl _) (λ s t b' _ k6=>⟨b',k6,rfl,rfl,λ g arr e hg ha=>⟨arr,?_,rfl⟩⟩) (λ s t g hl hg _=>⟨s,t,hl,hg⟩);have:g<m.w.heap.size:=(Array.getElem?_eq_some_iff.1 ha).1
  exact (hb.block g this).trans ha
 refine ⟨⟨hm.below.trans (hb.mono hm.size),Nat.le_trans hm.size hb.size,hm.fresh,λ s t b hg => ?_,hm.inj⟩,he⟩;obtain ⟨h1,h2⟩:=hm.e8 s t b hg;refine ⟨h1,?_⟩;show match m.ν s t with|none=>_|some g=>_
 cases hν:m.ν s t with
 | none=>rw[hν]at h2;exact h2
 | some g =>
  rw[hν]at h2;obtain ⟨h3,arr,e,h4,h5⟩:=h2;refine ⟨h3,arr,e,?_,λ i cs hi j c hj => ?_⟩
  ·exact (hb.block g (Array.getElem?_eq_some_iff.1 h4).1).trans h4
  ·obtain ⟨u,hu,q9⟩:=h5 i cs hi j c hj
   exact ⟨u,hu,he.cc q9⟩
theorem FL (o:AH) (s s' t':Nat) (b:DJ):(o.put s ((o s).new b)).get s' t'=if s'=s/\t'=o.g7 s then some b else o.get s' t':=by
 unfold AH.get AH.put BX.new AH.g7;by_cases h:s'=s
 ·subst h
  by_cases h2:t'=(o s').g7<;>simp [h2]
 ·simp [h]
theorem JL (o:AH) (s s':Nat) (b:DJ):(o.put s ((o s).new b)).g7 s'=if s'=s then o.g7 s+1 else o.g7 s':=by
 unfold AH.g7 AH.put BX.new;by_cases h:s'=s<;>simp [h]
theorem SY (o:AH) (s t s' t':Nat) (b:Option DJ):(o.put s ((o s).m7 t b)).get s' t'=if s'=s/\t'=t then b else o.get s' t':=by
 unfold AH.get AH.put BX.m7;by_cases h:s'=s
 ·subst h
  by_cases h2:t'=t<;>simp [h2]
 ·simp [h]
theorem fG (o:AH) (s t s':Nat) (b:Option DJ):(o.put s ((o s).m7 t b)).g7 s'=o.g7 s':=by
 unfold AH.g7 AH.put BX.m7;by_cases h:s'=s<;>simp [h]
def g9 (m:M) (s:Nat) (g:Option Nat):Nat->Nat->Option Nat:=λ s' t'=>if s'=s/\t'=m.own.g7 s then g else m.ν s' t'
theorem VX {m:M} (hm:BI B S w0 m) (s:Nat) : ¬ live m s (m.own.g7 s):=λ⟨b,hb⟩=>by
 rw[hm.fresh s _ (Nat.le_refl _)]at hb;cases hb
theorem R2 {m:M} (hm:BI B S w0 m) (s:Nat) (b:DJ) (arr:Array Value) (e:TypeId) (hz : ∀ x∈b.es,x.length=b.a6)
  (hc : ∀ i cs,b.es[i]? = some cs -> ∀ j c,cs[j]? = some c -> ∃ u,arr[i*b.a6+j]? = some u/\CC B S m c u) :
  BI B S w0 ⟨g9 m s (some m.w.heap.size),m.own.put s ((m.own s).new b),m.w.alloc (.cells arr e)⟩ /\
  C7 B S m ⟨g9 m s (some m.w.heap.size),m.own.put s ((m.own s).new b),m.w.alloc (.cells arr e)⟩:=by
 have o9:(m.w.alloc (.cells arr e)).heap.size=m.w.heap.size+1:=by simp
 have hν : ∀ s' t',live m s' t'->g9 m s (some m.w.heap.size) s' t'=m.ν s' t':=λ s' t' hl=>by
  unfold g9;rw[if_neg];rintro ⟨rfl,rfl⟩
  exact VX hm _ hl
 have he:C7 B S m ⟨g9 m s (some m.w.heap.size),m.own.put s ((m.own s).new b),m.w.alloc (.cells arr e)⟩:=by
  refine PQ hm (by rw[o9];omega) (λ k hk _=>Below.heap_alloc _ _ _ hk) (λ s' => ?_) (λ s' t' b' ht k6 => ?_) (λ s' t' g hl hg l6 => ?_)
  ·rw[JL];split
   ·rename_i h;subst h;omega
   ·exact Nat.le_refl _
  ·rw[FL]at k6
   rw[if_neg (by rintro ⟨rfl,rfl⟩;omega)]at k6;refine ⟨b',k6,rfl,hν s' t' ⟨b',k6⟩,λ g ar e' hg ha=>⟨ar,?_,rfl⟩⟩;exact (Below.heap_alloc _ _ _ (Array.getElem?_eq_some_iff.1 ha).1).trans ha
  ·obtain ⟨b',k6⟩:=hl
   have o7:=k6;rw[FL]at k6;by_cases h:s'=s/\t'=m.own.g7 s
   ·simp only[g9,if_pos h,Option.some.injEq]at hg
    omega
   ·rw[if_neg h]at k6
    exact ⟨s',t',⟨b',k6⟩,by rw[<-hν s' t' ⟨b',k6⟩];exact hg⟩
 refine ⟨⟨hm.below.alloc hm.size _,by rw[o9];have:=hm.size;omega,λ s' t' ht => ?_,λ s' t' b' k6 => ?_,λ s1 t1 s2 t2 b1 b2 g h1 h2 g1 g2 => ?_⟩,he⟩
 ·rw[JL]at ht
  rw[FL,if_neg]
  ·refine hm.fresh s' t' ?_
   split at ht
   ·rename_i h;subst h;omega
   ·exact ht
  ·rintro ⟨rfl,rfl⟩
   simp at ht;omega
 ·rw[FL]at k6
  by_cases h:s'=s/\t'=m.own.g7 s
  ·rw[if_pos h]at k6
   obtain rfl:b=b':=by simpa using k6
   refine ⟨hz,?_⟩;show match g9 m s (some m.w.heap.size) s' t' with|none=>_|some g=>_
   rw[show g9 m s (some m.w.heap.size) s' t'=some m.w.heap.size by simp [g9,h]];refine ⟨hm.size,arr,e,heap_alloc_new _ _,λ i cs hi j c hj => ?_⟩;obtain ⟨u,hu,q9⟩:=hc i cs hi j c hj;exact ⟨u,hu,he.cc q9⟩
  ·rw[if_neg h]at k6
   obtain ⟨h1,h2⟩:=hm.e8 s' t' b' k6;refine ⟨h1,?_⟩;show match g9 m s (some m.w.heap.size) s' t' with|none=>_|some g=>_
   rw[hν s' t' ⟨b',k6⟩];cases hv:m.ν s' t' with
   | none=>rw[hv]at h2;exact h2
   | some g =>
    rw[hv]at h2;obtain ⟨h3,ar,e',h4,h5⟩:=h2;refine ⟨h3,ar,e',(Below.heap_alloc _ _ _ (Array.getElem?_eq_some_iff.1 h4).1).trans h4,λ i cs hi j c hj => ?_⟩;obtain ⟨u,hu,q9⟩:=h5 i cs hi j c hj;exact ⟨u,hu,he.cc q9⟩
 ·rw[FL]at h1 h2
  have lt : ∀ s' t' b',m.own.get s' t'=some b'->g9 m s (some m.w.heap.size) s' t'=some g->g<m.w.heap.size:=λ s' t' b' hb hg=>by
   rw[hν s' t' ⟨b',hb⟩]at hg;obtain ⟨_,ar,e',h4⟩:=hm.ge ⟨b',hb⟩ hg;exact (Array.getElem?_eq_some_iff.1 h4).1
  have at_ : ∀ s' t',s'=s/\t'=m.own.g7 s->g9 m s (some m.w.heap.size) s' t'=some g->g=m.w.heap.size:=λ s' t' h hg=>by
   simp only[g9,if_pos h,Option.some.injEq]at hg;exact hg.symm
  by_cases p1:s1=s/\t1=m.own.g7 s<;>by_cases p2:s2=s/\t2=m.own.g7 s
  ·exact ⟨p1.1.trans p2.1.symm,p1.2.trans p2.2.symm⟩
  ·rw[if_neg p2]at h2
   have:=lt s2 t2 b2 h2 g2
   have:=at_ s1 t1 p1 g1
   omega
  ·rw[if_neg p1]at h1
   have:=lt s1 t1 b1 h1 g1
   have:=at_ s2 t2 p2 g2
   omega
  ·rw[if_neg p1]at h1
   rw[if_neg p2]at h2;exact hm.inj s1 t1 s2 t2 b1 b2 g h1 h2 (by rw[<-hν s1 t1 ⟨b1,h1⟩];exact g1) (by rw[<-hν s2 t2 ⟨b2,h2⟩];exact g2)
theorem pC {m:M} (hm:BI B S w0 m) (s a6:Nat) :
  BI B S w0 ⟨g9 m s none,m.own.put s ((m.own s).new ⟨a6,[]⟩),m.w⟩/\C7 B S m ⟨g9 m s none,m.own.put s ((m.own s).new ⟨a6,[]⟩),m.w⟩:=by
 have hν : ∀ s' t',live m s' t'->g9 m s none s' t'=m.ν s' t':=λ s' t' hl=>by
  unfold g9;rw[if_neg];rintro ⟨rfl,rfl⟩
  exact VX hm _ hl
 have he:C7 B S m ⟨g9 m s none,m.own.put s ((m.own s).new ⟨a6,[]⟩),m.w⟩:=by
  refine PQ hm (Nat.le_refl _) (λ k hk _=>rfl) (λ s' => ?_) (λ s' t' b' ht k6 => ?_) (λ s' t' g hl hg l6 => ?_)
  ·rw[JL];split
   ·rename_i h;subst h;omega
   ·exact Nat.le_refl _
  ·rw[FL]at k6
   rw[if_neg (by rintro ⟨rfl,rfl⟩;omega)]at k6;exact ⟨b',k6,rfl,hν s' t' ⟨b',k6⟩,λ g ar e' hg ha=>⟨ar,ha,rfl⟩⟩
  ·obtain ⟨b',k6⟩:=hl
   rw[FL]at k6;by_cases h:s'=s/\t'=m.own.g7 s
   ·simp [g9,if_pos h]at hg
   ·rw[if_neg h]at k6
    exact ⟨s',t',⟨b',k6⟩,by rw[<-hν s' t' ⟨b',k6⟩];exact hg⟩
 refine ⟨⟨hm.below,hm.size,λ s' t' ht => ?_,λ s' t' b' k6 => ?_,λ s1 t1 s2 t2 b1 b2 g h1 h2 g1 g2 => ?_⟩,he⟩
 ·rw[JL]at ht
  rw[FL,if_neg]
  ·refine hm.fresh s' t' ?_
   split at ht
   ·rename_i h;subst h;omega
   ·exact ht
  ·rintro ⟨rfl,rfl⟩
   simp at ht;omega
 ·rw[FL]at k6
  by_cases h:s'=s/\t'=m.own.g7 s
  ·rw[if_pos h]at k6
   obtain rfl:(⟨a6,[]⟩:DJ)=b':=by simpa using k6
   refine ⟨by simp,?_⟩;show match g9 m s none s' t' with|none=>_|some g=>_
   rw[show g9 m s none s' t'=none by simp [g9,h]]
  ·rw[if_neg h]at k6
   obtain ⟨h1,h2⟩:=hm.e8 s' t' b' k6;refine ⟨h1,?_⟩;show match g9 m s none s' t' with|none=>_|some g=>_
   rw[hν s' t' ⟨b',k6⟩];cases hv:m.ν s' t' with
   | none=>rw[hv]at h2;exact h2
   | some g =>
    rw[hv]at h2;obtain ⟨h3,ar,e',h4,h5⟩:=h2;refine ⟨h3,ar,e',h4,λ i cs hi j c hj => ?_⟩;obtain ⟨u,hu,q9⟩:=h5 i cs hi j c hj;exact ⟨u,hu,he.cc q9⟩
 ·rw[FL]at h1 h2
  by_cases p1:s1=s/\t1=m.own.g7 s
  ·simp [g9,if_pos p1]at g1
  ·by_cases p2:s2=s/\t2=m.own.g7 s
   ·simp [g9,if_pos p2]at g2
   ·rw[if_neg p1]at h1
    rw[if_neg p2]at h2;exact hm.inj s1 t1 s2 t2 b1 b2 g h1 h2 (by rw[<-hν s1 t1 ⟨b1,h1⟩];exact g1) (by rw[<-hν s2 t2 ⟨b2,h2⟩];exact g2)
theorem oY {m:M} (hm:BI B S w0 m) (s t:Nat) (b b':DJ) (hb:m.own.get s t=some b) (g:Nat) (hg:m.ν s t=some g) (arr n8:Array Value) (e:TypeId)
  (ha:m.w.heap[g]? = some (.cells arr e (0,0))) (Wx:b'.a6=b.a6) (hz : ∀ x∈b'.es,x.length=b'.a6) (o9:n8.size=arr.size)
  (hc : ∀ i cs,b'.es[i]? = some cs -> ∀ j c,cs[j]? = some c -> ∃ u,n8[i*b'.a6+j]? = some u/\CC B S m c u) (w':World) (ea:Below B w0 w') (tj:w'.heap.size=m.w.heap.size)
  (hk : ∀ k,k≠g->w'.heap[k]? = m.w.heap[k]?) (Hw:w'.heap[g]? = some (.cells n8 e (0,0))) :
  BI B S w0 ⟨m.ν,m.own.put s ((m.own s).m7 t (some b')),w'⟩/\C7 B S m ⟨m.ν,m.own.put s ((m.own s).m7 t (some b')),w'⟩:=by
 have l6:t<m.own.g7 s:=by
  rcases Nat.lt_or_ge t (m.own.g7 s) with h|h
  ·exact h
  ·rw[hm.fresh s t h]at hb;cases hb
 have he:C7 B S m ⟨m.ν,m.own.put s ((m.own s).m7 t (some b')),w'⟩:=by
  refine PQ hm (by rw[tj];exact Nat.le_refl _) (λ k dn hn=>hk k (λ e=>hn s t ⟨b,hb⟩ (e ▸ hg))) (λ s'=>by rw[fG];exact Nat.le_refl _) (λ s' t' b2 ht o7 => ?_) (λ s' t' g' hl ag _ => ?_)
  ·rw[SY]at o7
   by_cases h:s'=s/\t'=t
   ·obtain ⟨rfl,rfl⟩:=h
    rw[if_pos ⟨rfl,rfl⟩]at o7;obtain rfl:b'=b2:=by simpa using o7
    refine ⟨b,hb,Wx,rfl,λ g2 ar e' fr rf => ?_⟩;obtain rfl:g=g2:=by rw[hg]at fr;simpa using fr
    rw[ha]at rf;obtain ⟨rfl,rfl⟩:arr=ar/\e=e':=by simpa using rf
    exact ⟨n8,Hw,o9⟩
   ·rw[if_neg h]at o7
    refine ⟨b2,o7,rfl,rfl,λ g2 ar e' fr rf=>⟨ar,?_,rfl⟩⟩;rw[<-rf];exact hk g2 (λ e2=>h (by
     subst e2;exact hm.inj s' t' s t b2 b g2 o7 hb fr hg))
  ·obtain ⟨b2,o7⟩:=hl
   rw[SY]at o7;by_cases h:s'=s/\t'=t
   ·obtain ⟨rfl,rfl⟩:=h
    exact ⟨s',t',⟨b,hb⟩,ag⟩
   ·rw[if_neg h]at o7
    exact ⟨s',t',⟨b2,o7⟩,ag⟩
 refine ⟨⟨ea,by rw[tj];exact hm.size,λ s' t' ht => ?_,λ s' t' b2 o7 => ?_,λ s1 t1 s2 t2 b1 b2 g1 h1 h2 e1 e2 => ?_⟩,he⟩
 ·rw[fG]at ht
  rw[SY,if_neg (by rintro ⟨rfl,rfl⟩;omega)];exact hm.fresh s' t' ht
 ·rw[SY]at o7
  by_cases h:s'=s/\t'=t
  ·obtain ⟨rfl,rfl⟩:=h
   rw[if_pos ⟨rfl,rfl⟩]at o7;obtain rfl:b'=b2:=by simpa using o7
   refine ⟨hz,?_⟩;show match m.ν s' t' with|none=>_|some g=>_
   rw[hg];refine ⟨(hm.ge ⟨b,hb⟩ hg).1,n8,e,Hw,λ i cs hi j c hj => ?_⟩;obtain ⟨u,hu,q9⟩:=hc i cs hi j c hj;exact ⟨u,hu,he.cc q9⟩
  ·rw[if_neg h]at o7
   obtain ⟨h1,h2⟩:=hm.e8 s' t' b2 o7;refine ⟨h1,?_⟩;show match m.ν s' t' with|none=>_|some g=>_
   cases hv:m.ν s' t' with
   | none=>rw[hv]at h2;exact h2
   | some g2 =>
    rw[hv]at h2;obtain ⟨h3,ar,e',h4,h5⟩:=h2;refine ⟨h3,ar,e',?_,λ i cs hi j c hj => ?_⟩
    ·rw[<-h4]
     exact hk g2 (λ e2=>h (by
      subst e2;exact hm.inj s' t' s t b2 b g2 o7 hb hv hg))
    ·obtain ⟨u,hu,q9⟩:=h5 i cs hi j c hj
     exact ⟨u,hu,he.cc q9⟩
 ·have old : ∀ s' t' b2,(m.own.put s ((m.own s).m7 t (some b'))).get s' t'=some b2 -> ∃ b3,m.own.get s' t'=some b3:=λ s' t' b2 h=>by
   rw[SY]at h;by_cases h':s'=s/\t'=t
   ·obtain ⟨rfl,rfl⟩:=h';exact ⟨b,hb⟩
   ·rw[if_neg h']at h;exact ⟨b2,h⟩
  obtain ⟨c1,k1⟩:=old s1 t1 b1 h1;obtain ⟨c2,k2⟩:=old s2 t2 b2 h2;exact hm.inj s1 t1 s2 t2 c1 c2 g1 k1 k2 e1 e2
theorem PR (o:AH) (s t s' t':Nat) (b:DJ):(o.put s (((o s).m7 t none).new b)).get s' t'=if s'=s/\t'=o.g7 s then some b else if s'=s/\t'=t then none else o.get s' t':=by
 unfold AH.get AH.put BX.new BX.m7 AH.g7;by_cases h:s'=s
 ·subst h
  by_cases h2:t'=(o s').g7<;>by_cases h3:t'=t<;>simp [h2,h3]
 ·simp [h]
theorem U1 (o:AH) (s t s':Nat) (b:DJ):(o.put s (((o s).m7 t none).new b)).g7 s'=if s'=s then o.g7 s+1 else o.g7 s':=by
 unfold AH.g7 AH.put BX.new BX.m7;by_cases h:s'=s<;>simp [h]
theorem Z0 {m:M} (hm:BI B S w0 m) (s t:Nat) (b b':DJ) (hb:m.own.get s t=some b) (bf:Option Nat) (w':World) (ea:Below B w0 w') (o9:m.w.heap.size<=w'.heap.size)
  (hk : ∀ k,k<m.w.heap.size->m.ν s t≠some k->w'.heap[k]? = m.w.heap[k]?) (hz : ∀ x∈b'.es,x.length=b'.a6)
  (pg:bf=none->b'.es=[])
  (pk : ∀ g,bf=some g->B<=g/\(m.w.heap.size<=g\/m.ν s t=some g) /\ ∃ arr e,w'.heap[g]? = some (.cells arr e (0,0)) /\
   ∀ i cs,b'.es[i]? = some cs -> ∀ j c,cs[j]? = some c -> ∃ u,arr[i*b'.a6+j]? = some u/\CC B S m c u) :
  BI B S w0 ⟨g9 m s bf,m.own.put s (((m.own s).m7 t none).new b'),w'⟩/\C7 B S m ⟨g9 m s bf,m.own.put s (((m.own s).m7 t none).new b'),w'⟩:=by
 have l6:t<m.own.g7 s:=by
  rcases Nat.lt_or_ge t (m.own.g7 s) with h|h
  ·exact h
  ·rw[hm.fresh s t h]at hb;cases hb
 have hν : ∀ s' t',live m s' t'->g9 m s bf s' t'=m.ν s' t':=λ s' t' hl=>by
  unfold g9;rw[if_neg];rintro ⟨rfl,rfl⟩
  exact VX hm _ hl
 have he:C7 B S m ⟨g9 m s bf,m.own.put s (((m.own s).m7 t none).new b'),w'⟩:=by
  refine PQ hm o9 (λ k dn hn=>hk k dn (hn s t ⟨b,hb⟩)) (λ s' => ?_) (λ s' t' b2 ht o7 => ?_) (λ s' t' g' hl ag pc => ?_)
  ·rw[U1];split
   ·rename_i h;subst h;omega
   ·exact Nat.le_refl _
  ·rw[PR]at o7
   rw[if_neg (by rintro ⟨rfl,rfl⟩;omega)]at o7;by_cases h:s'=s/\t'=t
   ·rw[if_pos h]at o7;cases o7
   ·rw[if_neg h]at o7
    refine ⟨b2,o7,rfl,hν s' t' ⟨b2,o7⟩,λ g2 ar e' fr rf=>⟨ar,?_,rfl⟩⟩;rw[<-rf];exact hk g2 (Array.getElem?_eq_some_iff.1 rf).1 (λ e2=>h (hm.inj s' t' s t b2 b g2 o7 hb fr e2))
  ·obtain ⟨b2,o7⟩:=hl
   rw[PR]at o7;by_cases h0:s'=s/\t'=m.own.g7 s
   ·simp only[g9,if_pos h0]at ag
    obtain ⟨_,h2,_⟩:=pk g' ag;rcases h2 with h2|h2
    ·omega
    ·exact ⟨s,t,⟨b,hb⟩,h2⟩
   ·rw[if_neg h0]at o7
    by_cases h:s'=s/\t'=t
    ·rw[if_pos h]at o7;cases o7
    ·rw[if_neg h]at o7
     exact ⟨s',t',⟨b2,o7⟩,by rw[<-hν s' t' ⟨b2,o7⟩];exact ag⟩
 refine ⟨⟨ea,Nat.le_trans hm.size o9,λ s' t' ht => ?_,λ s' t' b2 o7 => ?_,λ s1 t1 s2 t2 b1 b2 g1 h1 h2 e1 e2 => ?_⟩,he⟩
 ·rw[U1]at ht
  have jd:m.own.g7 s'<=t' /\ ¬ (s'=s/\t'=m.own.g7 s):=by
   by_cases h:s'=s
   ·subst h
    simp at ht;exact ⟨by omega,by omega⟩
   ·simp [h]at ht
    exact ⟨ht,λ h'=>h h'.1⟩
  rw[PR,if_neg jd.2];split
  ·rfl
  ·exact hm.fresh s' t' jd.1
 ·rw[PR]at o7
  by_cases h0:s'=s/\t'=m.own.g7 s
  ·rw[if_pos h0]at o7
   obtain rfl:b'=b2:=by simpa using o7
   refine ⟨hz,?_⟩;show match g9 m s bf s' t' with|none=>_|some g=>_
   rw[show g9 m s bf s' t'=bf by simp [g9,h0]];cases bf with
   | none=>exact pg rfl
   | some g =>
    obtain ⟨h1,_,arr,e,h4,h5⟩:=pk g rfl;refine ⟨h1,arr,e,h4,λ i cs hi j c hj => ?_⟩;obtain ⟨u,hu,q9⟩:=h5 i cs hi j c hj;exact ⟨u,hu,he.cc q9⟩
  ·rw[if_neg h0]at o7
   by_cases h:s'=s/\t'=t
   ·rw[if_pos h]at o7;cases o7
   ·rw[if_neg h]at o7
    obtain ⟨h1,h2⟩:=hm.e8 s' t' b2 o7;refine ⟨h1,?_⟩;show match g9 m s bf s' t' with|none=>_|some g=>_
    rw[hν s' t' ⟨b2,o7⟩];cases hv:m.ν s' t' with
    | none=>rw[hv]at h2;exact h2
    | some g2 =>
     rw[hv]at h2;obtain ⟨h3,ar,e',h4,h5⟩:=h2;refine ⟨h3,ar,e',?_,λ i cs hi j c hj => ?_⟩
     ·rw[<-h4]
      exact hk g2 (Array.getElem?_eq_some_iff.1 h4).1 (λ e2=>h (hm.inj s' t' s t b2 b g2 o7 hb hv e2))
     ·obtain ⟨u,hu,q9⟩:=h5 i cs hi j c hj
      exact ⟨u,hu,he.cc q9⟩
 ·rw[PR]at h1 h2
  have old : ∀ s' t' b2,(if s'=s/\t'=t then none else m.own.get s' t')=some b2->m.own.get s' t'=some b2 /\ ¬ (s'=s/\t'=t):=λ s' t' b2 h=>by
   by_cases h':s'=s/\t'=t
   ·rw[if_pos h']at h;cases h
   ·rw[if_neg h']at h;exact ⟨h,h'⟩
  have gy : ∀ s' t' b2,m.own.get s' t'=some b2 -> ¬ (s'=s/\t'=t)->g9 m s bf s' t'=some g1->bf=some g1->False:=λ s' t' b2 o7 k8 e1 e2=>by
   rw[hν s' t' ⟨b2,o7⟩]at e1;obtain ⟨_,h2,_⟩:=pk g1 e2;obtain ⟨_,ar,e',h4⟩:=hm.ge ⟨b2,o7⟩ e1;have:=(Array.getElem?_eq_some_iff.1 h4).1
   rcases h2 with h2|h2
   ·omega
   ·exact k8 (hm.inj s' t' s t b2 b g1 o7 hb e1 h2)
  have at_ : ∀ s' t',s'=s/\t'=m.own.g7 s->g9 m s bf s' t'=some g1->bf=some g1:=λ s' t' h hg=>by simpa [g9,if_pos h] using hg
  by_cases p1:s1=s/\t1=m.own.g7 s<;>by_cases p2:s2=s/\t2=m.own.g7 s
  ·exact ⟨p1.1.trans p2.1.symm,p1.2.trans p2.2.symm⟩
  ·rw[if_neg p2]at h2
   obtain ⟨k2,n2⟩:=old s2 t2 b2 h2;exact (gy s2 t2 b2 k2 n2 e2 (at_ s1 t1 p1 e1)).elim
  ·rw[if_neg p1]at h1
   obtain ⟨k1,n1⟩:=old s1 t1 b1 h1;exact (gy s1 t1 b1 k1 n1 e1 (at_ s2 t2 p2 e2)).elim
  ·rw[if_neg p1]at h1
   rw[if_neg p2]at h2;obtain ⟨k1,n1⟩:=old s1 t1 b1 h1;obtain ⟨k2,n2⟩:=old s2 t2 b2 h2;exact hm.inj s1 t1 s2 t2 b1 b2 g1 k1 k2 (by rw[<-hν s1 t1 ⟨b1,k1⟩];exact e1) (by rw[<-hν s2 t2 ⟨b2,k2⟩];exact e2)
theorem jY (o:AH) (l:List Nat) (s t:Nat):(o.drop l).get s t=if s∈l then none else o.get s t:=by
 induction l with
 | nil=>simp [AH.drop]
 | cons x r ih =>
  unfold AH.get at *;by_cases h:s=x
  ·subst h;simp [AH.drop,AH.put]
  ·simp only[AH.drop,AH.put,if_neg h,List.mem_cons]
   rw[ih];by_cases h2:s∈r<;>simp [h,h2]
theorem fE (o:AH) (l:List Nat) (s:Nat):(o.drop l).g7 s=o.g7 s:=by
 induction l with
 | nil=>simp [AH.drop]
 | cons x r ih =>
  unfold AH.g7 at *;by_cases h:s=x
  ·subst h;simp [AH.drop,AH.put]
  ·simp [AH.drop,AH.put,h,ih]
theorem xU {m:M} (hm:BI B S w0 m) (l:List Nat):BI B S w0 ⟨m.ν,m.own.drop l,m.w⟩/\C7 B S m ⟨m.ν,m.own.drop l,m.w⟩:=by
 have old : ∀ s t b,(m.own.drop l).get s t=some b->m.own.get s t=some b:=λ s t b h=>by
  rw[jY]at h;split at h
  ·cases h
  ·exact h
 have he:C7 B S m ⟨m.ν,m.own.drop l,m.w⟩:=by
  refine PQ hm (Nat.le_refl _) (λ_ _ _=>rfl) (λ s=>by rw[fE];exact Nat.le_refl _) (λ s t b' _ k6=>⟨b',old s t b' k6,rfl,rfl,λ_ ar _ _ ha=>⟨ar,ha,rfl⟩⟩) (λ s t g hl hg _ => ?_);obtain ⟨b,hb⟩:=hl;exact ⟨s,t,⟨b,old s t b hb⟩,hg⟩
 refine ⟨⟨hm.below,hm.size,λ s t ht => ?_,λ s t b hb => ?_,λ s1 t1 s2 t2 b1 b2 g h1 h2=>hm.inj s1 t1 s2 t2 b1 b2 g (old _ _ _ h1) (old _ _ _ h2)⟩,he⟩
 ·rw[fE]at ht
  rw[jY];split
  ·rfl
  ·exact hm.fresh s t ht
 ·obtain ⟨h1,h2⟩:=hm.e8 s t b (old s t b hb)
  refine ⟨h1,?_⟩;show match m.ν s t with|none=>_|some g=>_
  cases hv:m.ν s t with
  | none=>rw[hv]at h2;exact h2
  | some g =>
   rw[hv]at h2;obtain ⟨h3,ar,e',h4,h5⟩:=h2;refine ⟨h3,ar,e',h4,λ i cs hi j c hj => ?_⟩;obtain ⟨u,hu,q9⟩:=h5 i cs hi j c hj;exact ⟨u,hu,he.cc q9⟩
end
end Go.c4

namespace Go.c4
section
variable {P:Program} {num:Nat->Nat} {op:Op}
theorem Mr {y:AM} (h:A2 P num op (.b7 y)=true) : ∃ x,(op = .move x\/op = .assign x)/\BF x y=true:=by
 cases op with
 | move x=>exact ⟨x,.inl rfl,h⟩
 | assign x=>exact ⟨x,.inr rfl,h⟩
 | _=>exact Bool.noConfusion h
theorem Mz {s z:Nat} (h:A2 P num op (.w9 s z)=true):(op = .move (.const (.slice none 0 0))\/op = .assign (.const (.slice none 0 0)))/\z≠0:=by
 simp only[A2,Bool.and_eq_true,bne_iff_ne]at h;refine ⟨?_,h.1⟩;have h2:=h.2;split at h2<;>simp_all
theorem Mu {c' a' b':AM} (h:A2 P num op (.pick c' a' b')=true) : ∃ c a b,op = .pick c a b/\BF c c'=true/\BF a a'=true/\BF b b'=true:=by
 cases op with
 | pick c a b=>simp only[A2,Bool.and_eq_true]at h;exact ⟨c,a,b,rfl,h.1.1,h.1.2,h.2⟩
 | _=>exact Bool.noConfusion h
theorem Oe {f:BinOp} {x' y':AM} (h:A2 P num op (.bin f x' y')=true) : ∃ t x y u,op = .binOp f t x y u/\BF x x'=true/\BF y y'=true:=by
 cases op with
 | binOp f' t x y u =>
  simp only[A2,Bool.and_eq_true,beq_iff_eq]at h;exact ⟨t,x,y,u,by rw[h.1.1],h.1.2,h.2⟩
 | _=>exact Bool.noConfusion h
theorem Od {ne:Bool} {x' y':AM} (h:A2 P num op (.beq ne x' y')=true) : ∃ t x y u,op = .binOp (if ne then .neq else .eql) t x y u/\P.underlying t=some .bool/\BF x x'=true/\BF y y'=true:=by
 cases op with
 | binOp f' t x y u =>
  simp only[A2,Bool.and_eq_true]at h;obtain ⟨⟨⟨h1,h2⟩,h3⟩,h4⟩:=h;refine ⟨t,x,y,u,?_,?_,h3,h4⟩
  ·cases ne<;>simp_all
  ·split at h2<;>simp_all
 | _=>exact Bool.noConfusion h
theorem My {f:UnOp} {x':AM} (h:A2 P num op (.un f x')=true) : ∃ t x,op = .unOp f t x/\BF x x'=true:=by
 cases op with
 | unOp f' t x =>
  simp only[A2,Bool.and_eq_true,beq_iff_eq]at h;exact ⟨t,x,by rw[h.1],h.2⟩
 | _=>exact Bool.noConfusion h
theorem Oq {k:IntKind} {x':AM} (h:A2 P num op (.conv k x')=true) : ∃ s d x ds,op = .convert s d x/\P.underlying s=some ds/\P.underlying d=some (.int k)/\BF x x'=true:=by
 cases op with
 | convert s d x =>
  simp only[A2,Bool.and_eq_true]at h;obtain ⟨⟨h1,h2⟩,h3⟩:=h;obtain ⟨ds,vd⟩:=Option.isSome_iff_exists.1 h1;refine ⟨s,d,x,ds,rfl,vd,?_,h3⟩;split at h2<;>simp_all
 | _=>exact Bool.noConfusion h
theorem Og {s:Nat} {x':AM} (h:A2 P num op (.box s x')=true) : ∃ t x,op = .box t x/\BF x x'=true:=by
 cases op with
 | box t x=>exact ⟨t,x,rfl,h⟩
 | _=>exact Bool.noConfusion h
theorem Nz {s:Nat} {z:List AV} (h:A2 P num op (.alloc s z)=true) : ∃ t,op = .alloc t/\QG P t z=true:=by
 cases op with
 | alloc t=>exact ⟨t,rfl,h⟩
 | _=>exact Bool.noConfusion h
theorem Oi {z:List AV} {bl:List (Nat × Nat × AM)} (h:A2 P num op (.build z bl)=true) : ∃ t ps,op = .build t ps/\QG P t z=true/\XN P t ps.toList bl=true:=by
 cases op with
 | build t ps=>simp only[A2,Bool.and_eq_true]at h;exact ⟨t,ps,rfl,h.1,h.2⟩
 | _=>exact Bool.noConfusion h
theorem JE {t:TypeId} {f:TypeId->Bool} (h:GJ P t f=true) : ∃ e,P.underlying t=some (.slice e)/\f e=true:=by
 unfold GJ at h;split at h
 ·rename_i e he;exact ⟨e,he,h⟩
 ·cases h
theorem IB {t:TypeId} {n:Nat} (h:GI P t n=true) : ∃ i,P.info? t=some i/\i.size=n:=by
 unfold GI at h;split at h
 ·rename_i i hi;exact ⟨i,hi,by simpa using h⟩
 ·cases h
theorem US {t:TypeId} {n:Nat} (h:PD P t n=true) : ∃ i,P.info? t=some i/\i.bytes=n:=by
 unfold PD at h;split at h
 ·rename_i i hi;exact ⟨i,hi,by simpa using h⟩
 ·cases h
theorem cJ {t:TypeId} {l:List AV} (h:QG P t l=true) : ∃ i z,P.info? t=some i/\i.zero=some z/\NL z.cells.toList l=true:=by
 unfold QG at h;split at h
 ·rename_i i hi
  split at h
  ·rename_i z hz;exact ⟨i,z,hi,hz,h⟩
  ·cases h
 ·cases h
theorem UP {t:TypeId} {b:Bool} (h:(PA P t == some b)=true) : ∀ w,(isAgg t).run P w = .ok b w:=by
 intro w;have h':PA P t=some b:=by simpa using h
 unfold PA at h';unfold isAgg;cases hu:P.underlying t with
 | none=>rw[hu]at h';cases h'
 | some d =>
  rw[hu]at h';rw[Sem.run_bind,run_underlying hu];cases d<;>simp_all<;>rfl
theorem WY {e:TypeId} {n:Nat} (h:(match P.info? e with|some i=>(match i.zero with|some z=>z.cells.size == n|none=>false)|none=>false)=true) : ∃ i z,P.info? e=some i/\i.zero=some z/\z.cells.size=n:=by
 split at h
 ·rename_i i hi
  split at h
  ·rename_i z hz;exact ⟨i,z,hi,hz,by simpa using h⟩
  ·cases h
 ·cases h
theorem Oh {s a6:Nat} {bl:List AM} (h:A2 P num op (.c9 s a6 bl)=true) : ∃ t n ps e i,op = .buildSlice t n ps/\P.underlying t=some (.slice e)/\P.info? e=some i/\i.size=a6/\a6≠0/\n=bl.length/\n*a6<=16777216/\PM 0 ps.toList bl=true/\(n=0 \/ ∃ z,i.zero=some z/\z.cells.size=a6):=by
 cases op with
 | buildSlice t n ps =>
  simp only[A2,Bool.and_eq_true,decide_eq_true_eq,bne_iff_ne,beq_iff_eq,Bool.or_eq_true]at h;obtain ⟨⟨⟨⟨⟨h1,h2⟩,h3⟩,h4⟩,h5⟩,h6⟩:=h;obtain ⟨e,he,h1⟩:=JE h1;obtain ⟨i,hi,hs⟩:=IB h1;refine ⟨t,n,ps,e,i,rfl,he,hi,hs,h2,h3,h4,h5,h6.imp id λ h6 => ?_⟩;obtain ⟨e',ef,h6⟩:=JE h6;rw[he]at ef;obtain rfl:e=e':=by simpa using ef
  obtain ⟨i',z,m4,hz,rl⟩:=WY h6;rw[hi]at m4;obtain rfl:i=i':=by simpa using m4
  exact ⟨z,hz,rl⟩
 | _=>exact Bool.noConfusion h
theorem kP {x':AM} {off:Nat} (h:A2 P num op (.a5 x' off)=true) : ∃ t x f fs fd i,op = .fieldAddr t x f/\BF x x'=true/\P.underlying t=some (.struct fs)/\fs[f]? = some fd/\fd.offset=off/\P.info? fd.type=some i/\i.size≠0:=by
 cases op with
 | fieldAddr t x f =>
  simp only[A2,Bool.and_eq_true]at h;obtain ⟨h1,h2⟩:=h;split at h2
  ·rename_i fs mj
   split at h2
   ·rename_i fd Bx
    simp only[Bool.and_eq_true,beq_iff_eq]at h2;obtain ⟨h3,h4⟩:=h2;split at h4
    ·rename_i i hi
     exact ⟨t,x,f,fs,fd,i,rfl,h1,mj,Bx,h3,hi,by simpa using h4⟩
    ·cases h4
   ·cases h2
  ·cases h2
 | _=>exact Bool.noConfusion h
theorem Ov {x':AM} {off n:Nat} {agg:Bool} (h:A2 P num op (.ja x' off n agg)=true) : ∃ t x f fs fd i,op = .field t x f/\BF x x'=true/\P.underlying t=some (.struct fs)/\fs[f]? = some fd/\fd.offset=off/\P.info? fd.type=some i/\i.size=n/\(∀ w,(isAgg fd.type).run P w = .ok agg w)/\n≠0:=by
 cases op with
 | field t x f =>
  simp only[A2,Bool.and_eq_true]at h;obtain ⟨⟨h1,h2⟩,h3⟩:=h;unfold jN at h2;unfold jO at h3;split at h2
  ·rename_i fs mj
   split at h2
   ·rename_i fd Bx
    simp only[Bool.and_eq_true,beq_iff_eq,bne_iff_ne]at h2;obtain ⟨⟨h4,h5⟩,h6⟩:=h2;obtain ⟨i,hi,hs⟩:=IB h5;rw[mj]at h3;simp only[Bx]at h3;exact ⟨t,x,f,fs,fd,i,rfl,h1,mj,Bx,h4,hi,hs,UP h3,h6⟩
   ·cases h2
  ·cases h2
 | _=>exact Bool.noConfusion h
theorem VO {arr:Option Nat} {a6:Nat} {x' i':AM} (h:A2 P num op (.a9 arr a6 x' i')=true) : ∃ t x i e inf,op = .indexAddr t x i/\BF x x'=true/\BF i i'=true/\P.info? e=some inf/\inf.size=a6 /\
  ((∃ len,arr=some len/\P.underlying t=some (.array len e)/\1<len)\/(arr=none/\P.underlying t=some (.slice e)/\a6≠0)):=by
 cases op with
 | indexAddr t x i =>
  simp only[A2,Bool.and_eq_true]at h;obtain ⟨⟨h1,h2⟩,h3⟩:=h;split at h3
  ·rename_i len e gf hu
   simp only[Bool.and_eq_true,beq_iff_eq,decide_eq_true_eq]at h3;obtain ⟨⟨h4,h5⟩,h6⟩:=h3;obtain ⟨inf,hi,hs⟩:=IB h5;exact ⟨t,x,i,e,inf,rfl,h1,h2,hi,hs,.inl ⟨len,by rw[h4],hu,h6⟩⟩
  ·rename_i e hu
   simp only[Bool.and_eq_true,bne_iff_ne]at h3;obtain ⟨inf,hi,hs⟩:=IB h3.1;exact ⟨t,x,i,e,inf,rfl,h1,h2,hi,hs,.inr ⟨rfl,hu,h3.2⟩⟩
  ·cases h3
 | _=>exact Bool.noConfusion h
theorem Ow {len a6:Nat} {agg:Bool} {x' i':AM} (h:A2 P num op (.idx len a6 agg x' i')=true) : ∃ t x i e inf,op = .index t x i/\BF x x'=true/\BF i i'=true/\P.underlying t=some (.array len e)/\P.info? e=some inf/\inf.size=a6/\(∀ w,(isAgg e).run P w = .ok agg w):=by
 cases op with
 | index t x i =>
  simp only[A2,Bool.and_eq_true]at h;obtain ⟨⟨h1,h2⟩,h3⟩:=h;split at h3
  ·rename_i gf e hu
   simp only[Bool.and_eq_true,beq_iff_eq]at h3;obtain ⟨⟨h4,h5⟩,h6⟩:=h3;obtain ⟨inf,hi,hs⟩:=IB h5;exact ⟨t,x,i,e,inf,rfl,h1,h2,by rw[h4];exact hu,hi,hs,UP (by simpa using h6)⟩
  ·cases h3
 | _=>exact Bool.noConfusion h
theorem kQ {agg:Bool} {n:Nat} {x':AM} (h:A2 P num op (.ld agg n x')=true) : ∃ t x,op = .load t x/\BF x x'=true/\(∀ w,(isAgg t).run P w = .ok agg w)/\(if agg then ∃ i,P.info? t=some i/\i.size=n else n=1):=by
 cases op with
 | load t x =>
  simp only[A2,Bool.and_eq_true]at h;obtain ⟨⟨h1,h2⟩,h3⟩:=h;refine ⟨t,x,rfl,h1,UP h2,?_⟩;cases agg
  ·simpa using h3
  ·exact IB (by simpa using h3)
 | _=>exact Bool.noConfusion h
theorem Mw {n:Nat} {x' v':AM} (h:A2 P num op (.st n x' v')=true) : ∃ t x v i,op = .store t x v/\BF x x'=true/\BF v v'=true/\P.info? t=some i/\i.size=n:=by
 cases op with
 | store t x v =>
  simp only[A2,Bool.and_eq_true]at h;obtain ⟨⟨h1,h2⟩,h3⟩:=h;obtain ⟨i,hi,hs⟩:=IB h3;exact ⟨t,x,v,i,rfl,h1,h2,hi,hs⟩
 | _=>exact Bool.noConfusion h
theorem Mp {s a6 bytes:Nat} {zero:List AV} {l' c':AM} (h:A2 P num op (.mk s a6 bytes zero l' c')=true) : ∃ t l c e i z,op = .makeSlice t l c/\BF l l'=true/\BF c c'=true/\P.underlying t=some (.slice e)/\P.info? e=some i/\i.size=a6/\i.bytes=bytes/\i.zero=some z/\NL z.cells.toList zero=true/\a6≠0:=by
 cases op with
 | makeSlice t l c =>
  simp only[A2,Bool.and_eq_true,bne_iff_ne]at h;obtain ⟨⟨⟨h1,h2⟩,h3⟩,h4⟩:=h;obtain ⟨e,he,h3⟩:=JE h3;simp only[Bool.and_eq_true]at h3;obtain ⟨⟨h5,h6⟩,h7⟩:=h3;obtain ⟨i,hi,hs⟩:=IB h5;obtain ⟨i2,gn,mn⟩:=US h6;obtain ⟨i3,z,na,hz,bk⟩:=cJ h7;rw[hi]at gn na;obtain rfl:i=i2:=by simpa using gn
  obtain rfl:i=i3:=by simpa using na
  exact ⟨t,l,c,e,i,z,rfl,h1,h2,he,hi,hs,mn,hz,bk,h4⟩
 | _=>exact Bool.noConfusion h
theorem ZM {a6:Nat} {x':AM} {ji m4:Option AM} (h:A2 P num op (.dc a6 x' ji m4)=true) : ∃ t x lo hi e i,op = .slice t x lo hi none/\BF x x'=true/\MW lo ji=true/\MW hi m4=true/\P.underlying t=some (.slice e)/\P.info? e=some i/\i.size=a6/\a6≠0:=by
 cases op with
 | slice t x lo hi mx =>
  cases mx with
  | some _=>exact Bool.noConfusion h
  | none =>
   simp only[A2,Bool.and_eq_true,bne_iff_ne]at h;obtain ⟨⟨⟨⟨h1,h2⟩,h3⟩,h4⟩,h5⟩:=h;obtain ⟨e,he,h4⟩:=JE h4;obtain ⟨i,m4,hs⟩:=IB h4;exact ⟨t,x,lo,hi,e,i,rfl,h1,h2,h3,he,m4,hs,h5⟩
 | _=>exact Bool.noConfusion h
theorem Ou {x':AM} {i:Nat} (h:A2 P num op (.ext x' i)=true) : ∃ x,op = .extract x i/\BF x x'=true:=by
 cases op with
 | extract x j =>
  simp only[A2,Bool.and_eq_true,beq_iff_eq]at h;exact ⟨x,by rw[h.2],h.1⟩
 | _=>exact Bool.noConfusion h
theorem OY {α:Type} {xs:Array α} {x y:α} (h:xs.toList=[x,y]):xs = #[x,y]:=by cases xs;simp_all
theorem WP {α:Type} {xs:Array α} {x:α} (h:xs.toList=[x]):xs = #[x]:=by cases xs;simp_all
theorem Mo {x':AM} (h:A2 P num op (.len x')=true) : ∃ x t e,op = .call ⟨.builtin .len,#[x],#[t]⟩/\BF x x'=true/\P.underlying t=some (.slice e):=by
 cases op with
 | call c =>
  obtain ⟨cl,xs,ts⟩:=c;cases cl with
  | builtin b =>
   cases b<;>first|exact Bool.noConfusion h|skip
   simp only[A2]at h;split at h
   ·rename_i x t hx ht
    simp only[Bool.and_eq_true]at h;obtain ⟨e,he,_⟩:=JE h.2;exact ⟨x,t,e,by rw[WP hx,WP ht],h.1,he⟩
   ·cases h
  | value f=>cases f<;>exact Bool.noConfusion h
  | invoke=>exact Bool.noConfusion h
 | _=>exact Bool.noConfusion h
theorem kR {mx:Bool} {m8:List AM} (h:A2 P num op (.mm mx m8)=true) : ∃ xs ts,op = .call ⟨.builtin (if mx then .max else .min),xs,ts⟩/\DX xs.toList m8=true:=by
 cases op with
 | call c =>
  obtain ⟨cl,xs,ts⟩:=c;cases cl with
  | builtin b =>
   cases b<;>first|exact Bool.noConfusion h|skip
   all_goals
    simp only[A2,Bool.and_eq_true]at h;refine ⟨xs,ts,?_,h.2⟩;cases mx<;>simp_all
  | value f=>cases f<;>exact Bool.noConfusion h
  | invoke=>exact Bool.noConfusion h
 | _=>exact Bool.noConfusion h
theorem kN {s a6 bytes:Nat} {x' y':AM} (h:A2 P num op (.app s a6 bytes x' y')=true) : ∃ x y t e i z tx ex,op = .call ⟨.builtin .append,#[x,y],#[t,tx]⟩/\BF x x'=true/\BF y y'=true/\P.underlying t=some (.slice e)/\P.info? e=some i/\i.size=a6/\i.bytes=bytes/\i.zero=some z/\z.cells.size=a6/\a6≠0/\P.underlying tx=some (.slice ex):=by
 cases op with
 | call c =>
  obtain ⟨cl,xs,ts⟩:=c;cases cl with
  | builtin b =>
   cases b<;>first|exact Bool.noConfusion h|skip
   simp only[A2]at h;split at h
   ·rename_i x y t u hx ht
    simp only[Bool.and_eq_true,beq_iff_eq,bne_iff_ne]at h;obtain ⟨⟨⟨⟨h1,h2⟩,h3⟩,h4⟩,h5⟩:=h;obtain ⟨e,he,h3⟩:=JE h3;simp only[Bool.and_eq_true]at h3;obtain ⟨⟨h6,h7⟩,h8⟩:=h3;obtain ⟨i,hi,hs⟩:=IB h6;obtain ⟨i2,gn,mn⟩:=US h7;obtain ⟨i3,z,na,hz,bk⟩:=WY h8;rw[hi]at gn na;obtain rfl:i=i2:=by simpa using gn
    obtain rfl:i=i3:=by simpa using na
    obtain ⟨ex,hex,_⟩:=JE h5;exact ⟨x,y,t,e,i,z,u,ex,by rw[OY hx,OY ht],h1,h2,he,hi,hs,mn,hz,bk,h4,hex⟩
   ·cases h
  | value f=>cases f<;>exact Bool.noConfusion h
  | invoke=>exact Bool.noConfusion h
 | _=>exact Bool.noConfusion h
theorem Oa {s a6 bytes:Nat} {x' y':AM} (h:A2 P num op (.jm s a6 bytes x' y')=true) : ∃ x y t e i z tx ex,op = .call ⟨.builtin .append,#[x,y],#[t,tx]⟩/\BF x x'=true/\BF y y'=true/\P.underlying t=some (.slice e)/\P.info? e=some i/\i.size=a6/\i.bytes=bytes/\i.zero=some z/\z.cells.size=a6/\a6≠0/\P.underlying tx=some (.slice ex):=by
 cases op with
 | call c =>
  obtain ⟨cl,xs,ts⟩:=c;cases cl with
  | builtin b =>
   cases b<;>first|exact Bool.noConfusion h|skip
   simp only[A2]at h;split at h
   ·rename_i x y t u hx ht
    simp only[Bool.and_eq_true,beq_iff_eq,bne_iff_ne]at h;obtain ⟨⟨⟨⟨h1,h2⟩,h3⟩,h4⟩,h5⟩:=h;obtain ⟨e,he,h3⟩:=JE h3;simp only[Bool.and_eq_true]at h3;obtain ⟨⟨h6,h7⟩,h8⟩:=h3;obtain ⟨i,hi,hs⟩:=IB h6;obtain ⟨i2,gn,mn⟩:=US h7;obtain ⟨i3,z,na,hz,bk⟩:=WY h8;rw[hi]at gn na;obtain rfl:i=i2:=by simpa using gn
    obtain rfl:i=i3:=by simpa using na
    obtain ⟨ex,hex,_⟩:=JE h5;exact ⟨x,y,t,e,i,z,u,ex,by rw[OY hx,OY ht],h1,h2,he,hi,hs,mn,hz,bk,h4,hex⟩
   ·cases h
  | value f=>cases f<;>exact Bool.noConfusion h
  | invoke=>exact Bool.noConfusion h
 | _=>exact Bool.noConfusion h
theorem Ot {a6:Nat} {x' y':AM} (h:A2 P num op (.jq a6 x' y')=true) : ∃ x y t e i,op = .call ⟨.builtin .copy,#[x,y],#[t,t]⟩/\BF x x'=true/\BF y y'=true/\P.underlying t=some (.slice e)/\P.info? e=some i/\i.size=a6/\a6≠0:=by
 cases op with
 | call c =>
  obtain ⟨cl,xs,ts⟩:=c;cases cl with
  | builtin b =>
   cases b<;>first|exact Bool.noConfusion h|skip
   simp only[A2]at h;split at h
   ·rename_i x y t u hx ht
    simp only[Bool.and_eq_true,beq_iff_eq,bne_iff_ne]at h;obtain ⟨⟨⟨⟨h1,h2⟩,h3⟩,h4⟩,h5⟩:=h;obtain ⟨e,he,h3⟩:=JE h3;obtain ⟨i,hi,hs⟩:=IB h3;exact ⟨x,y,t,e,i,by rw[OY hx,OY ht,h5],h1,h2,he,hi,hs,h4⟩
   ·cases h
  | value f=>cases f<;>exact Bool.noConfusion h
  | invoke=>exact Bool.noConfusion h
 | _=>exact Bool.noConfusion h
theorem ZL {f:Nat} {m8:List AM} (h:A2 P num op (.call f m8)=true) : ∃ xs ts,op = .call ⟨.value (.func (num f)),xs,ts⟩/\DX xs.toList m8=true:=by
 cases op with
 | call c =>
  obtain ⟨cl,xs,ts⟩:=c;cases cl with
  | builtin b=>cases b<;>exact Bool.noConfusion h
  | value g =>
   cases g with
   | func g =>
    simp only[A2,Bool.and_eq_true,beq_iff_eq]at h;exact ⟨xs,ts,by rw[h.1],h.2⟩
   | _=>exact Bool.noConfusion h
  | invoke=>exact Bool.noConfusion h
 | _=>exact Bool.noConfusion h
theorem Oj {f:Nat} {m8:List AM} (h:A2 P num op (.g6 f m8)=true) : ∃ xs ts,op = .call ⟨.value (.func (num f)),xs,ts⟩/\DX xs.toList m8=true:=by
 cases op with
 | call c =>
  obtain ⟨cl,xs,ts⟩:=c;cases cl with
  | builtin b=>cases b<;>exact Bool.noConfusion h
  | value g =>
   cases g with
   | func g =>
    simp only[A2,Bool.and_eq_true,beq_iff_eq]at h;exact ⟨xs,ts,by rw[h.1],h.2⟩
   | _=>exact Bool.noConfusion h
  | invoke=>exact Bool.noConfusion h
 | _=>exact Bool.noConfusion h
theorem Ol {f:Nat} {m8:List AM} (h:A2 P num op (.k9 f m8)=true):A2 P num op (.call f m8)=true:=by
 cases op<;>exact h
theorem Ny {ne:Bool} {n:Nat} {x' y':AM} (h:A2 P num op (.mv ne n x' y')=true) : ∃ t x y u,op = .binOp (if ne then .neq else .eql) t x y u/\Y3 P t n=true/\BF x x'=true/\BF y y'=true:=by
 cases op with
 | binOp f' t x y u =>
  simp only[A2,Bool.and_eq_true]at h;obtain ⟨⟨⟨h1,h2⟩,h3⟩,h4⟩:=h;refine ⟨t,x,y,u,?_,h2,h3,h4⟩;cases ne<;>simp_all
 | _=>exact Bool.noConfusion h
theorem Mt {x':AM} (h:A2 P num op (.nm x')=true) : ∃ x,op = .nilCheck x/\BF x x'=true:=by
 cases op with
 | nilCheck x=>exact ⟨x,rfl,h⟩
 | _=>exact Bool.noConfusion h
theorem Oo {x':AM} (h:A2 P num op (.dd x')=true) : ∃ x t e,op = .call ⟨.builtin .cap,#[x],#[t]⟩/\BF x x'=true/\P.underlying t=some (.slice e):=by
 cases op with
 | call c =>
  obtain ⟨cl,xs,ts⟩:=c;cases cl with
  | builtin b =>
   cases b<;>first|exact Bool.noConfusion h|skip
   simp only[A2]at h;split at h
   ·rename_i x t hx ht
    simp only[Bool.and_eq_true]at h;obtain ⟨e,he,_⟩:=JE h.2;exact ⟨x,t,e,by rw[WP hx,WP ht],h.1,he⟩
   ·cases h
  | value f=>cases f<;>exact Bool.noConfusion h
  | invoke=>exact Bool.noConfusion h
 | _=>exact Bool.noConfusion h
theorem Oc {s a6 bytes:Nat} {x' y':AM} (h:A2 P num op (.jn s a6 bytes x' y')=true) : ∃ x y t e i z tx k,op = .call ⟨.builtin .append,#[x,y],#[t,tx]⟩/\BF x x'=true/\BF y y'=true/\P.underlying t=some (.slice e)/\P.info? e=some i/\i.size=a6/\i.bytes=bytes/\i.zero=some z/\z.cells.size=a6/\a6≠0/\P.underlying tx=some (.int k):=by
 cases op with
 | call c =>
  obtain ⟨cl,xs,ts⟩:=c;cases cl with
  | builtin b =>
   cases b<;>first|exact Bool.noConfusion h|skip
   simp only[A2]at h;split at h
   ·rename_i x y t u hx ht
    simp only[Bool.and_eq_true,bne_iff_ne]at h;obtain ⟨⟨⟨⟨h1,h2⟩,h3⟩,h4⟩,h5⟩:=h;obtain ⟨e,he,h3⟩:=JE h3;simp only[Bool.and_eq_true]at h3;obtain ⟨⟨h6,h7⟩,h8⟩:=h3;obtain ⟨i,hi,hs⟩:=IB h6;obtain ⟨i2,gn,mn⟩:=US h7;obtain ⟨i3,z,na,hz,bk⟩:=WY h8;rw[hi]at gn na;obtain rfl:i=i2:=by simpa using gn
    obtain rfl:i=i3:=by simpa using na
    split at h5
    ·rename_i k hk
     exact ⟨x,y,t,e,i,z,u,k,by rw[OY hx,OY ht],h1,h2,he,hi,hs,mn,hz,bk,h4,hk⟩
    ·cases h5
   ·cases h
  | value f=>cases f<;>exact Bool.noConfusion h
  | invoke=>exact Bool.noConfusion h
 | _=>exact Bool.noConfusion h
theorem On {s f:Nat} {m8:List AM} (h:A2 P num op (.y6 s f m8)=true):A2 P num op (.g6 f m8)=true:=by
 cases op<;>exact h
theorem Om {s f:Nat} {m8:List AM} (h:A2 P num op (.o6 s f m8)=true):A2 P num op (.call f m8)=true:=by
 cases op<;>exact h
theorem Mx {s n:Nat} {x' v':AM} (h:A2 P num op (.jl s n x' v')=true):A2 P num op (.st n x' v')=true:=by
 cases op<;>exact h
theorem Ob {s a6 bytes:Nat} {x' y':AM} (h:A2 P num op (.az s a6 bytes x' y')=true):A2 P num op (.app s a6 bytes x' y')=true:=by
 cases op<;>exact h
theorem Ox {ne:Bool} {x':AM} (h:A2 P num op (.mr ne x')=true) : ∃ t x u e,op = .binOp (if ne then .neq else .eql) t x (.const (.slice none 0 0)) u/\P.underlying t=some (.slice e)/\BF x x'=true:=by
 cases op with
 | binOp f' t x y u =>
  simp only[A2]at h;split at h
  ·rename_i heq
   simp only[Op.binOp.injEq]at heq;obtain ⟨rfl,rfl,rfl,rfl,rfl⟩:=heq;simp only[Bool.and_eq_true]at h;obtain ⟨⟨h1,h2⟩,h3⟩:=h;unfold GJ at h2;split at h2
   ·rename_i e he
    refine ⟨t,x,u,e,?_,he,h3⟩;cases ne
    ·simp only[Bool.false_eq_true,if_false,beq_iff_eq]at h1;rw[h1];rfl
    ·simp only[if_true,beq_iff_eq]at h1;rw[h1];rfl
   ·cases h2
  ·cases h
 | _=>exact Bool.noConfusion h
theorem Mv {tb:List Nat} {i':AM} (h:A2 P num op (.ct tb i')=true) : ∃ t s i,op = .index t (.const (.string s)) i/\P.underlying t=some .string/\s.data.toList.map (λ b=>b.toNat)=tb/\BF i i'=true:=by
 cases op with
 | index t x i =>
  simp only[A2]at h;split at h
  ·rename_i heq
   simp only[Op.index.injEq]at heq;obtain ⟨rfl,rfl,rfl⟩:=heq;simp only[Bool.and_eq_true,beq_iff_eq]at h;obtain ⟨⟨h1,h2⟩,h3⟩:=h;exact ⟨_,_,_,rfl,by split at h1<;>simp_all,h2,h3⟩
  ·cases h
 | _=>exact Bool.noConfusion h
theorem Mq {p:Bool} {f:Nat} {m8:List AM} (h:A2 P num op (.kf p f m8)=true) : ∃ first xs,op = .makeFunc (.func (num f)) first xs/\first = #[]/\DX xs.toList m8=true:=by
 cases op with
 | makeFunc g first xs =>
  cases g with
  | func g =>
   simp only[A2,Bool.and_eq_true,beq_iff_eq]at h;obtain ⟨⟨rfl,h2⟩,h3⟩:=h;refine ⟨first,xs,rfl,?_,h3⟩;obtain ⟨l⟩:=first
   simp at h2;rw[h2]
  | _=>exact Bool.noConfusion h
 | _=>exact Bool.noConfusion h
theorem kO {x':AM} {m8:List AM} (h:A2 P num op (.n9 x' m8)=true) : ∃ x xs ts,op = .call ⟨.value x,xs,ts⟩/\BF x x'=true/\DX xs.toList m8=true:=by
 cases op with
 | call c =>
  obtain ⟨cl,xs,ts⟩:=c;cases cl with
  | builtin b=>cases b<;>exact Bool.noConfusion h
  | value g =>
   simp only[A2,Bool.and_eq_true]at h;exact ⟨g,xs,ts,rfl,h.1,h.2⟩
  | invoke=>exact Bool.noConfusion h
 | _=>exact Bool.noConfusion h
end
end Go.c4

namespace Go.c4
open Go.RowKit
def BW.u4:BW->AH->AH
 | .val _,o=>o
 | .new s b _,o=>o.put s ((o s).new b)
 | .sd s b _,o=>o.put s ((o s).new b)
 | .z0 _ o',_=>o'
 | .m7 s x,o=>o.put s x
 | .nr s x _,o=>o.put s x
def BW.valOf:BW->AH->AV
 | .val v,_=>v
 | .new s _ v,o=>v (o.g7 s)
 | .sd s _ v,o=>v (o.g7 s)
 | .z0 v _,_=>v
 | .m7 _ _,_ => .j5 []
 | .nr _ _ v,_=>v
section
variable {B:Nat} {S:Nat->Prop} {w0:World} {m:M}
theorem GC {k:IntKind} {n:Int} {v:Value} (h:CV B S m (.int k n) v):v = .int k n:=by
 cases h with
 | ca h=>cases h with
  | one h=>cases h with
   | rd h=>cases h;rfl
theorem PH {b:Bool} {v:Value} (h:CV B S m (.bool b) v):v = .bool b:=by
 cases h with
 | ca h=>cases h with
  | one h=>cases h with
   | rd h=>cases h;rfl
theorem U2 {cs:List AV} {v:Value} (h:CV B S m (.agg cs) v) : ∃ vs:List Value,v = .agg vs.toArray/\CL B S m cs vs:=by
 cases h with
 | ca h=>cases h with
  | one h=>cases h with
   | rd h=>cases h
  | agg _ vs h=>exact ⟨vs,rfl,h⟩
theorem XX {cs:List AV} {v:Value} (h:CV B S m (.j5 cs) v) : ∃ vs:List Value,v = .tuple vs.toArray/\cs.length=vs.length /\ ∀ (j:Nat) (c:AV) (u:Value),cs[j]? = some c->vs[j]? = some u->CA B S m c u:=by
 cases h with
 | ca h=>cases h with
  | one h=>cases h with
   | rd h=>cases h
 | j5 _ vs hl h=>exact ⟨vs,rfl,hl,h⟩
theorem JY (k:IntKind) (n:Int):CV B S m (.int k n) (.int k n):= .ca (.one (.rd (.int k n)))
theorem S5 (b:Bool):CV B S m (.bool b) (.bool b):= .ca (.one (.rd (.bool b)))
theorem lK:CV B S m (.j5 []) undef := .j5 [] [] rfl (λ j c v h=>by simp at h)
theorem U4 {a:AV} {cs:List AV} {v:Value} (h:CV B S m a v) (hc:cellsOf a=some cs):CL B S m cs v.cells.toList:=by
 cases h with
 | any v=>simp [cellsOf]at hc
 | j5=>simp [cellsOf]at hc
 | ca h=>cases h with
  | agg bm vs h =>
   obtain rfl:bm=cs:=by simpa [cellsOf] using hc
   simpa [Value.cells] using h
  | fn=>simp [cellsOf]at hc
  | one h =>
   have h1:v.cells.toList=[v]:=by
    cases h with
    | rd h=>cases h<;>rfl
    | _=>rfl
   have h2:cs=[a]:=by
    cases h with
    | rd h=>cases h<;>simp [cellsOf]at hc<;>exact hc.symm
    | _=>simp [cellsOf]at hc;exact hc.symm
   rw[h1,h2];refine ⟨rfl,λ j c u hj hu => ?_⟩;cases j with
   | zero=>simp at hj hu;subst hj hu;exact h
   | succ j=>simp at hj
theorem uF {cs:List AV} {vs:List Value} (h:CL B S m cs vs) : ∀ v∈vs,v.oneCell'=true:=by
 intro v hv;obtain ⟨j,hj,rfl⟩:=List.getElem_of_mem hv;have xi:j<cs.length:=by rw[h.1];exact hj
 exact (h.2 j cs[j] vs[j] (zE xi) (zE hj)).one
theorem eK {cs:List AV} {vs:List Value} (h:CL B S m cs vs) (off n:Nat):CL B S m ((cs.drop off).take n) ((vs.drop off).take n):=by
 refine ⟨by simp [h.1],λ j c v hj hv => ?_⟩;rw[List.getElem?_take]at hj hv;split at hj
 ·rename_i l6
  rw[if_pos l6]at hv;rw[List.getElem?_drop]at hj hv;exact h.2 _ c v hj hv
 ·cases hj
theorem iC {v:Value} {a:AV} (h:VD v a=true):CC B S m a v:=by
 unfold VD at h;split at h
 ·simp only[Bool.and_eq_true,beq_iff_eq]at h
  obtain ⟨rfl,rfl⟩:=h;exact .rd (.int _ _)
 ·obtain rfl:_=_:=by simpa using h
  exact .rd (.bool _)
 ·exact .nil
 ·rename_i s s'
  obtain rfl:s=s':=by
   have h':s.data.toList=s'.data.toList:=by simpa using h
   obtain ⟨⟨l⟩⟩:=s;obtain ⟨⟨l'⟩⟩:=s';simp only at h';rw[h']
  exact .rd (.str _)
 ·cases h
theorem QV : ∀ {vs:List Value} {cs:List AV},NL vs cs=true->CL B S m cs vs
 | [],[],_=>⟨rfl,λ j c v h=>by simp at h⟩
 | v::r,c::l,h=>by
  simp only[NL,Bool.and_eq_true]at h;have ih:=QV (vs:=r) (cs:=l) h.2;refine ⟨by simp [ih.1],λ j c' v' hj hv => ?_⟩;cases j with
  | zero=>simp at hj hv;subst hj hv;exact iC h.1
  | succ j=>exact ih.2 j c' v' (by simpa using hj) (by simpa using hv)
 | [],_::_,h=>by simp [NL]at h
 | _::_,[],h=>by simp [NL]at h
theorem yH {v:Value} {a:AV} (h:YG v a=true):CV B S m a v:=by
 unfold YG at h;split at h
 ·rename_i cs l
  have:=QV (B:=B) (S:=S) (m:=m) h
  exact .ca (by simpa using CA.agg l cs.toList this)
 ·exact .ca (.one (iC h))
def CD (B:Nat) (S:Nat->Prop) (m:M) (ρ:AM->AV) (e:Operand->Value):Prop := ∀ x y,BF x y=true->CV B S m (ρ y) (e x)
theorem Pc {T:Nat->AV} {a:Act} {ρ:AM->AV} (Wz : ∀ n,ρ (.t n)=T n) (Iy : ∀ v,ρ (.c v)=v) (h : ∀ i,CV B S m (T i) (a.tmps.getD i undef)):CD B S m ρ a.eval:=by
 intro x y nk;unfold BF at nk;split at nk
 ·obtain rfl:_=_:=by simpa using nk
  rw[Wz];exact h _
 ·rw[Iy]
  exact yH nk
 ·obtain rfl:_=_:=by simpa using nk
  rw[Iy];exact .ca (.fn _ _ _ [] [] ⟨rfl,λ j c v h=>by simp at h⟩)
 ·cases nk
variable {P:Program} {num:Nat->Nat} {o:Oper} {a:Act} {ρ:AM->AV} {K:Act->World->Prop} {Q:Exit->Act->World->Prop}
theorem IZ {w w':World} {u:Value} (h:(execOp a.eval o).run P w = .ok (.value u) w') (hk:K (a.put o.dst u) w'):o.wp P a w K Q:=by
 unfold Oper.wp;rw[h];exact hk
theorem Rr {w w':World} (h:(execOp a.eval o).run P w = .ok .skip w') (hk:K (a.put o.dst undef) w'):o.wp P a w K Q:=by
 unfold Oper.wp;rw[h];exact hk
def CF (B:Nat) (S:Nat->Prop) (w0:World) (P:Program) (o:Oper) (a:Act) (m:M) (E:BW):Prop :=
 ∀ (K:Act->World->Prop) (Q:Exit->Act->World->Prop),(∀ u m',m'.own=E.u4 m.own->BI B S w0 m'->C7 B S m m'->CV B S m' (E.valOf m.own) u->K (a.put o.dst u) m'.w)->o.wp P a m.w K Q
theorem DS (hm:BI B S w0 m) {v:AV} {u:Value} (h:(execOp a.eval o).run P m.w = .ok (.value u) m.w) (hc:CV B S m v u):CF B S w0 P o a m (.val v) :=
 λ K Q hK=>IZ h (hK u m rfl hm (C7.refl m) hc)
theorem xJ (hm:BI B S w0 m) (hs:CD B S m ρ a.eval) {y:AM} (h:A2 P num o.op (.b7 y)=true):CF B S w0 P o a m (.val (ρ y)):=by
 obtain ⟨x,hx,he⟩:=Mr h;refine DS hm (u:=a.eval x) ?_ (hs x y he);rcases hx with hx|hx<;>simp [execOp,hx]
theorem xQ (hm:BI B S w0 m) {s z:Nat} (h:A2 P num o.op (.w9 s z)=true):CF B S w0 P o a m (.sd s ⟨z,[]⟩ (λ t => .row s t z 0 0)):=by
 obtain ⟨hx,hz⟩:=Mz h;intro K Q hK;obtain ⟨h1,h2⟩:=pC hm s z;refine IZ (u := .slice none 0 0) (w':=m.w) ?_ (hK _ ⟨g9 m s none,m.own.put s ((m.own s).new ⟨z,[]⟩),m.w⟩ rfl h1 h2 ?_)
 ·rcases hx with hx|hx<;>simp [execOp,hx,Act.eval]
 ·refine .ca (.one (.row s (m.own.g7 s) z 0 0 none 0 ?_ (by omega) (Nat.le_refl _) (λ h=>by omega) λ b hb => ?_))
  ·show _<AH.g7 _ s
   rw[JL];simp
  ·change AH.get _ s _=some b at hb
   rw[FL,if_pos ⟨rfl,rfl⟩]at hb;obtain rfl:(⟨z,[]⟩:DJ)=b:=by simpa using hb
   exact ⟨rfl,.inl ⟨rfl,rfl⟩⟩
theorem gJ (hm:BI B S w0 m) (hs:CD B S m ρ a.eval) {c' a' b':AM} (h:A2 P num o.op (.pick c' a' b')=true) {t:Bool} (hc:ρ c' = .bool t) :
  CF B S w0 P o a m (.val (if t then ρ a' else ρ b')):=by
 obtain ⟨c,x,y,j8,h1,h2,h3⟩:=Mu h;have q6:=PH (hc ▸ hs c c' h1);refine DS hm (u:=if t then a.eval x else a.eval y) ?_ ?_
 ·cases t<;>simp [execOp,j8,q6,asBool]
 ·cases t
  ·exact hs y b' h3
  ·exact hs x a' h2
theorem Oy (f:BinOp) (t:TypeId) (k k':IntKind) (x y:Int) (v:AV) (h:C9 f k x k' y=some v) (w:World) : ∃ u,(binOp f t (.int k x) (.int k' y)).run P w = .ok u w/\((∃ n,v = .int k n/\u = .int k n) \/ ∃ b,v = .bool b/\u = .bool b):=by
 cases f<;>simp only[C9]at h;case shl =>
  split at h
  ·cases h
  ·rename_i hy;simp at h;subst h
   exact ⟨_,by simp [binOp,Op.shift,hy],.inl ⟨_,rfl,rfl⟩⟩
 case shr =>
  split at h
  ·cases h
  ·rename_i hy;simp at h;subst h
   exact ⟨_,by simp [binOp,Op.shift,hy],.inl ⟨_,rfl,rfl⟩⟩
 case quo =>
  split at h
  ·rename_i hy;obtain ⟨rfl,hy⟩:=hy;simp at h;subst h
   exact ⟨_,by simp [binOp,Op.intDiv,hy],.inl ⟨_,rfl,rfl⟩⟩
  ·cases h
 case rem =>
  split at h
  ·rename_i hy;obtain ⟨rfl,hy⟩:=hy;simp at h;subst h
   exact ⟨_,by simp [binOp,Op.intDiv,hy],.inl ⟨_,rfl,rfl⟩⟩
  ·cases h
 case and|or|xor|andNot =>
  all_goals
   split at h
   ·rename_i hk;subst hk;obtain rfl:=Option.some.inj h
    exact ⟨_,by simp only[binOp,ne_eq,not_true_eq_false,if_false];rfl,.inl ⟨_,rfl,rfl⟩⟩
   ·cases h
 case add|sub|mul =>
  all_goals
   split at h
   ·rename_i hk;subst hk;obtain rfl:=Option.some.inj h
    exact ⟨_,by simp [binOp,Op.intArith],.inl ⟨_,rfl,rfl⟩⟩
   ·cases h
 all_goals
  split at h
  ·rename_i hk;subst hk;obtain rfl:=Option.some.inj h
   exact ⟨_,by simp [binOp,Op.intCmp],.inr ⟨_,rfl,rfl⟩⟩
  ·cases h
theorem Pw (f:BinOp) (t:TypeId) (x y:Operand) (k k':IntKind) (n n':Int) (w:World):(eqGuard f t x y (.int k n) (.int k' n')).run P w = .ok () w:=by
 unfold eqGuard;cases f<;>simp
theorem Px (f:BinOp) (t:TypeId) (x y:Operand) (b b':Bool) (w:World):(eqGuard f t x y (.bool b) (.bool b')).run P w = .ok () w:=by
 unfold eqGuard;cases f<;>simp
theorem wF (hm:BI B S w0 m) (hs:CD B S m ρ a.eval) {f:BinOp} {x' y':AM} (h:A2 P num o.op (.bin f x' y')=true) {k k':IntKind} {n n':Int} {v:AV} (hx:ρ x' = .int k n) (hy:ρ y' = .int k' n') (hv:C9 f k n k' n'=some v) :
  CF B S w0 P o a m (.val v):=by
 obtain ⟨t,x,y,u,j8,h1,h2⟩:=Oe h;have ex:=GC (hx ▸ hs x x' h1);have ey:=GC (hy ▸ hs y y' h2);obtain ⟨r,hr,au⟩:=Oy (P:=P) f t k k' n n' v hv m.w;refine DS hm (u:=r) ?_ ?_
 ·simp [execOp,j8,ex,ey,Pw,hr]
 ·rcases au with ⟨q,rfl,rfl⟩|⟨q,rfl,rfl⟩
  ·exact JY _ _
  ·exact S5 _
theorem Pz (t:TypeId) (b b':Bool) (hu:P.underlying t=some .bool) (w:World):(Op.equal t (.bool b) (.bool b')).run P w = .ok (b == b') w:=by
 have h : ∀ d:Nat,(Op.equalIn (d+1) t (.bool b) (.bool b')).run P w = .ok (b == b') w:=λ d=>by
  unfold Op.equalIn;rw[Sem.run_bind,run_underlying hu];rfl
 exact h 9999
theorem wE (hm:BI B S w0 m) (hs:CD B S m ρ a.eval) {ne:Bool} {x' y':AM} (h:A2 P num o.op (.beq ne x' y')=true) {b b':Bool} (hx:ρ x' = .bool b) (hy:ρ y' = .bool b') :
  CF B S w0 P o a m (.val (.bool (if ne then !(b == b') else b == b'))):=by
 obtain ⟨t,x,y,u,j8,hu,h1,h2⟩:=Od h;have ex:=PH (hx ▸ hs x x' h1);have ey:=PH (hy ▸ hs y y' h2);refine DS hm (u := .bool (if ne then !(b == b') else b == b')) ?_ (S5 _);cases ne<;>simp [execOp,j8,ex,ey,Px,binOp,Pz t b b' hu]
theorem jP : ∀ {fs:List Field} {k n:Nat},fieldsI P k fs n=true->k<=n
 | [],k,n,h=>by simp only[fieldsI,beq_iff_eq]at h;omega
 | f::fs,k,n,h=>by
  simp only[fieldsI,Bool.and_eq_true]at h;have:=jP h.2
  omega
theorem nI (d:Nat) (a b:List Int) (w:World) : ∀ {fs:List Field} {k:Nat},fieldsI P k fs a.length=true->b.length=a.length ->
  (Op.eqFields (d+1) (a.map (Value.int .i64)).toArray (b.map (Value.int .i64)).toArray fs).run P w = .ok (decide (a.drop k=b.drop k)) w
 | [],k,h,hl=>by
  simp only[fieldsI,beq_iff_eq]at h;rw[List.drop_of_length_le (by omega),List.drop_of_length_le (by omega)];simp [Op.eqFields]
 | f::fs,k,h,hl=>by
  simp only[fieldsI,Bool.and_eq_true,bne_iff_ne,beq_iff_eq]at h;obtain ⟨⟨⟨h1,h2⟩,h3⟩,h4⟩:=h;have hk:=jP h4;have hp:P.plainKey f.type=true:=by unfold Program.plainKey;split at h3<;>simp_all
  obtain ⟨kd,hu⟩ : ∃ kd,P.underlying f.type=some (.int kd):=by split at h3<;>simp_all
  have e1:(a.map (Value.int .i64)).toArray[f.offset]? = some (.int .i64 (a[k]'(by omega))):=by rw[h2];simp [zE (show k<a.length by omega)]
  have e2:(b.map (Value.int .i64)).toArray[f.offset]? = some (.int .i64 (b[k]'(by omega))):=by rw[h2];simp [zE (show k<b.length by omega)]
  have ih:=nI d a b w h4 hl;have hd:(a.drop k=b.drop k)↔(a[k]'(by omega)=b[k]'(by omega)/\a.drop (k+1)=b.drop (k+1)):=by
   rw[List.drop_eq_getElem_cons (show k<a.length by omega),List.drop_eq_getElem_cons (show k<b.length by omega),List.cons.injEq]
  simp only[Op.eqFields,ne_eq,h1,not_false_eq_true,if_true,Sem.run_bind,run_part_plain w hp e1,run_part_plain w hp e2,Result.andThen_ok,run_equalIn_int w d f.type .i64 kd _ _ hu,Sem.run_ite];by_cases wv:a[k]'(by omega)=b[k]'(by omega)
  ·simp [wv,ih,hd]
  ·simp [wv,hd]
theorem ZJ : ∀ {cs:List AV} {a:List Int} {vs:List Value},G7 cs=some a->CL B S m cs vs->vs=a.map (Value.int .i64)
 | [],a,vs,h,hc=>by
  simp only[G7,Option.some.injEq]at h;subst h;have:=hc.1
  exact List.eq_nil_of_length_eq_zero (by simpa using this.symm)
 | c::r,a,vs,h,hc=>by
  cases vs with
  | nil=>have:=hc.1;simp at this
  | cons v vs =>
   cases c with
   | int k n =>
    cases k<;>simp only[G7]at h<;>first|cases h|skip
    cases hr:G7 r with
    | none=>rw[hr]at h;cases h
    | some b =>
     rw[hr]at h;simp only[Option.map_some,Option.some.injEq]at h;subst h;have h0:=GC (.ca (.one (hc.2 0 _ v rfl rfl)));have ih:=ZJ (vs:=vs) hr ⟨by have:=hc.1;simpa using this,λ j c v h1 h2=>hc.2 (j+1) c v h1 h2⟩;rw[h0,ih];rfl
   | _=>simp only[G7]at h;cases h
theorem vZ (hm:BI B S w0 m) (hs:CD B S m ρ a.eval) {ne:Bool} {n:Nat} {x' y':AM} (h:A2 P num o.op (.mv ne n x' y')=true) {cs ds:List AV} (hx:ρ x' = .agg cs) (hy:ρ y' = .agg ds) {p q:List Int} (hp:G7 cs=some p) (hq:G7 ds=some q) (hn:p.length=n/\q.length=n) :
  CF B S w0 P o a m (.val (.bool (if ne then !(decide (p=q)) else decide (p=q)))):=by
 obtain ⟨t,x,y,u,j8,cn,h1,h2⟩:=Ny h;obtain ⟨vx,ex,cx⟩:=U2 (hx ▸ hs x x' h1);obtain ⟨vy,ey,cy⟩:=U2 (hy ▸ hs y y' h2);obtain rfl:=ZJ hp cx;obtain rfl:=ZJ hq cy;obtain ⟨rfl,Ai⟩:=hn;simp only[Y3,Bool.and_eq_true,Bool.not_eq_true']at cn;obtain ⟨⟨hf,j9⟩,hg⟩:=cn;obtain ⟨fs,hu,mj⟩ : ∃ fs,P.underlying t=some (.struct fs)/\fieldsI P 0 fs.toList p.length=true:=by
  split at hf
  ·exact ⟨_,by assumption,hf⟩
  ·cases hf
 have Hu:P.fieldsOf t=fs:=by simp [Program.fieldsOf,hu]
 have hr:=run_equalIn_struct m.w 9999 t (p.map (Value.int .i64)).toArray (q.map (Value.int .i64)).toArray (by rw[Hu];exact hu) j9;rw[Hu,nI 9998 p q m.w mj Ai,List.drop_zero,List.drop_zero]at hr;refine DS hm (u := .bool (if ne then !(decide (p=q)) else decide (p=q))) ?_ (S5 _);cases ne
 ·simp [execOp,j8,ex,ey,run_eqGuard_agg m.w _ t x y _ _ hg,run_eql_struct,hr]
 ·simp [execOp,j8,ex,ey,run_eqGuard_agg m.w _ t x y _ _ hg,run_neq_struct,hr]
theorem xP (hm:BI B S w0 m) (hs:CD B S m ρ a.eval) {f:UnOp} {x':AM} (h:A2 P num o.op (.un f x')=true) {v:AV} (hv:O0 f (ρ x')=some v):CF B S w0 P o a m (.val v):=by
 obtain ⟨t,x,j8,h1⟩:=My h;have hx:=hs x x' h1;unfold O0 at hv;split at hv
 ·rename_i k n hk
  have ex:=GC (hk ▸ hx);split at hv
  ·obtain rfl:_=v:=by simpa using hv
   exact DS hm (by simp [execOp,j8,ex,Op.unary,Op.intArith]) (JY _ _)
  ·obtain rfl:_=v:=by simpa using hv
   exact DS hm (by simp only[execOp,j8,ex,Op.unary];rfl) (JY _ _)
  ·cases hv
 ·rename_i b hk
  have ex:=PH (hk ▸ hx);split at hv
  ·obtain rfl:_=v:=by simpa using hv
   exact DS hm (by simp [execOp,j8,ex,Op.unary]) (S5 _)
  ·cases hv
 ·cases hv
theorem wP (hm:BI B S w0 m) (hs:CD B S m ρ a.eval) {k:IntKind} {x':AM} (h:A2 P num o.op (.conv k x')=true) {k':IntKind} {n:Int} (hx:ρ x' = .int k' n):CF B S w0 P o a m (.val (.int k (k.wrap n))):=by
 obtain ⟨s,d,x,ds,j8,vd,hd,h1⟩:=Oq h;have ex:=GC (hx ▸ hs x x' h1);refine DS hm (u := .int k (k.wrap n)) ?_ (JY _ _);simp [execOp,j8,ex,convert,run_underlying vd,run_underlying hd,Conv.intToInt]
theorem Qa (t:TypeId) (a:Option Addr) (n c:Nat) {e:TypeId} (hu:P.underlying t=some (.slice e)) (w:World):(Op.equal t (.slice a n c) (.slice none 0 0)).run P w = .ok a.isNone w:=by
 have h : ∀ d:Nat,(Op.equalIn (d+1) t (.slice a n c) (.slice none 0 0)).run P w = .ok a.isNone w:=λ d=>by
  unfold Op.equalIn;rw[Sem.run_bind,run_underlying hu];cases a<;>rfl
 exact h 9999
theorem Py (f:BinOp) (t:TypeId) (x y:Operand) (a b:Option Addr) (n c n' c':Nat) (w:World):(eqGuard f t x y (.slice a n c) (.slice b n' c')).run P w = .ok () w:=by
 unfold eqGuard;cases f<;>simp
theorem VB (hm:BI B S w0 m) (hs:CD B S m ρ a.eval) {ne:Bool} {x':AM} (h:A2 P num o.op (.mr ne x')=true) {b:Bool} (hx : ∀ v,CV B S m (ρ x') v -> ∃ ad n c,v = .slice ad n c/\ad.isNone=b) :
  CF B S w0 P o a m (.val (.bool (xor b ne))):=by
 obtain ⟨t,x,u,e,j8,hu,h1⟩:=Ox h;obtain ⟨ad,n,c,ex,hb⟩:=hx _ (hs x x' h1);refine DS hm (u := .bool (xor b ne)) ?_ (S5 _);have e0:a.eval (.const (.slice none 0 0)) = .slice none 0 0:=rfl;cases ne<;>cases b<;>simp [execOp,j8,ex,e0,Py,binOp,Qa t ad n c hu,hb]
theorem NJ {v:Value} (h:CV B S m .nil v):v = .slice none 0 0:=by
 cases h with
 | ca h=>cases h with
  | one h=>cases h with
   | rd h=>cases h
   | nil=>rfl
theorem fP {b:Bool} {v:Value} (h:CV B S m (.z9 (.bool b)) v) : ∃ ad c,v = .slice ad 0 c/\ad.isNone=b:=by
 cases h with
 | ca h=>cases h with
  | one h=>cases h with
   | rd h=>cases h with
    | emp b a cap h=>exact ⟨a,cap,rfl,h⟩
theorem vH {l:Bool} {e:List AV} {es:List (List AV)} {v:Value} (h:CV B S m (.sl l (e::es)) v) : ∃ ad n c,v = .slice ad n c/\ad.isNone=false:=by
 cases h with
 | ca h=>cases h with
  | one h=>cases h with
   | rd h=>cases h with
    | sl=>exact ⟨_,_,_,rfl,rfl⟩
theorem vG {s t z off n:Nat} {v:Value} (h:CV B S m (.row s t z off (n+1)) v) : ∃ ad n c,v = .slice ad n c/\ad.isNone=false:=by
 cases h with
 | ca h=>cases h with
  | one h=>cases h with
   | rd h=>cases h
   | row _ _ _ _ _ a cap _ _ _ ha=>exact ⟨_,_,_,rfl,by have:=ha (by omega);cases a<;>simp_all⟩
theorem xL (hm:BI B S w0 m) (hs:CD B S m ρ a.eval) {tb:List Nat} {x':AM} (h:A2 P num o.op (.ct tb x')=true) {k:IntKind} {n:Int} {v:Nat} (hx:ρ x' = .int k n) (h0:0<=n) (hv:tb[n.toNat]? = some v) :
  CF B S w0 P o a m (.val (.int .u8 v)):=by
 obtain ⟨t,s,i,j8,hu,Fu,h1⟩:=Mv h;have ex:=GC (hx ▸ hs i x' h1);have hb : ∃ b:UInt8,s[n.toNat]? = some b/\b.toNat=v:=by
  rw[<-Fu,List.getElem?_map]at hv;cases hg:s.data.toList[n.toNat]? with
  | none=>simp [hg]at hv
  | some b =>
   simp only[hg,Option.map_some,Option.some.injEq]at hv;refine ⟨b,?_,hv⟩;have l6:n.toNat<s.size:=by
    have:=(zS hg).1
    simpa using this
   rw[getElem?_pos s n.toNat l6];congr 1;have:=(zS hg).2
   rw[<-this];rfl
 obtain ⟨b,uw,o7⟩:=hb;refine DS hm (u := .int .u8 v) ?_ (JY _ _);have e0:a.eval (.const (.string s)) = .string s:=rfl;simp [execOp,j8,ex,e0,Instr.index,asIntOf,run_underlying hu,h0,uw,o7]
theorem Qn {x c:AV} {v:Value} (h:CV B S m x v) (hc:GF x=some c):CC B S m c v:=by
 cases h with
 | any=>simp [GF]at hc
 | j5=>simp [GF]at hc
 | ca h=>cases h with
  | agg=>simp [GF]at hc
  | fn=>simp [GF]at hc
  | one h =>
   have:c=x:=by
    cases h with
    | rd h=>cases h<;>simp [GF]at hc<;>exact hc.symm
    | _=>simp [GF]at hc;exact hc.symm
   subst this;exact h
theorem iB (hs:CD B S m ρ a.eval) : ∀ {xs:List Operand} {m8:List AM} {cs:List AV},DX xs m8=true->m8.mapM (λ x=>GF (ρ x))=some cs->CL B S m cs (xs.map a.eval)
 | [],[],cs,_,h=>by
  simp at h;subst h;exact ⟨rfl,λ j c v h=>by simp at h⟩
 | x::r,y::l,cs,h,hc=>by
  simp only[DX,Bool.and_eq_true]at h;simp only[List.mapM_cons,Option.bind_eq_bind,Option.pure_def]at hc;cases h1:GF (ρ y) with
  | none=>simp [h1]at hc
  | some c =>
   cases h2:l.mapM (λ x=>GF (ρ x)) with
   | none=>simp [h1,h2]at hc
   | some bm =>
    simp [h1,h2]at hc;subst hc;have ih:=iB hs h.2 h2;refine ⟨by simpa using ih.1,λ j c' v hj hv => ?_⟩;cases j with
    | zero =>
     simp at hj hv;subst hj hv;exact Qn (hs x y h.1) h1
    | succ j=>exact ih.2 j c' v (by simpa using hj) (by simpa using hv)
 | [],_::_,_,h,_=>by simp [DX]at h
 | _::_,[],_,h,_=>by simp [DX]at h
theorem xG (hm:BI B S w0 m) (hs:CD B S m ρ a.eval) {p:Bool} {f:Nat} {m8:List AM} (h:A2 P num o.op (.kf p f m8)=true) {cs:List AV} (hc:m8.mapM (λ x=>GF (ρ x))=some cs) :
  CF B S w0 P o a m (.val (.fn p f (num f) cs)):=by
 obtain ⟨first,xs,j8,rfl,he⟩:=Mq h;have n6:=iB hs he hc;have eo:(xs.map a.eval)=(xs.toList.map a.eval).toArray:=by cases xs;simp
 refine DS hm (u := .func (.func (num f)) #[] (xs.toList.map a.eval).toArray) ?_ (.ca (.fn p f (num f) cs _ n6));simp [execOp,j8,Instr.makeFunc,eo]
end
end Go.c4
