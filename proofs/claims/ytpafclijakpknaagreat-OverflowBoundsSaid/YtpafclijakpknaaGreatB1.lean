/-
  The abstract machine: data without memory. AV: a value; slices that are only read are lists ('sl'), rows and boxes of the call's own are named by a site and a stamp.
  Nothing here speaks of a program; EngSound ties it to the model.
-/
import Derived.Calls
set_option linter.unusedSimpArgs false
set_option linter.unusedVariables false
set_option linter.unnecessarySimpa false
namespace Go.c9
theorem zE {α : Type} {l : List α} {i : Nat} (h : i < l.length) : l[i]? = some l[i] :=
 List.getElem?_eq_getElem h
theorem zS {α : Type} {l : List α} {i : Nat} {a : α} (h : l[i]? = some a) : ∃ h : i < l.length, l[i] = a :=
 List.getElem?_eq_some_iff.1 h
theorem zM {α : Type} {l : List α} {i : Nat} {a : α} (h : l[i]? = some a) : a ∈ l :=
 List.mem_of_getElem? h
theorem zR {m n : Nat} (k : Nat) (h : m <= n) : m * k <= n * k :=
 Nat.mul_le_mul_right k h
theorem zT {α : Type} {l : List α} {i : Nat} (h : l.length <= i) : l.take i = l :=
 List.take_of_length_le h
end Go.c9
namespace Go.c9
inductive AV where
 | int (k:IntKind) (n:Int)
 | bool (b:Bool)
 | sl (l:Bool) (es:List (List AV))
 | row (s t z off len:Nat)
 | nil
 | ptr (s t i j:Nat)
 | db (cs:List AV)
 | agg (cs:List AV)
 | j5 (vs:List AV)
 | gx (v:Value)
 | fn (p:Bool) (f g:Nat) (cs:List AV)
 | any
 deriving Inhabited
inductive C4 where
 | t (n:Nat)
 | c (v:AV)
 deriving Inhabited
structure LS where
 b7:Nat
 es:List (List AV)
structure H1 where
 k9:Nat
 k8:Nat->Option LS
def C2:=Nat->H1
def C2.emp:C2:=λ_=>⟨0,λ_=>none⟩
def C2.put (o:C2) (s:Nat) (x:H1):C2:=λ s'=>if s'=s then x else o s'
def C2.get (o:C2) (s t:Nat):Option LS:=(o s).k8 t
def C2.k9 (o:C2) (s:Nat):Nat:=(o s).k9
def H1.cr (x:H1) (t:Nat) (b:Option LS):H1:=⟨x.k9,λ t'=>if t'=t then b else x.k8 t'⟩
def H1.new (x:H1) (b:LS):H1:=⟨x.k9+1,λ t'=>if t'=x.k9 then some b else x.k8 t'⟩
theorem C2.n6 (o:C2) (s:Nat) (x:H1):o.put s x s=x:=by simp [C2.put]
theorem C2.nv (o:C2) (s s':Nat) (x:H1) (h:s'≠s):o.put s x s'=o s':=by simp [C2.put,h]
theorem C2.Bp (o:C2) (s:Nat) (x y:H1):(o.put s x).put s y=o.put s y:=by
 funext s';by_cases h:s'=s<;>simp [C2.put,h]
inductive K8 where
 | y7 (x:C4)
 | gj (s b7:Nat)
 | pick (c a b:C4)
 | bin (op:BinOp) (x y:C4)
 | beq (ne:Bool) (x y:C4)
 | un (op:UnOp) (x:C4)
 | conv (k:IntKind) (x:C4)
 | box (s:Nat) (x:C4)
 | alloc (s:Nat) (zero:List AV)
 | build (zero:List AV) (parts:List (Nat × Nat × C4))
 | a9 (s b7:Nat) (parts:List C4)
 | m4 (x:C4) (off:Nat)
 | ye (x:C4) (off n:Nat) (agg:Bool)
 | ch (arr:Option Nat) (b7:Nat) (x i:C4)
 | ld (agg:Bool) (n:Nat) (x:C4)
 | st (n:Nat) (x v:C4)
 | mk (s b7 bytes:Nat) (zero:List AV) (l c:C4)
 | kv (b7:Nat) (x:C4) (lo hi:Option C4)
 | ext (x:C4) (i:Nat)
 | len (x:C4)
 | mm (max:Bool) (xs:List C4)
 | app (s b7 bytes:Nat) (x y:C4)
 | call (f:Nat) (xs:List C4)
 | j6 (f:Nat) (xs:List C4)
 | Cq (ne:Bool) (x:C4)
 | nw (tb:List Nat) (x:C4)
 | zh (p:Bool) (f:Nat) (xs:List C4)
 | w5 (x:C4) (xs:List C4)
 | v7 (f:Nat) (xs:List C4)
 | zi (s n:Nat) (x v:C4)
 | ay (s f:Nat) (xs:List C4)
 | iy (s f:Nat) (xs:List C4)
 | bad
 deriving Inhabited
structure AI where
 dst:Option Nat
 op:K8
 guard:Option (Nat × Bool):=none
 c4:List Nat:=[]
 deriving Inhabited
inductive FX where
 | skip
 | ops (l:List AI) (draw:Bool)
 | dr (c:FX) (ts ss:List Nat)
 | scope (c:FX)
 | seq (a b:FX)
 | cond (c:C4) (a b:FX)
 | block (id:Nat) (c:FX)
 | loop (c:FX)
 | exit (id:Nat)
 | ret
 deriving Inhabited
inductive aG where
 | tmp (t:Nat)
 | cell (t:Nat) (agg:Bool) (n:Nat)
 deriving Inhabited
structure AFn where
 gp:Nat
 body:FX
 res:List aG
 Aq:Bool
abbrev Tm:=List (Nat × AV)
def k7:Tm->Nat->AV
 | [],_ => .any
 | (i,v)::r,j=>if j=i then v else k7 r j
def rn:Tm->Nat->AV->Tm
 | [],j,u=>[(j,u)]
 | (i,v)::r,j,u=>if j=i then (i,u)::r else if j<i then (j,u)::(i,v)::r else (i,v)::rn r j u
def gd:Tm->List Nat->Tm
 | [],_=>[]
 | (i,v)::r,l=>if l.contains i then gd r l else (i,v)::gd r l
theorem Rk (m:Tm) (i:Nat) (v:AV) (j:Nat):k7 (rn m i v) j=if j=i then v else k7 m j:=by
 induction m with
 | nil=>by_cases h:j=i<;>simp [rn,k7,h]
 | cons x r ih =>
  obtain ⟨a,u⟩:=x;by_cases h:i=a
  ·subst h
   by_cases h2:j=i<;>simp [rn,k7,h2]
  ·by_cases o5:i<a
   ·by_cases h2:j=i<;>simp [rn,k7,h,o5,h2]
   ·by_cases h2:j=a
    ·subst h2
     have : ¬ j=i:=λ e=>h e.symm
     simp [rn,k7,h,o5,this]
    ·simp [rn,k7,h,o5,h2,ih]
structure St where
 tm:Tm
 own:C2
def St.ev (st:St):C4->AV
 | .t n=>k7 st.tm n
 | .c v=>v
inductive H5 where
 | val (v:AV)
 | new (s:Nat) (b:LS) (v:Nat->AV)
 | Kj (s:Nat) (b:LS) (v:Nat->AV)
 | mn (v:AV) (own:C2)
 | cr (s:Nat) (x:H1)
 | Hl (s:Nat) (x:H1) (v:AV)
def cellsOf:AV->Option (List AV)
 | .agg cs=>some cs
 | .fn _ _ _ _=>none
 | .j5 _=>none
 | .any=>none
 | v=>some [v]
def cP (agg:Bool) (cs:List AV):Option AV :=
 if agg then some (.agg cs) else match cs with|[c]=>some c|_=>none
def part (cs:List AV) (off n:Nat):Option (List AV) :=
 if off+n<=cs.length then some ((cs.drop off).take n) else none
def splice (cs:List AV) (off:Nat) (vs:List AV):List AV:=cs.take off++vs++cs.drop (off+vs.length)
def fill (cells:List AV):List (Nat × Nat × AV)->Option (List AV)
 | []=>some cells
 | (off,n,v)::r=>match cellsOf v with
  | some vs=>if vs.length=n/\off+n<=cells.length then fill (splice cells off vs) r else none
  | none=>none
def J0 (op:BinOp) (k:IntKind) (a:Int) (k':IntKind) (b:Int):Option AV :=
 match op with
 | .shl=>if b<0 then none else some (.int k (k.wrap (a*2^(min b.toNat k.bits))))
 | .shr=>if b<0 then none else some (.int k (a.fdiv (2^(min b.toNat k.bits))))
 | .add=>if k=k' then some (.int k (k.wrap (a+b))) else none
 | .sub=>if k=k' then some (.int k (k.wrap (a-b))) else none
 | .mul=>if k=k' then some (.int k (k.wrap (a*b))) else none
 | .quo=>if k=k'/\b≠0 then some (.int k (k.wrap (a.tdiv b))) else none
 | .rem=>if k=k'/\b≠0 then some (.int k (a.tmod b)) else none
 | .and=>if k=k' then some (.int k (k.wrap (BitVec.ofInt k.bits a &&& BitVec.ofInt k.bits b).toNat)) else none
 | .or=>if k=k' then some (.int k (k.wrap (BitVec.ofInt k.bits a ||| BitVec.ofInt k.bits b).toNat)) else none
 | .xor=>if k=k' then some (.int k (k.wrap (BitVec.ofInt k.bits a ^^^ BitVec.ofInt k.bits b).toNat)) else none
 | .andNot=>if k=k' then some (.int k (k.wrap (BitVec.ofInt k.bits a &&& ~~~ BitVec.ofInt k.bits b).toNat)) else none
 | .eql=>if k=k' then some (.bool (a == b)) else none
 | .neq=>if k=k' then some (.bool (a != b)) else none
 | .lss=>if k=k' then some (.bool (decide (a<b))) else none
 | .leq=>if k=k' then some (.bool (decide (a<=b))) else none
 | .gtr=>if k=k' then some (.bool (decide (a>b))) else none
 | .geq=>if k=k' then some (.bool (decide (a≥b))) else none
def sT (op:UnOp):AV->Option AV
 | .int k n=>match op with
  | .neg=>some (.int k (k.wrap (0-n)))
  | .xor=>some (.int k (k.wrap (BitVec.ofInt k.bits (if k.signed then -1 else k.max) ^^^ BitVec.ofInt k.bits n).toNat))
  | _=>none
 | .bool b=>match op with
  | .not=>some (.bool (!b))
  | _=>none
 | _=>none
def qK (max:Bool):AV->AV->Option AV
 | .int k a,.int _ b=>some (.int k (if max then (if b>a then b else a) else (if b<a then b else a)))
 | _,_=>none
def cN (max:Bool):AV->List AV->Option AV
 | v,[]=>some v
 | v,u::r=>match qK max v u with|some x=>cN max x r|none=>none
def C2.w6 (o:C2):List Nat->C2
 | []=>o
 | s::r=>λ s'=>if s'=s then ⟨0,λ_=>none⟩ else o.w6 r s'
def C2.Ao (own:C2) (s t i j n:Nat):Option (List AV) :=
 match own.get s t with
 | some b=>match b.es[i]? with
  | some cs=>part cs j n
  | none=>none
 | none=>none
def C2.yc (own:C2) (s t i j:Nat) (vs:List AV):Option C2 :=
 match own.get s t with
 | some b=>match b.es[i]? with
  | some cs=>if j+vs.length<=cs.length then some (own.put s ((own s).cr t (some ⟨b.b7,b.es.set i (splice cs j vs)⟩))) else none
  | none=>none
 | none=>none
def MV (own:C2):AV->Option (List (List AV))
 | .sl _ es=>some es
 | .nil=>some []
 | .gx (.bool _)=>some []
 | .row s t z off len=>match own.get s t with
  | some b=>if off+len<=b.es.length/\b.b7=z then some ((b.es.drop off).take len) else none
  | none=>none
 | _=>none
def qF:AV->Option Nat
 | .sl _ es=>some es.length
 | .nil=>some 0
 | .row _ _ _ _ len=>some len
 | _=>none
def snap (own:C2) (l:Bool):Nat->AV->Option AV
 | _,.int k n=>some (.int k n)
 | _,.bool b=>some (.bool b)
 | _,.sl l' es=>some (.sl l' es)
 | _,.nil=>some (.sl false [])
 | _,.gx v=>some (.gx v)
 | d+1,.row s t z off len=>match MV own (.row s t z off len) with
  | some es=>(es.mapM (λ cs:List AV=>cs.mapM (snap own l d))).map (AV.sl l)
  | none=>none
 | _,_=>none
def JD (own:C2) (l:Bool):AV->Option AV
 | .agg cs=>(cs.mapM (snap own l 6)).map AV.agg
 | v=>snap own l 6 v
def oT (own:C2) (l:Bool):AV->Option AV
 | .nil=>some .nil
 | v=>JD own l v
def sL (own:C2) (l:Bool):AV->Option AV
 | .j5 cs=>(cs.mapM (JD own l)).map AV.j5
 | v=>JD own l v
mutual
def EA:AV->Prop
 | .int _ _=>True
 | .bool _=>True
 | .gx _=>True
 | .sl l es=>l=false/\L3 es
 | .agg cs=>GK cs
 | .j5 cs=>GK cs
 | _=>False
def GK:List AV->Prop
 | []=>True
 | c::r=>EA c/\GK r
def L3:List (List AV)->Prop
 | []=>True
 | c::r=>GK c/\L3 r
end
def NR:Nat:=140737488355328
structure Cl where
 pure:Nat->List AV->Option AV
 pt:Nat->List AV->C2->Option (AV × C2)
 num:Nat->Nat
noncomputable def AbA (C:Cl) (f:Nat) (vs:List AV) (s:Nat) (q:H1):Option (AV × H1) :=
 open Classical in if h : ∃ p : AV × H1, ∀ o : C2, o s = q -> C.pt f vs o = some (p.1, o.put s p.2) then some h.choose else none
theorem AbB {C:Cl} {f:Nat} {vs:List AV} {s:Nat} {q:H1} {p:AV × H1}:AbA C f vs s q=some p ↔ ∀ o:C2,o s=q->C.pt f vs o=some (p.1,o.put s p.2):=by
 unfold AbA;constructor
 ·intro h
  split at h
  ·rename_i hx
   obtain rfl:=Option.some.inj h;exact hx.choose_spec
  ·cases h
 ·intro h
  rw[dif_pos ⟨p,h⟩];have h1:=(⟨p,h⟩ : ∃ p:AV × H1,∀ o:C2,o s=q->C.pt f vs o=some (p.1,o.put s p.2)).choose_spec (λ_=>q) rfl;have h2:=h (λ_=>q) rfl;have h3:=Option.some.inj (h2.symm.trans h1);refine congrArg some ?_;generalize (Exists.choose _:AV × H1)=p' at h3;obtain ⟨a,b⟩:=p;obtain ⟨a',b'⟩:=p';simp only[Prod.mk.injEq]at h3;obtain ⟨h4,h5⟩:=h3;have h6:b=b':=by
   have:=congrFun h5 s
   simpa [C2.put] using this
  rw[h4,h6]
def yX:AV->AV
 | .sl _ es => .sl false es
 | .nil => .sl false []
 | v=>v
def Hk:AV->AV
 | .agg cs => .agg (cs.map yX)
 | v=>yX v
def Rv:AV->AV
 | .sl _ es => .sl true es
 | v=>v
def Ke:AV->AV
 | .agg cs => .agg (cs.map Rv)
 | v=>Rv v
mutual
def P2:AV->AV
 | .sl _ es => .sl true (aO es)
 | v=>v
def W6:List AV->List AV
 | []=>[]
 | c::r=>P2 c::W6 r
def aO:List (List AV)->List (List AV)
 | []=>[]
 | c::r=>W6 c::aO r
end
def cL:AV->AV
 | .agg cs => .agg (W6 cs)
 | v=>P2 v
def sW:AV->Prop
 | .j5 _=>False
 | .fn _ _ _ _=>False
 | _=>True
def P1:AV->Bool
 | .int _ _=>true | .bool _=>true | .sl _ _=>true | .nil=>true
 | _=>false
def dq:AV->Bool
 | .agg cs=>cs.all P1
 | v=>P1 v
def AfQ:AV->Bool
 | .int _ _=>true | .bool _=>true
 | _=>false
def zG:AV->Prop
 | .int _ _=>True
 | .bool _=>True
 | .sl _ es => ∀ e∈es,∀ c∈e,AfQ c=true
 | _=>False
def YD:AV->Prop
 | .agg cs => ∀ c∈cs,zG c
 | v=>zG v
open Classical in
noncomputable def fE (r:AV):AV:=if YD r then Ke r else cL r
theorem Afw {r:AV} (h:YD r):fE r=Ke r:=if_pos h
theorem Afv {r:AV} (h : ¬ YD r):fE r=cL r:=if_neg h
def Afo:List AV->Option (List Int)
 | []=>some []
 | .int .i64 n::r=>(Afo r).map (n :: ·)
 | _=>none
def QL:AV->Option AV
 | .agg _=>none
 | .fn _ _ _ _=>none
 | .j5 _=>none
 | .any=>none
 | v=>some v
open Classical in
noncomputable def nP (x:Option (AV × C2)):Option (Nat × List (List AV)):=match x with
 | some (.row s t z 0 n,o)=>match o.get s t with
  | some b=>if b.es.length=n/\L3 b.es then some (z,b.es) else none
  | none=>none
 | _=>none
theorem Aqq {x:Option (AV × C2)} {z:Nat} {es:List (List AV)} (h:nP x=some (z,es)) : ∃ s t o b,x=some (.row s t z 0 es.length,o)/\o.get s t=some b/\b.es=es/\L3 es:=by
 unfold nP at h;split at h
 ·split at h
  ·rename_i s t z' n o b hb
   split at h
   ·rename_i hc
    obtain ⟨rfl,hc⟩:=hc;simp only[Option.some.injEq,Prod.mk.injEq]at h;obtain ⟨rfl,rfl⟩:=h;exact ⟨_,_,_,_,rfl,hb,rfl,hc⟩
   ·cases h
  ·cases h
 ·cases h
open Classical in
noncomputable def k6 (C:Cl) (c4:List Nat) (ρ:C4->AV) (own:C2):K8->Option H5
 | .y7 x=>some (.val (ρ x))
 | .gj s b7=>some (.Kj s ⟨b7,[]⟩ (λ t => .row s t b7 0 0))
 | .pick c a b=>match ρ c with
  | .bool true=>some (.val (ρ a))
  | .bool false=>some (.val (ρ b))
  | _=>none
 | .bin op x y=>match ρ x,ρ y with
  | .int k a,.int k' b=>(J0 op k a k' b).map .val
  | _,_=>none
 | .beq ne x y=>match ρ x,ρ y with
  | .bool a,.bool b=>some (.val (.bool (if ne then !(a == b) else a == b)))
  | _,_=>none
 | .un op x=>(sT op (ρ x)).map .val
 | .conv k x=>match ρ x with
  | .int _ n=>some (.val (.int k (k.wrap n)))
  | _=>none
 | .box s x=>match cellsOf (ρ x) with
  | some cs=>some (.new s ⟨cs.length,[cs]⟩ (λ t => .ptr s t 0 0))
  | none=>none
 | .alloc s zero=>some (.new s ⟨zero.length,[zero]⟩ (λ t => .ptr s t 0 0))
 | .build zero parts=>(fill zero (parts.map λ p=>(p.1,p.2.1,ρ p.2.2))).map (λ cs => .val (.agg cs))
 | .a9 s b7 parts=>match parts.mapM (λ x=>cellsOf (ρ x)) with
  | some es=>if ∀ e∈es,e.length=b7 then some (.new s ⟨b7,es⟩ (λ t => .row s t b7 0 es.length)) else none
  | none=>none
 | .m4 x off=>match ρ x with
  | .ptr s t i j=>some (.val (.ptr s t i (j+off)))
  | .db cs=>some (.val (.db (cs.drop off)))
  | _=>none
 | .ye x off n agg=>match ρ x with
  | .agg cs=>match part cs off n with
   | some ds=>(cP agg ds).map .val
   | none=>none
  | _=>none
 | .ch arr b7 x i=>match ρ i with
  | .int _ n=>match arr,ρ x with
   | some len,.ptr s t i' j=>if 0<=n/\n<len then some (.val (.ptr s t i' (j+n.toNat*b7))) else none
   | some len,.db cs=>if 0<=n/\n<len then some (.val (.db (cs.drop (n.toNat*b7)))) else none
   | none,.row s t z off len=>if 0<=n/\n<len/\z=b7 then some (.val (.ptr s t (off+n.toNat) 0)) else none
   | none,.sl _ es=>if 0<=n then match es[n.toNat]? with
     | some cs=>if cs.length=b7 then some (.val (.db cs)) else none
     | none=>none
    else none
   | _,_=>none
  | _=>none
 | .ld agg n x=>match ρ x with
  | .ptr s t i j=>match (own.w6 c4).Ao s t i j n with
   | some cs=>(cP agg cs).map .val
   | none=>none
  | .db cs=>match part cs 0 n with
   | some ds=>(cP agg ds).map .val
   | none=>none
  | _=>none
 | .st n x v=>match ρ x,cellsOf (ρ v) with
  | .ptr s t i j,some vs=>if vs.length=n then (own.yc s t i j vs).map (H5.mn (.j5 [])) else none
  | _,_=>none
 | .mk s b7 bytes zero l c=>match ρ l,ρ c with
  | .int _ a,.int _ b=>if 0<=a/\a<=b/\b*bytes<=NR/\b<=9223372036854775807/\zero.length=b7 then some (.new s ⟨b7,List.replicate a.toNat zero⟩ (λ t => .row s t b7 0 a.toNat)) else none
  | _,_=>none
 | .kv b7 x lo hi=>match ρ x with
  | .sl l es =>
   let h:Option Nat:=match hi with|none=>some es.length|some o=>match ρ o with | .int _ n=>if 0<=n/\n<=es.length then some n.toNat else none|_=>none
   let a:Option Nat:=match lo with|none=>some 0|some o=>match ρ o with | .int _ n=>if 0<=n then some n.toNat else none|_=>none
   match a,h with
   | some a,some h=>if a<=h /\ ∀ e∈es,e.length=b7 then some (.val (.sl l ((es.take h).drop a))) else none
   | _,_=>none
  | .nil =>
   let h:Option Nat:=match hi with|none=>some 0|some o=>match ρ o with | .int _ n=>if n=0 then some 0 else none|_=>none
   let a:Option Nat:=match lo with|none=>some 0|some o=>match ρ o with | .int _ n=>if n=0 then some 0 else none|_=>none
   match a,h with
   | some _,some _=>some (.val .nil)
   | _,_=>none
  | .row s t z off len =>
   let h:Option Nat:=match hi with|none=>some len|some o=>match ρ o with | .int _ n=>if 0<=n/\n<=len then some n.toNat else none|_=>none
   let a:Option Nat:=match lo with|none=>some 0|some o=>match ρ o with | .int _ n=>if 0<=n then some n.toNat else none|_=>none
   match a,h with
   | some a,some h=>if a<=h/\z=b7 then some (.val (.row s t z (off+a) (h-a))) else none
   | _,_=>none
  | _=>none
 | .ext x i=>match ρ x with
  | .j5 vs=>(vs[i]?).map .val
  | _=>none
 | .len x=>match qF (ρ x) with
  | some n=>some (.val (.int .i64 (n:Int)))
  | none=>none
 | .mm max xs=>match xs.map ρ with
  | []=>none
  | v::r=>(cN max v r).map .val
 | .app s b7 bytes x y=>match MV own (ρ y) with
  | some ys=>if ∀ e∈ys,e.length=b7 then match ρ x with
    | .row s' t z 0 len=>match own.get s' t with
     | some b=>if b.b7=b7/\z=b7/\len<=b.es.length/\(len+ys.length)*bytes<=NR/\len+ys.length<=9223372036854775807 then
       some (.mn (.row s' (own.k9 s') b7 0 (len+ys.length)) (own.put s' (((own s').cr t none).new ⟨b7,b.es.take len++ys⟩)))
      else none
     | none=>none
    | .nil=>if ys.length*bytes<=NR/\ys.length<=9223372036854775807 then
       some (.mn (.row s (own.k9 s) b7 0 ys.length) (own.put s ((own s).new ⟨b7,ys⟩))) else none
    | _=>none
   else none
  | none=>none
 | .call f xs=>match (xs.map ρ).mapM (JD (own.w6 c4) true) with
  | some vs=>(C.pure f vs).map .val
  | none=>none
 | .j6 f xs=>(C.pt f (xs.map ρ) own).map (λ r => .mn r.1 r.2)
 | .Cq ne x=>match ρ x with
  | .nil=>some (.val (.bool (xor true ne)))
  | .gx (.bool b)=>some (.val (.bool (xor b ne)))
  | .sl _ (_::_)=>some (.val (.bool (xor false ne)))
  | .row _ _ _ _ (_+1)=>some (.val (.bool (xor false ne)))
  | _=>none
 | .bad=>none
 | .iy s f xs=>(AbA C f (xs.map ρ) s (own s)).map λ p => .Hl s p.2 p.1
 | .nw tb x=>match ρ x with
  | .int _ n=>if 0<=n then (match tb[n.toNat]? with
   | some v=>some (.val (.int .u8 v))
   | none=>none) else none
  | _=>none
 | .zh p f xs=>(xs.mapM (λ x=>QL (ρ x))).map (λ cs => .val (.fn (p&&cs.isEmpty) f (C.num f) cs))
 | .v7 f xs=>if (xs.map ρ).all dq=true then (match C.pure f ((xs.map ρ).map Hk) with
   | some r=>if YD r\/sW r then some (.val (fE r)) else none
   | none=>none) else none
 | .zi s n x v=>match ρ x,cellsOf (ρ v) with
  | .ptr s' t i j,some vs=>if s'=s/\vs.length=n then (own.yc s t i j vs).map (λ o'=>H5.cr s (o' s)) else none
  | _,_=>none
 | .ay s f xs=>match (xs.map ρ).mapM (oT (own.w6 c4) true) with
  | some vs=>(nP (C.pt f vs C2.emp)).map (λ r => .new s ⟨r.1,r.2⟩ (λ t => .row s t r.1 0 r.2.length))
  | none=>none
 | .w5 x xs=>match ρ x with
  | .fn p f g cs=>if g=C.num f then (match p,cs with
   | true,[]=>(match (xs.map ρ).mapM (JD own true) with
    | some vs=>(C.pure f vs).map .val
    | none=>none)
   | false,cs=>(C.pt f (xs.map ρ++cs) own).map (λ r => .mn r.1 r.2)
   | true,c::cs=>(match (AV.agg (c::cs)::xs.map ρ).mapM (JD own true) with
    | some vs=>(C.pure f vs).map .val
    | none=>none)) else none
  | _=>none
def St.dst (st:St) (d:Option Nat) (v:AV):St :=
 match d with
 | some d=>{ st with tm:=rn st.tm d v }
 | none=>st
def St.app (st:St) (d:Option Nat):H5->St
 | .val v=>st.dst d v
 | .new s b v=>{ (st.dst d (v (st.own.k9 s))) with own:=st.own.put s ((st.own s).new b) }
 | .Kj s b v=>{ (st.dst d (v (st.own.k9 s))) with own:=st.own.put s ((st.own s).new b) }
 | .mn v o=>{ (st.dst d v) with own:=o }
 | .cr s x=>{ (st.dst d (.j5 [])) with own:=st.own.put s x }
 | .Hl s x v=>{ (st.dst d v) with own:=st.own.put s x }
def OL (st:St):Option (Nat × Bool)->Option Bool
 | none=>some true
 | some (g,want)=>match k7 st.tm g with
  | .bool b=>some (b == want)
  | .j5 []=>some false
  | _=>none
noncomputable def JE (C:Cl) (o:AI) (st:St):Option St :=
 match OL st o.guard with
 | some true=>(k6 C o.c4 st.ev st.own o.op).map (st.app o.dst)
 | some false=>some (st.dst o.dst (.j5 []))
 | none=>none
noncomputable def JZ (C:Cl):List AI->St->Option St
 | [],st=>some st
 | o::r,st=>match JE C o st with
  | some n0=>JZ C r n0
  | none=>none
def MQ:K8->Option Nat
 | .gj s _=>some s
 | .box s _=>some s
 | .alloc s _=>some s
 | .a9 s _ _=>some s
 | .mk s _ _ _ _ _=>some s
 | .zi s _ _ _=>some s
 | .ay s _ _=>some s
 | .iy s _ _=>some s
 | _=>none
inductive It where
 | code (c:FX)
 | yd (ts ss:List Nat)
 | k8 (id:Nat)
 | lp (c:FX)
def OH (id:Nat):List It->Option (List It)
 | .k8 id'::k=>if id'=id then some k else OH id k
 | _::k=>OH id k
 | []=>none
def C2.drop (o:C2):List Nat->C2
 | []=>o
 | s::r=>(o.drop r).put s ⟨(o s).k9,λ_=>none⟩
noncomputable def run (C:Cl):Nat->List It->St->Option St
 | 0,_,_=>none
 | _+1,[],st=>some st
 | n+1,.k8 _::k,st=>run C n k st
 | n+1,.yd ts ss::k,st=>run C n k ⟨gd st.tm ts,st.own.drop ss⟩
 | n+1,.lp c::k,st=>run C n (.code c :: .lp c::k) st
 | n+1,.code c::k,st=>match c with
  | .skip=>run C n k st
  | .ops l _=>match JZ C l st with
   | some n0=>run C n k n0
   | none=>none
  | .dr c ts ss=>run C n (.code c :: .yd ts ss::k) st
  | .scope c=>run C n (.code c::k) st
  | .seq a b=>run C n (.code a :: .code b::k) st
  | .cond c a b=>match st.ev c with
   | .bool true=>run C n (.code a::k) st
   | .bool false=>run C n (.code b::k) st
   | _=>none
  | .block id c=>run C n (.code c :: .k8 id::k) st
  | .loop c=>run C n (.code c :: .lp c::k) st
  | .exit id=>match OH id k with
   | some k'=>run C n k' st
   | none=>none
  | .ret=>some st
def IQ (i:Nat):List AV->Tm
 | []=>[]
 | v::r=>(i,v)::IQ (i+1) r
def ZH:AV->Option AV
 | .any=>none
 | .j5 _=>none
 | v=>some v
def NQ (st:St):aG->Option AV
 | .tmp t=>ZH (k7 st.tm t)
 | .cell t agg n=>match k7 st.tm t with
  | .ptr s u i j=>match st.own.Ao s u i j n with
   | some cs=>cP agg cs
   | none=>none
  | _=>none
def X3:List AV->AV
 | [v]=>v
 | vs => .j5 vs
structure Lib where
 fn:Nat->Option AFn
 num:Nat->Nat
instance : CoeFun Lib (λ_ => Nat -> Option AFn) := ⟨Lib.fn⟩
open Classical in
noncomputable def Y4 (I:List AV->Option (AV × C2)) (vs:List AV):Option AV :=
 match I vs with
 | some (r,o)=>match sL o false r with
  | some r'=>if EA r' then some r' else none
  | none=>none
 | none=>none
def Lib.Aq (L:Lib) (f:Nat):Bool:=match L f with
 | some fn=>fn.Aq
 | none=>false
open Classical in
noncomputable def cU (b:Bool) (I:List AV->Option (AV × C2)) (vs:List AV):Option AV:=match b,vs with
 | true,.sl _ []::vs=>match Y4 I (.gx (.bool true)::vs),Y4 I (.gx (.bool false)::vs) with
  | some r,some r'=>if r=r' then some r else none
  | _,_=>none
 | _,vs=>Y4 I vs
noncomputable def KP (L:Lib):Nat->Nat->List AV->C2->Option (AV × C2)
 | 0,_,_,_=>none
 | n+1,f,args,own=>match L f with
  | none=>none
  | some fn=>if args.length=fn.gp then
    match run ⟨λ f vs=>cU (L.Aq f) (λ vs=>KP L n f vs C2.emp) vs,KP L n,L.num⟩ n [.code fn.body] ⟨IQ 0 args,own⟩ with
    | some st=>match fn.res.mapM (NQ st) with
     | some vs=>some (X3 vs,st.own)
     | none=>none
    | none=>none
   else none
noncomputable def V3 (L:Lib) (n f:Nat) (vs:List AV):Option AV:=cU (L.Aq f) (λ vs=>KP L n f vs C2.emp) vs
noncomputable def JP (L:Lib) (n:Nat):Cl:=⟨V3 L n,KP L n,L.num⟩
theorem Ue (L:Lib) (n f:Nat) (args:List AV) (own:C2):KP L (n+1) f args own =
  match L f with
  | none=>none
  | some fn=>if args.length=fn.gp then
    match run (JP L n) n [.code fn.body] ⟨IQ 0 args,own⟩ with
    | some st=>match fn.res.mapM (NQ st) with
     | some vs=>some (X3 vs,st.own)
     | none=>none
    | none=>none
   else none:=rfl
namespace C
abbrev o (d:Nat) (op:K8):AI:=⟨some d,op,none,[]⟩
abbrev n (op:K8):AI:=⟨none,op,none,[]⟩
abbrev g (d i:Nat) (b:Bool) (op:K8):AI:=⟨some d,op,some (i,b),[]⟩
abbrev m (d s:Nat):AI:=⟨some d,.y7 (.t s),none,[]⟩
abbrev k (v:Int):C4 := .c (.int .i64 v)
abbrev z:AV := .int .i64 0
abbrev q (d:Nat) (c4:List Nat) (op:K8):AI:=⟨some d,op,none,c4⟩
abbrev u (c4:List Nat) (op:K8):AI:=⟨none,op,none,c4⟩
abbrev v (d i:Nat) (b:Bool) (c4:List Nat) (op:K8):AI:=⟨some d,op,some (i,b),c4⟩
abbrev p (l:List AI):FX := .ops l false
abbrev P (l:List AI):FX := .ops l true
abbrev d (l:List AI) (ts:List Nat):FX := .dr (.ops l false) ts []
abbrev e (l:List AI) (ts:List Nat):FX := .dr (.ops l true) ts []
abbrev s (a b:FX):FX := .seq a b
abbrev i (c:C4) (a b:FX):FX := .cond c a b
abbrev b (id:Nat) (c:FX):FX := .block id c
abbrev w (c:FX):FX := .loop c
abbrev x (id:Nat):FX := .exit id
instance (i : Nat) : OfNat C4 i := ⟨.t i⟩
abbrev mv (d:Nat) (x:C4):AI:=⟨some d,.y7 x,none,[]⟩
abbrev tt (d n:Nat) (x:C4):AI:=⟨some d,.ld true n x,none,[]⟩
abbrev uu (d n:Nat) (x:C4):AI:=⟨some d,.ld false n x,none,[]⟩
abbrev ca (d f:Nat) (l:List C4):AI:=⟨some d,.call f l,none,[]⟩
abbrev fa (d:Nat) (x:C4) (a:Nat):AI:=⟨some d,.m4 x a,none,[]⟩
abbrev ia (d z:Nat) (x y:C4):AI:=⟨some d,.ch none z x y,none,[]⟩
abbrev bi (d:Nat) (f:BinOp) (x y:C4):AI:=⟨some d,.bin f x y,none,[]⟩
abbrev ad (d:Nat) (x y:C4):AI:=⟨some d,.bin .add x y,none,[]⟩
abbrev sb (d:Nat) (x y:C4):AI:=⟨some d,.bin .sub x y,none,[]⟩
abbrev ls (d:Nat) (x y:C4):AI:=⟨some d,.bin .lss x y,none,[]⟩
abbrev al (d:Nat) (l:List AV):AI:=⟨some d,.alloc d l,none,[]⟩
abbrev ln (d:Nat) (x:C4):AI:=⟨some d,.len x,none,[]⟩
abbrev et (d:Nat) (x:C4) (a:Nat):AI:=⟨some d,.ext x a,none,[]⟩
abbrev bx (d:Nat) (x:C4):AI:=⟨some d,.box d x,none,[]⟩
abbrev pk (d:Nat) (x y w:C4):AI:=⟨some d,.pick x y w,none,[]⟩
abbrev nt (d:Nat) (x:C4):AI:=⟨some d,.un .not x,none,[]⟩
abbrev cu (d:Nat) (x:C4):AI:=⟨some d,.conv .u64 x,none,[]⟩
abbrev so (n:Nat) (x y:C4):AI:=⟨none,.st n x y,none,[]⟩
abbrev kf:C4 := .c (.bool false)
abbrev kt:C4 := .c (.bool true)
abbrev k0:C4 := .c (.int .i64 0)
abbrev k1:C4 := .c (.int .i64 1)
abbrev z3:List AV:=[.bool false,.nil,.nil]
abbrev z6:List AV:=[.nil,.nil,.nil,.bool false,.nil,.nil]
abbrev ra (a n:Nat):List Nat:=List.range' a n
abbrev rl (l:List Nat) (a n:Nat):List Nat:=l++List.range' a n
end C
end Go.c9
namespace Go.c9.F
open C
namespace dH
def r0:=[mv 2 kf]
def r1:=[m 3 0,m 4 0,bi 5 .neq 3 4,m 2 5]
def c:=(s (d r0 [2]) (s (d r1 [0,3,4,5]) .ret))
end dH
def dH:AFn:=⟨1,dH.c,[.tmp 2],false⟩
namespace dI
def r0:=[mv 2 kf]
def r1:=[m 3 0,m 4 0,bi 5 .neq 3 4,m 2 5]
def c:=(s (d r0 [2]) (s (d r1 [0,3,4,5]) .ret))
end dI
def dI:AFn:=⟨1,dI.c,[.tmp 2],false⟩
namespace dF
def r0:=[mv 4 k0]
def r1:=[m 7 0,ca 8 58 [7],m 5 8]
def r2:=[m 9 1,ca 10 58 [9],m 6 10]
def r3:=[m 11 5]
def r4:=[m 12 6]
def r5:=[mv 4 k0]
def r6:=[mv 4 (k (-1))]
def r7:=[m 13 6]
def r8:=[mv 4 k1]
def r9:=[m 14 0,m 15 1,ls 16 14 15]
def F2:=[mv 4 (k (-1))]
def GC:=[m 17 0,m 18 1,bi 19 .gtr 17 18]
def aj:=[mv 4 k1]
def HC:=[mv 4 k0]
def c:=(s (d r0 [4]) (s (d r1 [7,8]) (s (d r2 [9,10]) (s (s (d r3 [5]) (i 11 (s (s (d r4 [0,1,6,11]) (i 12 (s (d r5 [12]) .ret) .skip)) (s (d r6 [12]) .ret)) .skip)) (s (s (d r7 [6,11]) (i 13 (s (d r8 [0,1,13]) .ret) .skip)) (s (s (d r9 [13,14,15]) (i 16 (s (d F2 [0,1,16]) .ret) .skip)) (s (s (d GC [0,1,16,17,18]) (i 19 (s (d aj [19]) .ret) .skip)) (s (d HC [19]) .ret))))))))
end dF
def dF:AFn:=⟨2,dF.c,[.tmp 4],false⟩
namespace dG
def r0:=[mv 4 k0]
def r1:=[m 7 0,ca 8 59 [7],m 5 8]
def r2:=[m 9 1,ca 10 59 [9],m 6 10]
def r3:=[m 11 5]
def r4:=[m 12 6]
def r5:=[mv 4 k0]
def r6:=[mv 4 (k (-1))]
def r7:=[m 13 6]
def r8:=[mv 4 k1]
def r9:=[m 14 0,m 15 1,ls 16 14 15]
def F2:=[mv 4 (k (-1))]
def GC:=[m 17 0,m 18 1,bi 19 .gtr 17 18]
def aj:=[mv 4 k1]
def HC:=[mv 4 k0]
def c:=(s (d r0 [4]) (s (d r1 [7,8]) (s (d r2 [9,10]) (s (s (d r3 [5]) (i 11 (s (s (d r4 [0,1,6,11]) (i 12 (s (d r5 [12]) .ret) .skip)) (s (d r6 [12]) .ret)) .skip)) (s (s (d r7 [6,11]) (i 13 (s (d r8 [0,1,13]) .ret) .skip)) (s (s (d r9 [13,14,15]) (i 16 (s (d F2 [0,1,16]) .ret) .skip)) (s (s (d GC [0,1,16,17,18]) (i 19 (s (d aj [19]) .ret) .skip)) (s (d HC [19]) .ret))))))))
end dG
def dG:AFn:=⟨2,dG.c,[.tmp 4],false⟩
namespace XD
def r0:=[mv 2 (.c .nil)]
def r1:=[m 3 0,o 4 (.Cq false 3)]
def r2:=[mv 2 (.c .nil)]
def r3:=[o 5 (.a9 5 1 []),m 6 0,o 7 (.app 7 1 4 5 6),m 2 7]
def c:=(s (d r0 [2]) (s (s (d r1 [3]) (i 4 (s (d r2 [0,4]) .ret) .skip)) (s (d r3 [0,4,5,6,7]) .ret)))
end XD
def XD:AFn:=⟨1,XD.c,[.tmp 2],true⟩
namespace fJ
def r0:=[mv 2 k0]
def r1:=[m 3 0,bi 4 .geq 3 (.c (.int .u32 (65536)))]
def r2:=[m 5 0,bi 6 .shr 5 (.c (.int .u64 (16))),m 0 6]
def r3:=[mv 2 (k 16)]
def r4:=[m 7 0,bi 8 .geq 7 (.c (.int .u32 (256)))]
def r5:=[m 9 0,bi 10 .shr 9 (.c (.int .u64 (8))),m 0 10]
def r6:=[m 11 2,ad 12 11 (k 8),m 2 12]
def r7:=[m 13 2,m 14 0,o 15 (.conv .u8 14),
 o 16 (.nw (List.replicate 1 0++List.replicate 1 1++List.replicate 2 2++List.replicate 4 3++List.replicate 8 4++List.replicate 16 5++List.replicate 32 6++List.replicate 64 7++List.replicate 128 8) 15),
 o 17 (.conv .i64 16),ad 18 13 17,m 2 18]
def c:=(s (p r0) (s (s (d r1 [3]) (i 4 (s (d r2 [2,4,5,6]) (p r3)) .skip)) (s (s (d r4 [4,7]) (i 8 (s (d r5 [8,9,10]) (d r6 [11,12])) .skip)) (s (d r7 (rl [0,8] 13 6)) .ret))))
end fJ
def fJ:AFn:=⟨1,fJ.c,[.tmp 2],false⟩
namespace fH
def r0:=[mv 2 k0]
def r1:=[m 3 0,ca 4 63 [3],sb 5 (k 32) 4,m 2 5]
def c:=(s (d r0 [2]) (s (d r1 [0,3,4,5]) .ret))
end fH
def fH:AFn:=⟨1,fH.c,[.tmp 2],false⟩
namespace OZ
def r0:=[mv 2 (.c .nil)]
def r1:=[m 4 0,ln 5 4,m 3 5]
def r2:=[m 6 3,bi 7 .gtr 6 k0,m 8 7,g 9 8 true (.y7 0),g 10 8 true (.y7 3),g 11 8 true (.bin .sub 10 k1),g 12 8 true (.ch none 1 9 11),
 g 13 8 true (.ld false 1 12),g 14 8 true (.bin .eql 13 (.c (.int .u32 (0)))),pk 15 8 14 kf]
def r3:=[m 16 3,sb 17 16 k1,m 3 17]
def r4:=[m 18 0,m 19 3,o 20 (.kv 1 18 none (some 19)),m 2 20]
def l1:=(s (s (d r2 (ra 6 9)) (i 15 .skip (x 0))) (b 1 (d r3 [15,16,17])))
def c:=(s (d r0 [2]) (s (d r1 [4,5]) (s (b 0 (w l1)) (s (d r4 [0,3,15,18,19,20]) .ret))))
end OZ
def OZ:AFn:=⟨1,OZ.c,[.tmp 2],false⟩
namespace fW
def r0:=[mv 2 (.c .nil)]
def r1:=[m 3 0,o 4 (.j6 65 [3]),ca 5 62 [4],m 2 5]
def c:=(s (d r0 [2]) (s (d r1 [0,3,4,5]) .ret))
end fW
def fW:AFn:=⟨1,fW.c,[.tmp 2],false⟩
namespace fP
def r0:=[mv 4 k0]
def r1:=[m 8 0,o 9 (.j6 65 [8]),m 10 1,o 11 (.j6 65 [10]),m 5 9,m 6 11]
def r2:=[m 12 5,ln 13 12,m 14 6,ln 15 14,bi 16 .neq 13 15]
def r3:=[m 17 5,ln 18 17,m 19 6,ln 20 19,ca 21 60 [18,20],m 4 21]
def r4:=[m 22 5,ln 23 22,sb 24 23 k1,m 7 24]
def r5:=[m 25 7,bi 26 .geq 25 k0]
def r7:=[m 29 5,m 30 7,ia 31 1 29 30,uu 32 1 31,m 33 6,m 34 7,ia 35 1 33 34,uu 36 1 35,bi 37 .neq 32 36]
def r8:=[m 38 5,m 39 7,ia 40 1 38 39,uu 41 1 40,m 42 6,m 43 7,ia 44 1 42 43,uu 45 1 44,ca 46 61 [41,45],
 m 4 46]
def r6:=[m 27 7,sb 28 27 k1,m 7 28]
def r9:=[mv 4 k0]
def l1:=(s (s (d r5 [25]) (i 26 .skip (x 0))) (s (b 1 (s (e r7 (rl [26] 29 8)) (i 37 (s (e r8 (rl [5,6,7] 37 10)) .ret) .skip))) (d r6 [27,28,37])))
def c:=(s (d r0 [4]) (s (d r1 (rl [0,1] 8 4)) (s (s (d r2 (ra 12 4)) (i 16 (s (d r3 (rl [5,6] 16 6)) .ret) .skip)) (s (s (d r4 [16,22,23,24]) (b 0 (w l1))) (s (d r9 [5,6,7,26]) .ret)))))
end fP
def fP:AFn:=⟨2,fP.c,[.tmp 4],false⟩
namespace fO
def r0:=[mv 4 (.c .nil)]
def r1:=[m 12 0,o 13 (.j6 65 [12]),m 14 1,o 15 (.j6 65 [14]),m 5 13,m 6 15]
def r2:=[m 16 5,ln 17 16,m 18 6,ln 19 18,ls 20 17 19]
def r3:=[m 21 6,m 22 5,m 5 21,m 6 22]
def r4:=[m 23 5,ln 24 23,ad 25 24 k1,o 26 (.mk 26 1 4 [(.int .u32 (0))] 25 25),m 7 26]
def r5:=[mv 8 (.c (.int .u64 (0)))]
def r6:=[m 27 5,ln 28 27,mv 29 k0]
def r7:=[ls 30 29 28]
def r8:=[m 31 29,ia 32 1 27 29,uu 33 1 32,m 9 31,m 10 33]
def r9:=[m 34 10,cu 35 34,m 36 8,ad 37 35 36,m 11 37]
def F2:=[m 38 9,m 39 6,ln 40 39,ls 41 38 40]
def GC:=[m 42 11,m 43 6,m 44 9,ia 45 1 43 44,uu 46 1 45,cu 47 46,ad 48 42 47,m 11 48]
def aj:=[m 49 7,m 50 9,m 51 11,o 52 (.conv .u32 51),ia 53 1 49 50,so 1 53 52]
def HC:=[m 54 11,bi 55 .shr 54 (.c (.int .u64 (32))),m 8 55]
def dp:=[ad 56 29 k1,m 29 56]
def dz:=[m 57 7,m 58 5,ln 59 58,m 60 8,o 61 (.conv .u32 60),ia 62 1 57 59,so 1 62 61]
def fm:=[m 63 7,o 64 (.j6 65 [63]),m 4 64]
def l1:=(s (p r7) (s (i 30 .skip (x 0)) (s (b 1 (s (d r8 (ra 30 4)) (s (d r9 (rl [8,10] 34 4)) (s (s (d F2 [38,39,40]) (i 41 (d GC (ra 41 8)) .skip)) (s (d aj (rl [9,41] 49 5)) (d HC [11,54,55])))))) (d dp [56]))))
def c:=(s (d r0 [4]) (s (d r1 (rl [0,1] 12 4)) (s (s (d r2 (ra 16 4)) (i 20 (d r3 [20,21,22]) .skip)) (s (d r4 (rl [20] 23 4)) (s (p r5) (s (s (p r6) (b 0 (w l1))) (s (d dz (rl [5,6,8,27,28,29,30] 57 6)) (s (d fm [7,63,64]) .ret))))))))
end fO
def fO:AFn:=⟨2,fO.c,[.tmp 4],false⟩
namespace fU
def r0:=[mv 4 (.c .nil)]
def r1:=[m 12 0,m 13 1,ca 14 67 [12,13],bi 15 .leq 14 k0]
def r2:=[mv 4 (.c .nil)]
def r3:=[m 16 0,o 17 (.j6 65 [16]),m 18 1,o 19 (.j6 65 [18]),m 5 17,m 6 19]
def r4:=[m 20 5,ln 21 20,o 22 (.mk 22 1 4 [(.int .u32 (0))] 21 21),m 7 22]
def r5:=[mv 8 (.c (.int .u64 (0)))]
def r6:=[m 23 5,ln 24 23,mv 25 k0]
def r7:=[ls 26 25 24]
def r8:=[m 27 25,ia 28 1 23 25,uu 29 1 28,m 9 27,m 10 29]
def r9:=[m 30 10,cu 31 30,m 32 8,sb 33 31 32,m 11 33]
def F2:=[m 34 9,m 35 6,ln 36 35,ls 37 34 36]
def GC:=[m 38 11,m 39 6,m 40 9,ia 41 1 39 40,uu 42 1 41,cu 43 42,sb 44 38 43,m 11 44]
def aj:=[m 45 7,m 46 9,m 47 11,o 48 (.conv .u32 47),ia 49 1 45 46,so 1 49 48]
def HC:=[m 50 11,bi 51 .shr 50 (.c (.int .u64 (63))),m 8 51]
def dp:=[ad 52 25 k1,m 25 52]
def dz:=[m 53 7,o 54 (.j6 65 [53]),m 4 54]
def l1:=(s (p r7) (s (i 26 .skip (x 0)) (s (b 1 (s (d r8 (ra 26 4)) (s (d r9 (rl [8,10] 30 4)) (s (s (d F2 [34,35,36]) (i 37 (d GC (ra 37 8)) .skip)) (s (d aj (rl [9,37] 45 5)) (d HC [11,50,51])))))) (d dp [52]))))
def c:=(s (d r0 [4]) (s (s (d r1 [12,13,14]) (i 15 (s (d r2 [0,1,15]) .ret) .skip)) (s (d r3 (rl [0,1] 15 5)) (s (d r4 [20,21,22]) (s (p r5) (s (s (d r6 [5]) (b 0 (w l1))) (s (d dz [6,7,8,23,24,25,26,53,54]) .ret)))))))
end fU
def fU:AFn:=⟨2,fU.c,[.tmp 4],false⟩
namespace fS
def r0:=[mv 4 (.c .nil)]
def r1:=[m 14 0,o 15 (.j6 65 [14]),m 16 1,o 17 (.j6 65 [16]),m 5 15,m 6 17]
def r2:=[m 18 5,ln 19 18,bi 20 .eql 19 k0,m 21 20,g 22 21 false (.y7 6),g 23 21 false (.len 22),g 24 21 false (.bin .eql 23 k0),
 pk 25 21 kt 24]
def r3:=[mv 4 (.c .nil)]
def r4:=[m 26 5,ln 27 26,m 28 6,ln 29 28,ad 30 27 29,o 31 (.mk 31 1 4 [(.int .u32 (0))] 30 30),m 7 31]
def r5:=[m 32 5,ln 33 32,mv 34 k0]
def r6:=[ls 35 34 33]
def r7:=[m 36 34,ia 37 1 32 34,uu 38 1 37,m 8 36,m 9 38]
def r8:=[m 39 9,bi 40 .eql 39 (.c (.int .u32 (0)))]
def r9:=[mv 10 (.c (.int .u64 (0)))]
def F2:=[m 41 6,ln 42 41,mv 43 k0]
def GC:=[ls 44 43 42]
def aj:=[m 45 43,ia 46 1 41 43,uu 47 1 46,m 11 45,m 12 47]
def HC:=[m 48 9,cu 49 48,m 50 12,cu 51 50,bi 52 .mul 49 51,m 53 7,m 54 8,m 55 11,ad 56 54 55,ia 57 1 53 56,
 uu 58 1 57,cu 59 58,ad 60 52 59,m 61 10,ad 62 60 61,m 13 62]
def dp:=[m 63 7,m 64 8,m 65 11,ad 66 64 65,m 67 13,o 68 (.conv .u32 67),ia 69 1 63 66,so 1 69 68]
def dz:=[m 70 13,bi 71 .shr 70 (.c (.int .u64 (32))),m 10 71]
def fm:=[ad 72 43 k1,m 43 72]
def JG:=[m 73 7,m 74 8,m 75 6,ln 76 75,ad 77 74 76,m 78 10,o 79 (.conv .u32 78),ia 80 1 73 77,so 1 80 79]
def ib:=[ad 81 34 k1,m 34 81]
def je:=[m 82 7,o 83 (.j6 65 [82]),m 4 83]
def l2:=(s (p GC) (s (i 44 .skip (x 2)) (s (b 3 (s (d aj (ra 44 4)) (s (d HC (rl [10,12] 48 15)) (s (d dp (rl [11] 63 7)) (d dz [13,70,71]))))) (d fm [72]))))
def l1:=(s (p r6) (s (i 35 .skip (x 0)) (s (b 1 (s (d r7 (ra 35 4)) (s (s (d r8 [39]) (i 40 (x 1) .skip)) (s (d r9 [40]) (s (s (p F2) (b 2 (w l2))) (d JG (rl [8,9,10,41,42,43,44] 73 8))))))) (d ib [8,9,40,81]))))
def c:=(s (d r0 [4]) (s (d r1 (rl [0,1] 14 4)) (s (s (d r2 (ra 18 7)) (i 25 (s (d r3 [5,6,25]) .ret) .skip)) (s (d r4 (ra 25 7)) (s (s (d r5 [5]) (b 0 (w l1))) (s (d je [6,7,32,33,34,35,82,83]) .ret))))))
end fS
def fS:AFn:=⟨2,fS.c,[.tmp 4],false⟩
namespace aR
def r0:=[mv 6 (.c .nil)]
def r1:=[m 11 2,o 12 (.mk 71012 1 4 [(.int .u32 (0))] 11 11),m 7 12]
def r2:=[mv 8 (.c (.int .u32 (0)))]
def r3:=[m 13 0,ln 14 13,mv 15 k0]
def r4:=[ls 16 15 14]
def r5:=[m 17 15,ia 18 1 13 15,uu 19 1 18,m 9 17,m 10 19]
def r6:=[m 20 7,m 21 9,m 22 10,m 23 1,bi 24 .shl 22 23,m 25 8,bi 26 .or 24 25,ia 27 1 20 21,so 1 27 26]
def r7:=[m 28 10,cu 29 28,m 30 1,bi 31 .shl 29 30,bi 32 .shr 31 (.c (.int .u64 (32))),o 33 (.conv .u32 32),m 8 33]
def r8:=[ad 34 15 k1,m 15 34]
def r9:=[m 35 2,m 36 0,ln 37 36,bi 38 .gtr 35 37]
def F2:=[m 39 7,m 40 0,ln 41 40,m 42 8,ia 43 1 39 41,so 1 43 42]
def GC:=[m 44 7,m 6 44]
def l1:=(s (p r4) (s (i 16 .skip (x 0)) (s (b 1 (s (d r5 (ra 16 4)) (s (d r6 (rl [8,9] 20 8)) (d r7 (rl [10] 28 6))))) (d r8 [34]))))
def c:=(s (d r0 [6]) (s (d r1 [11,12]) (s (p r2) (s (s (p r3) (b 0 (w l1))) (s (s (d r9 [1,2,13,14,15,16,35,36,37]) (i 38 (d F2 (rl [0,8] 38 6)) .skip)) (s (d GC [0,7,8,38,44]) .ret))))))
end aR
def aR:AFn:=⟨3,aR.c,[.tmp 6],false⟩
namespace gC
def r0:=[mv 4 (.c .nil)]
def r1:=[m 8 0,ln 9 8,o 10 (.mk 10 1 4 [(.int .u32 (0))] 9 9),m 5 10]
def r2:=[mv 6 (.c (.int .u32 (0)))]
def r3:=[m 11 0,ln 12 11,sb 13 12 k1,m 7 13]
def r4:=[m 14 7,bi 15 .geq 14 k0]
def r6:=[m 18 5,m 19 7,m 20 0,m 21 7,ia 22 1 20 21,uu 23 1 22,m 24 1,bi 25 .shr 23 24,m 26 6,bi 27 .or 25 26,
 ia 28 1 18 19,so 1 28 27]
def r7:=[m 29 0,m 30 7,ia 31 1 29 30,uu 32 1 31,cu 33 32,m 34 1,sb 35 (.c (.int .u64 (32))) 34,
 bi 36 .shl 33 35,o 37 (.conv .u32 36),m 6 37]
def r5:=[m 16 7,sb 17 16 k1,m 7 17]
def r8:=[m 38 5,m 4 38]
def l1:=(s (s (d r4 [14]) (i 15 .skip (x 0))) (s (b 1 (s (d r6 (rl [6,15] 18 11)) (d r7 (ra 29 9)))) (d r5 [16,17])))
def c:=(s (d r0 [4]) (s (d r1 [8,9,10]) (s (p r2) (s (s (d r3 [11,12,13]) (b 0 (w l1))) (s (d r8 [0,1,5,6,7,15,38]) .ret)))))
end gC
def gC:AFn:=⟨2,gC.c,[.tmp 4],false⟩
namespace PK
def r0:=[mv 4 (.c (.int .u32 (0)))]
def r1:=[m 19 1,ln 20 19,m 5 20]
def r2:=[m 21 0,m 22 5,ia 23 1 21 22,uu 24 1 23,cu 25 24,bi 26 .shl 25 (.c (.int .u64 (32))),m 27 0,m 28 5,
 sb 29 28 k1,ia 30 1 27 29,uu 31 1 30,cu 32 31,bi 33 .or 26 32,m 6 33]
def r3:=[m 34 6,m 35 1,m 36 5,sb 37 36 k1,ia 38 1 35 37,uu 39 1 38,cu 40 39,bi 41 .quo 34 40,m 42 6,
 m 43 1,m 44 5,sb 45 44 k1,ia 46 1 43 45,uu 47 1 46,cu 48 47,bi 49 .rem 42 48,m 7 41,m 8 49]
def r4:=[m 50 7,bi 51 .geq 50 (.c (.int .u64 (4294967296))),m 52 51,g 53 52 false (.y7 7),g 54 52 false (.y7 1),g 55 52 false (.y7 5),
 g 56 52 false (.bin .sub 55 (k 2)),g 57 52 false (.ch none 1 54 56),g 58 52 false (.ld false 1 57),g 59 52 false (.conv .u64 58),
 g 60 52 false (.bin .mul 53 59),g 61 52 false (.y7 8),g 62 52 false (.bin .shl 61 (.c (.int .u64 (32)))),g 63 52 false (.y7 0),g 64 52 false (.y7 5),
 g 65 52 false (.bin .sub 64 (k 2)),g 66 52 false (.ch none 1 63 65),g 67 52 false (.ld false 1 66),g 68 52 false (.conv .u64 67),
 g 69 52 false (.bin .or 62 68),g 70 52 false (.bin .gtr 60 69),pk 71 52 kt 70]
def r5:=[m 72 7,sb 73 72 (.c (.int .u64 (1))),m 7 73]
def r6:=[m 74 8,m 75 1,m 76 5,sb 77 76 k1,ia 78 1 75 77,uu 79 1 78,cu 80 79,ad 81 74 80,m 8 81]
def r7:=[m 82 8,bi 83 .geq 82 (.c (.int .u64 (4294967296)))]
def r8:=[mv 9 (.c (.int .u64 (0))),mv 10 (.c (.int .u64 (0)))]
def r9:=[m 84 1,ln 85 84,mv 86 k0]
def F2:=[ls 87 86 85]
def GC:=[m 88 86,ia 89 1 84 86,uu 90 1 89,m 11 88,m 12 90]
def aj:=[m 91 7,m 92 12,cu 93 92,bi 94 .mul 91 93,m 95 9,ad 96 94 95,m 13 96]
def HC:=[m 97 13,bi 98 .shr 97 (.c (.int .u64 (32))),m 9 98]
def dp:=[m 99 0,m 100 11,ia 101 1 99 100,uu 102 1 101,cu 103 102,m 104 13,o 105 (.conv .u32 104),cu 106 105,
 sb 107 103 106,m 108 10,sb 109 107 108,m 14 109]
def dz:=[m 110 0,m 111 11,m 112 14,o 113 (.conv .u32 112),ia 114 1 110 111,so 1 114 113]
def fm:=[m 115 14,bi 116 .shr 115 (.c (.int .u64 (63))),m 10 116]
def JG:=[ad 117 86 k1,m 86 117]
def ib:=[m 118 0,m 119 5,ia 120 1 118 119,uu 121 1 120,cu 122 121,m 123 9,sb 124 122 123,m 125 10,
 sb 126 124 125,m 15 126]
def je:=[m 127 0,m 128 5,m 129 15,o 130 (.conv .u32 129),ia 131 1 127 128,so 1 131 130]
def js:=[m 132 15,bi 133 .shr 132 (.c (.int .u64 (63))),bi 134 .eql 133 (.c (.int .u64 (0)))]
def ov:=[m 135 7,o 136 (.conv .u32 135),m 4 136]
def qm:=[mv 9 (.c (.int .u64 (0)))]
def sz:=[m 137 1,ln 138 137,mv 139 k0]
def W8:=[ls 140 139 138]
def aW:=[m 141 139,ia 142 1 137 139,uu 143 1 142,m 16 141,m 17 143]
def uR:=[m 144 0,m 145 16,ia 146 1 144 145,uu 147 1 146,cu 148 147,m 149 17,cu 150 149,ad 151 148 150,
 m 152 9,ad 153 151 152,m 18 153]
def r27:=[m 154 0,m 155 16,m 156 18,o 157 (.conv .u32 156),ia 158 1 154 155,so 1 158 157]
def r28:=[m 159 18,bi 160 .shr 159 (.c (.int .u64 (32))),m 9 160]
def r29:=[ad 161 139 k1,m 139 161]
def r30:=[m 162 0,m 163 5,ia 164 1 162 163,uu 165 1 164,m 166 9,o 167 (.conv .u32 166),ad 168 165 167,
 ia 169 1 162 163,so 1 169 168]
def r31:=[m 170 7,sb 171 170 (.c (.int .u64 (1))),o 172 (.conv .u32 171),m 4 172]
def l1:=(s (s (e r4 [50,51,52,53,54,55,56,57,58,59,60,61,62,63,64,65,66,67,68,69,70,83]) (i 71 .skip (x 0))) (b 1 (s (d r5 [71,72,73]) (s (d r6 (ra 74 8)) (s (d r7 [82]) (i 83 (x 0) .skip))))))
def l2:=(s (p F2) (s (i 87 .skip (x 2)) (s (b 3 (s (d GC (ra 87 4)) (s (d aj (rl [9,12] 91 6)) (s (d HC [97,98]) (s (d dp (rl [10,13] 99 11)) (s (d dz (rl [11] 110 5)) (d fm [14,115,116]))))))) (d JG [117]))))
def l3:=(s (p W8) (s (i 140 .skip (x 4)) (s (b 5 (s (d aW (ra 140 4)) (s (d uR (rl [9,17] 144 10)) (s (d r27 (rl [16] 154 5)) (d r28 [18,159,160]))))) (d r29 [161]))))
def c:=(s (d r0 [4]) (s (d r1 [19,20]) (s (e r2 (ra 21 13)) (s (e r3 (rl [6] 34 16)) (s (b 0 (w l1)) (s (d r8 [8,71,83]) (s (s (p r9) (b 2 (w l2))) (s (d ib (rl [9,10,84,85,86,87] 118 9)) (s (d je (ra 127 5)) (s (s (d js [15,132,133]) (i 134 (s (d ov [0,1,5,7,134,135,136]) .ret) .skip)) (s (d qm [134]) (s (s (d sz [1]) (b 4 (w l3))) (s (d r30 (rl [0,5,9,137,138,139,140] 162 8)) (s (d r31 [7,170,171,172]) .ret))))))))))))))
end PK
def PK:AFn:=⟨2,PK.c,[.tmp 4],false⟩
namespace fZ
def r0:=[mv 4 (.c .nil),mv 5 (.c .nil)]
def r1:=[m 15 0,m 16 1,ca 17 67 [15,16],ls 18 17 k0]
def r2:=[m 19 0,ca 20 62 [19],mv 4 (.c .nil),m 5 20]
def r3:=[m 21 1,ln 22 21,m 6 22]
def r4:=[m 23 0,ln 24 23,m 25 6,sb 26 24 25,ad 27 26 k1,o 28 (.mk 28 1 4 [(.int .u32 (0))] 27 27),m 7 28]
def r5:=[m 29 6,bi 30 .eql 29 k1]
def r6:=[mv 8 (.c (.int .u64 (0)))]
def r7:=[m 31 0,ln 32 31,sb 33 32 k1,m 9 33]
def r8:=[m 34 9,bi 35 .geq 34 k0]
def F2:=[m 38 8,bi 39 .shl 38 (.c (.int .u64 (32))),m 40 0,m 41 9,ia 42 1 40 41,uu 43 1 42,cu 44 43,
 bi 45 .or 39 44,m 10 45]
def GC:=[m 46 7,m 47 9,m 48 10,m 49 1,ia 50 1 49 k0,uu 51 1 50,cu 52 51,bi 53 .quo 48 52,o 54 (.conv .u32 53),
 ia 55 1 46 47,so 1 55 54]
def aj:=[m 56 10,m 57 1,ia 58 1 57 k0,uu 59 1 58,cu 60 59,bi 61 .rem 56 60,m 8 61]
def r9:=[m 36 9,sb 37 36 k1,m 9 37]
def HC:=[m 62 7,o 63 (.j6 65 [62]),m 64 8,o 65 (.conv .u32 64),o 66 (.a9 66 1 [65]),o 67 (.j6 65 [66]),m 4 63,m 5 67]
def dp:=[m 68 1,m 69 6,sb 70 69 k1,ia 71 1 68 70,uu 72 1 71,ca 73 64 [72],cu 74 73,m 11 74]
def dz:=[m 75 0,m 76 11,m 77 0,ln 78 77,ad 79 78 k1,o 80 (.j6 71 [75,76,79]),m 81 1,m 82 11,m 83 6,ca 84 71 [81,82,83],
 m 12 80,m 13 84]
def fm:=[m 85 0,ln 86 85,m 87 6,sb 88 86 87,m 14 88]
def JG:=[m 89 14,bi 90 .geq 89 k0]
def je:=[m 93 7,m 94 14,m 95 12,m 96 14,m 97 14,m 98 6,ad 99 97 98,ad 100 99 k1,o 101 (.kv 1 95 (some 96) (some 100)),m 102 13,
 o 103 (.j6 73 [101,102]),ia 104 1 93 94,so 1 104 103]
def ib:=[m 91 14,sb 92 91 k1,m 14 92]
def js:=[m 105 7,o 106 (.j6 65 [105]),m 107 12,m 108 6,o 109 (.kv 1 107 none (some 108)),m 110 11,ca 111 72 [109,110],o 112 (.j6 65 [111]),
 m 4 106,m 5 112]
def l1:=(s (s (d r8 [34]) (i 35 .skip (x 0))) (s (b 1 (s (d F2 (rl [8,35] 38 8)) (s (d GC (ra 46 10)) (d aj (rl [10] 56 6))))) (d r9 [36,37])))
def l2:=(s (s (d JG [89]) (i 90 .skip (x 2))) (s (b 3 (d je (rl [90] 93 12))) (d ib [91,92])))
def c:=(s (d r0 [4,5]) (s (s (d r1 [15,16,17]) (i 18 (s (d r2 [0,1,18,19,20]) .ret) .skip)) (s (d r3 [18,21,22]) (s (d r4 (ra 23 6)) (s (s (d r5 [29]) (i 30 (s (d r6 [6,30]) (s (s (d r7 [31,32,33]) (b 0 (w l1))) (s (d HC (rl [0,1,7,8,9,35] 62 6)) .ret))) .skip)) (s (d dp (rl [30] 68 7)) (s (d dz (rl [1] 75 10)) (s (s (d fm (rl [0] 85 4)) (b 2 (w l2))) (s (e js (rl [6,7,11,12,13,14,90] 105 8)) .ret)))))))))
end fZ
def fZ:AFn:=⟨2,fZ.c,[.tmp 4,.tmp 5],false⟩
namespace fR
def r0:=[mv 4 (.c .nil),mv 5 (.c .nil),mv 6 k0]
def r1:=[m 10 1,o 11 (.j6 65 [10]),m 7 11]
def r2:=[m 12 7,ln 13 12,bi 14 .eql 13 k0]
def r3:=[mv 4 (.c .nil),mv 5 (.c .nil),mv 6 (k 3)]
def r4:=[m 16 0,o 17 (.j6 65 [16]),m 18 7,ca 19 74 [17,18],m 15 19,et 20 15 0,et 21 15 1,m 8 20,m 9 21]
def r5:=[m 22 8,m 23 9,m 4 22,m 5 23,mv 6 k0]
def c:=(s (d r0 [4,5,6]) (s (d r1 [1,10,11]) (s (s (d r2 [12,13]) (i 14 (s (d r3 [0,7,14]) .ret) .skip)) (s (d r4 (rl [0,7] 14 8)) (s (d r5 [8,9,22,23]) .ret)))))
end fR
def fR:AFn:=⟨2,fR.c,[.tmp 4,.tmp 5,.tmp 6],false⟩
namespace gG
def r0:=[mv 2 (.c (.int .u64 (0)))]
def r1:=[mv 3 (.c (.int .u64 (0)))]
def r2:=[m 6 0,ln 7 6,mv 8 k0]
def r3:=[ls 9 8 7]
def r4:=[m 10 8,ia 11 1 6 8,uu 12 1 11,m 4 10,m 5 12]
def r5:=[m 13 3,m 14 5,cu 15 14,m 16 4,bi 17 .mul (k 32) 16,bi 18 .shl 15 17,bi 19 .or 13 18,m 3 19]
def r6:=[ad 20 8 k1,m 8 20]
def r7:=[m 21 3,m 2 21]
def l1:=(s (p r3) (s (i 9 .skip (x 0)) (s (b 1 (s (d r4 (ra 9 4)) (d r5 (rl [4,5] 13 7)))) (d r6 [20]))))
def c:=(s (d r0 [2]) (s (p r1) (s (s (d r2 [0]) (b 0 (w l1))) (s (d r7 [3,6,7,8,9,21]) .ret))))
end gG
def gG:AFn:=⟨1,gG.c,[.tmp 2],false⟩
namespace YW
def r0:=[mv 3 (.c (.int .u64 (0)))]
def r1:=[m 4 0,uu 5 1 1,ln 6 5,ls 7 4 6]
def r2:=[uu 8 1 1,m 9 0,ia 10 1 8 9,uu 11 1 10,cu 12 11,m 3 12]
def r3:=[mv 3 (.c (.int .u64 (0)))]
def c:=(s (d r0 [3]) (s (s (d r1 [4,5,6]) (i 7 (s (d r2 (rl [0,1] 7 6)) .ret) .skip)) (s (d r3 [0,1,7]) .ret)))
end YW
def YW:AFn:=⟨2,YW.c,[.tmp 3],false⟩
namespace gA
def r0:=[bx 3 0,mv 6 k0]
def r1:=[o 9 (.zh false 77 [3]),m 7 9]
def r2:=[m 10 7,m 11 1,sb 12 11 k1,o 13 (.w5 10 [12]),bi 14 .shl 13 (.c (.int .u64 (32))),m 15 7,m 16 1,sb 17 16 (k 2),
 o 18 (.w5 15 [17]),bi 19 .or 14 18,m 20 2,bi 21 .shl 19 20,m 8 21]
def r3:=[m 22 8,m 23 7,m 24 1,sb 25 24 (k 3),o 26 (.w5 23 [25]),m 27 2,bi 28 .shl 26 27,bi 29 .shr 28 (.c (.int .u64 (32))),
 bi 30 .or 22 29,m 8 30]
def r4:=[m 31 8,bi 32 .shr 31 (.c (.int .u64 (2))),o 33 (.conv .i64 32),m 6 33]
def c:=(s (d r0 [0,6]) (s (d r1 [3,9]) (s (d r2 (ra 10 12)) (s (d r3 (rl [1,2,7] 22 9)) (s (d r4 [8,31,32,33]) .ret)))))
end gA
def gA:AFn:=⟨3,gA.c,[.tmp 6],false⟩
namespace fX
def r0:=[mv 4 k0,mv 5 k0,mv 6 k0,mv 7 k0]
def r1:=[mv 4 k1,mv 7 k1]
def r2:=[m 11 1,m 12 6,ad 13 11 12,bi 14 .neq 13 k0,m 15 14,g 16 15 true (.y7 1),g 17 15 true (.y7 7),g 18 15 true (.bin .add 16 17),
 g 19 15 true (.bin .neq 18 k0),pk 20 15 19 kf]
def r3:=[m 21 0,m 22 4,ad 23 21 22,m 24 1,m 25 6,ad 26 24 25,bi 27 .quo 23 26,m 8 27]
def r4:=[m 28 8,m 29 0,m 30 5,ad 31 29 30,m 32 1,m 33 7,ad 34 32 33,bi 35 .quo 31 34,bi 36 .neq 28 35,m 37 36,
 g 38 37 false (.y7 8),g 39 37 false (.bin .gtr 38 (k 2147483647)),pk 40 37 kt 39]
def r5:=[m 41 4,m 42 8,m 43 6,bi 44 .mul 42 43,sb 45 41 44,m 46 5,m 47 8,m 48 7,bi 49 .mul 47 48,sb 50 46 49,m 9 45,m 10 50]
def r6:=[m 51 9,m 52 9,o 53 (.un .neg 52),m 54 10,m 55 10,o 56 (.un .neg 55),o 57 (.mm true [51,53,54,56]),bi 58 .gtr 57 (k 2147483647)]
def r7:=[m 59 6,m 60 7,m 61 9,m 62 10,m 4 59,m 5 60,m 6 61,m 7 62]
def r8:=[m 63 1,m 64 0,m 65 8,m 66 1,bi 67 .mul 65 66,sb 68 64 67,m 0 63,m 1 68]
def r9:=[m 69 4,m 70 5,m 71 6,m 72 7,m 4 69,m 5 70,m 6 71,m 7 72]
def l1:=(s (s (d r2 (ra 11 9)) (i 20 .skip (x 0))) (b 1 (s (d r3 (ra 20 8)) (s (s (d r4 (ra 28 12)) (i 40 (x 0) .skip)) (s (d r5 (ra 40 11)) (s (s (d r6 (ra 51 7)) (i 58 (x 0) .skip)) (s (d r7 (rl [9,10] 58 5)) (d r8 (rl [8] 63 6)))))))))
def c:=(s (d r0 [4,7]) (s (p r1) (s (b 0 (w l1)) (s (d r9 (rl [0,1,8,9,10,20,40,58] 69 4)) .ret))))
end fX
def fX:AFn:=⟨2,fX.c,[.tmp 4,.tmp 5,.tmp 6,.tmp 7],false⟩
namespace fY
def r0:=[mv 8 (.c .nil)]
def r1:=[m 14 0,ln 15 14,o 16 (.mk 16 1 4 [(.int .u32 (0))] 15 15),m 9 16]
def r2:=[mv 10 k0]
def r3:=[m 17 0,ln 18 17,mv 19 k0]
def r4:=[ls 20 19 18]
def r5:=[m 21 19,ia 22 1 17 19,uu 23 1 22,m 11 21,m 12 23]
def r6:=[m 24 2,m 25 12,o 26 (.conv .i64 25),bi 27 .mul 24 26,m 28 10,ad 29 27 28,m 13 29]
def r7:=[m 30 11,m 31 1,ln 32 31,ls 33 30 32]
def r8:=[m 34 13,m 35 3,m 36 1,m 37 11,ia 38 1 36 37,uu 39 1 38,o 40 (.conv .i64 39),bi 41 .mul 35 40,ad 42 34 41,
 m 13 42]
def r9:=[m 43 9,m 44 11,m 45 13,o 46 (.conv .u32 45),ia 47 1 43 44,so 1 47 46]
def F2:=[m 48 13,bi 49 .shr 48 (.c (.int .u64 (32))),m 10 49]
def GC:=[ad 50 19 k1,m 19 50]
def aj:=[m 51 9,o 52 (.j6 65 [51]),m 8 52]
def l1:=(s (p r4) (s (i 20 .skip (x 0)) (s (b 1 (s (d r5 (ra 20 4)) (s (d r6 (rl [10,12] 24 6)) (s (s (d r7 [30,31,32]) (i 33 (d r8 (ra 33 10)) .skip)) (s (d r9 (rl [11,33] 43 5)) (d F2 [13,48,49])))))) (d GC [50]))))
def c:=(s (d r0 [8]) (s (d r1 [14,15,16]) (s (p r2) (s (s (d r3 [0]) (b 0 (w l1))) (s (d aj [1,2,3,9,10,17,18,19,20,51,52]) .ret)))))
end fY
def fY:AFn:=⟨4,fY.c,[.tmp 8],false⟩
namespace gD
def r0:=[mv 4 (.c .nil),mv 5 (.c .nil)]
def r1:=[m 14 0,ln 15 14,m 6 15]
def r2:=[m 16 0,m 17 6,sb 18 17 k1,ia 19 1 16 18,uu 20 1 19,ca 21 64 [20],cu 22 21,m 7 22]
def r3:=[m 24 0,m 25 6,m 26 7,ca 27 78 [24,25,26],m 28 1,m 29 6,m 30 7,ca 31 78 [28,29,30],ca 32 79 [27,31],m 23 32,et 33 23 0,
 et 34 23 1,et 35 23 2,et 36 23 3,m 8 33,m 9 34,m 10 35,m 11 36]
def r4:=[m 37 9,bi 38 .eql 37 k0]
def r5:=[m 40 0,m 41 1,ca 42 74 [40,41],m 39 42,et 43 39 0,et 44 39 1,m 12 43,m 13 44]
def r6:=[m 45 1,m 46 13,m 4 45,m 5 46]
def r7:=[m 47 0,m 48 1,m 49 8,m 50 9,ca 51 80 [47,48,49,50],m 52 0,m 53 1,m 54 10,m 55 11,ca 56 80 [52,53,54,55],m 4 51,m 5 56]
def c:=(s (d r0 [4,5]) (s (d r1 [14,15]) (s (d r2 (ra 16 7)) (s (d r3 (rl [6,7] 23 14)) (s (s (d r4 [37]) (i 38 (s (d r5 (rl [0,8,9,10,11,12] 38 7)) (s (d r6 [1,13,45,46]) .ret)) .skip)) (s (d r7 (rl [0,1,8,9,10,11,38] 47 10)) .ret))))))
end gD
def gD:AFn:=⟨2,gD.c,[.tmp 4,.tmp 5],false⟩
namespace QE
def r0:=[mv 4 (.c .nil)]
def r1:=[m 11 0,ca 12 66 [11],m 13 1,ca 14 66 [13],m 5 12,m 6 14]
def r2:=[m 15 5,m 16 6,ca 17 67 [15,16],ls 18 17 k0]
def r3:=[m 19 6,m 20 5,m 5 19,m 6 20]
def r4:=[m 21 6,ln 22 21,bi 23 .gtr 22 (k 2)]
def r5:=[m 25 5,m 26 6,ca 27 81 [25,26],m 24 27,et 28 24 0,et 29 24 1,m 5 28,m 6 29]
def r6:=[m 30 6,ln 31 30,bi 32 .eql 31 k0]
def r7:=[m 33 5,m 4 33]
def r8:=[m 35 5,m 36 6,ca 37 74 [35,36],m 34 37,et 38 34 0,et 39 34 1,m 7 38,m 8 39]
def r9:=[m 40 6,ca 41 76 [40],m 42 8,ca 43 76 [42],m 9 41,m 10 43]
def F2:=[m 44 10,bi 45 .neq 44 (.c (.int .u64 (0)))]
def GC:=[m 46 10,m 47 9,m 48 10,bi 49 .rem 47 48,m 9 46,m 10 49]
def aj:=[m 50 9,o 51 (.conv .u32 50),m 52 9,bi 53 .shr 52 (.c (.int .u64 (32))),o 54 (.conv .u32 53),o 55 (.a9 55 1 [51,54]),o 56 (.j6 65 [55]),
 m 4 56]
def l1:=(s (s (d r4 [18,21,22]) (i 23 .skip (x 0))) (b 1 (d r5 (ra 23 7))))
def l2:=(s (s (d F2 [44]) (i 45 .skip (x 2))) (b 3 (e GC (ra 45 5))))
def c:=(s (d r0 [4]) (s (d r1 (rl [0,1] 11 4)) (s (s (d r2 [15,16,17]) (i 18 (d r3 [18,19,20]) .skip)) (s (b 0 (w l1)) (s (s (d r6 [23,30,31]) (i 32 (s (d r7 [5,6,32,33]) .ret) .skip)) (s (d r8 (rl [5,7,32] 34 6)) (s (d r9 (rl [6,8] 40 4)) (s (b 2 (w l2)) (s (d aj (rl [9,10,45] 50 7)) .ret)))))))))
end QE
def QE:AFn:=⟨2,QE.c,[.tmp 4],false⟩
structure e9 (L:Lib):Prop where
 dH:L 58=some F.dH
 dI:L 59=some F.dI
 dF:L 60=some F.dF
 dG:L 61=some F.dG
 XD:L 62=some F.XD
 fJ:L 63=some F.fJ
 fH:L 64=some F.fH
 OZ:L 65=some F.OZ
 fW:L 66=some F.fW
 fP:L 67=some F.fP
 fO:L 68=some F.fO
 fU:L 69=some F.fU
 fS:L 70=some F.fS
 aR:L 71=some F.aR
 gC:L 72=some F.gC
 PK:L 73=some F.PK
 fZ:L 74=some F.fZ
 fR:L 75=some F.fR
 gG:L 76=some F.gG
 YW:L 77=some F.YW
 gA:L 78=some F.gA
 fX:L 79=some F.fX
 fY:L 80=some F.fY
 gD:L 81=some F.gD
 QE:L 82=some F.QE
end Go.c9.F

namespace Go.c9.F
open C
namespace J3
def r0:=[o 4 (.alloc 83004 [(.bool false),.nil])]
def r1:=[m 5 0,m 6 5,g 7 6 true (.y7 1),g 8 6 true (.len 7),g 9 6 true (.bin .gtr 8 k0),pk 10 6 9 kf,m 11 1,
 o 12 (.build [(.bool false),.nil] [(0,1,10),(1,1,11)]),so 2 4 12]
def c:=(s (p r0) (s (d r1 (rl [0,1] 5 8)) .ret))
end J3
def J3:AFn:=⟨2,J3.c,[.cell 4 true 2],false⟩
namespace eL
def r0:=[bx 1 0,al 2 [(.bool false),.nil]]
def r1:=[fa 3 1 0,uu 4 1 3,fa 5 1 1,uu 6 1 5,ca 7 66 [6],o 8 (.j6 83 [4,7]),so 2 2 8]
def c:=(s (d r0 [0]) (s (e r1 (rl [1] 3 6)) .ret))
end eL
def eL:AFn:=⟨1,eL.c,[.cell 2 true 2],false⟩
namespace eJ
def r0:=[al 2 [(.bool false),.nil]]
def r1:=[m 4 0,cu 5 4,m 3 5]
def r2:=[m 6 0,ls 7 6 k0]
def r3:=[m 8 3,o 9 (.un .neg 8),m 3 9]
def r4:=[m 10 0,ls 11 10 k0,m 12 3,o 13 (.conv .u32 12),m 14 3,bi 15 .shr 14 (.c (.int .u64 (32))),o 16 (.conv .u32 15),
 o 17 (.a9 17 1 [13,16]),ca 18 66 [17],o 19 (.j6 83 [11,18]),so 2 2 19]
def c:=(s (p r0) (s (d r1 [4,5]) (s (s (d r2 [6]) (i 7 (d r3 [7,8,9]) .skip)) (s (d r4 (rl [0,3,7] 10 10)) .ret))))
end eJ
def eJ:AFn:=⟨1,eJ.c,[.cell 2 true 2],false⟩
namespace eK
def r0:=[bx 1 0,mv 2 k0]
def r1:=[fa 4 1 1,uu 5 1 4,ca 6 67 [5,(.c .nil)],bi 7 .eql 6 k0,m 3 7]
def r2:=[mv 2 k0]
def r3:=[fa 9 1 0,uu 10 1 9,m 8 10]
def r4:=[mv 2 (k (-1))]
def r5:=[mv 2 k1]
def c:=(s (d r0 [0,2]) (s (b 0 (s (d r1 (ra 4 4)) (i 3 (s (d r2 [1,3]) .ret) (s (d r3 [1,3,9,10]) (i 8 (s (d r4 [8]) .ret) .skip))))) (s (d r5 [8]) .ret)))
end eK
def eK:AFn:=⟨1,eK.c,[.tmp 2],false⟩
namespace eG
def r0:=[bx 2 0,bx 3 1,al 4 [(.bool false),.nil]]
def r1:=[fa 5 2 0,uu 6 1 5,fa 7 3 0,uu 8 1 7,o 9 (.beq false 6 8)]
def r2:=[fa 10 2 0,uu 11 1 10,fa 12 2 1,uu 13 1 12,fa 14 3 1,uu 15 1 14,ca 16 68 [13,15],
 o 17 (.j6 83 [11,16]),so 2 4 17]
def r3:=[fa 18 2 1,uu 19 1 18,fa 20 3 1,uu 21 1 20,ca 22 67 [19,21],bi 23 .eql 22 (k (-1))]
def r4:=[fa 24 3 0,uu 25 1 24,fa 26 3 1,uu 27 1 26,fa 28 2 1,uu 29 1 28,ca 30 69 [27,29],
 o 31 (.j6 83 [25,30]),so 2 4 31]
def r5:=[fa 32 2 0,uu 33 1 32,fa 34 2 1,uu 35 1 34,fa 36 3 1,uu 37 1 36,ca 38 69 [35,37],
 o 39 (.j6 83 [33,38]),so 2 4 39]
def c:=(s (d r0 [0,1]) (s (s (d r1 (ra 5 4)) (i 9 (s (e r2 (rl [2,3] 9 9)) .ret) .skip)) (s (s (d r3 (rl [9] 18 5)) (i 23 (s (e r4 (rl [2,3] 23 9)) .ret) .skip)) (s (e r5 (rl [2,3,23] 32 8)) .ret))))
end eG
def eG:AFn:=⟨2,eG.c,[.cell 4 true 2],false⟩
namespace eI
def r0:=[bx 2 0,bx 3 1,al 4 [(.bool false),.nil]]
def r1:=[fa 5 2 0,uu 6 1 5,fa 7 3 0,uu 8 1 7,o 9 (.beq true 6 8),fa 10 2 1,uu 11 1 10,fa 12 3 1,
 uu 13 1 12,ca 14 70 [11,13],o 15 (.j6 83 [9,14]),so 2 4 15]
def c:=(s (d r0 [0,1]) (s (e r1 (rl [2,3] 5 11)) .ret))
end eI
def eI:AFn:=⟨2,eI.c,[.cell 4 true 2],false⟩
namespace Y7
def r0:=[bx 1 0,al 2 [(.bool false),.nil,.nil,(.bool false)]]
def r1:=[fa 3 1 2,uu 4 1 3,ln 5 4,bi 6 .eql 5 k1,m 7 6,g 8 7 true (.m4 1 2),g 9 7 true (.ld false 1 8),
 g 10 7 true (.ch none 1 9 k0),g 11 7 true (.ld false 1 10),g 12 7 true (.bin .eql 11 (.c (.int .u32 (1)))),pk 13 7 12 kf]
def r2:=[fa 14 1 0,tt 15 2 14,fa 16 1 2,uu 17 1 16,o 18 (.build z3 [(0,2,15),(2,1,17)]),
 o 19 (.build [(.bool false),.nil,.nil,(.bool false)] [(0,3,18),(3,1,kt)]),so 4 2 19]
def r3:=[fa 20 1 2,uu 21 1 20,ca 22 67 [21,(.c .nil)],bi 23 .eql 22 k0]
def r4:=[o 24 (.build [(.bool false),.nil] []),o 25 (.a9 25 1 [(.c (.int .u32 (1)))]),o 26 (.build z3 [(0,2,24),(2,1,25)]),
 o 27 (.build [(.bool false),.nil,.nil,(.bool false)] [(0,3,26),(3,1,kt)]),so 4 2 27]
def r5:=[fa 28 1 0,tt 29 2 28,fa 30 1 2,uu 31 1 30,o 32 (.build z3 [(0,2,29),(2,1,31)]),
 o 33 (.build [(.bool false),.nil,.nil,(.bool false)] [(0,3,32),(3,1,kf)]),so 4 2 33]
def c:=(s (d r0 [0]) (s (s (d r1 (ra 3 10)) (i 13 (s (d r2 (rl [1] 13 7)) .ret) .skip)) (s (s (d r3 [13,20,21,22]) (i 23 (s (d r4 (rl [1] 23 5)) .ret) .skip)) (s (d r5 (rl [1,23] 28 6)) .ret))))
end Y7
def Y7:AFn:=⟨1,Y7.c,[.cell 2 true 4],false⟩
namespace jJ
def r0:=[mv 2 kf]
def r1:=[m 3 0,ln 4 3,bi 5 .eql 4 k1,m 6 5,g 7 6 true (.y7 0),g 8 6 true (.ch none 1 7 k0),g 9 6 true (.ld false 1 8),
 g 10 6 true (.bin .eql 9 (.c (.int .u32 (1)))),pk 11 6 10 kf,m 2 11]
def c:=(s (d r0 [2]) (s (d r1 (rl [0] 3 9)) .ret))
end jJ
def jJ:AFn:=⟨1,jJ.c,[.tmp 2],false⟩
namespace jL
def r0:=[al 2 [(.bool false),.nil]]
def r1:=[m 3 0,o 4 (.build [(.bool false),.nil] [(1,1,3)]),so 2 2 4]
def c:=(s (p r0) (s (d r1 [0,3,4]) .ret))
end jL
def jL:AFn:=⟨1,jL.c,[.cell 2 true 2],false⟩
namespace W9
def r0:=[o 1 (.box 92001 0),o 2 (.alloc 92002 z3)]
def r1:=[tt 3 2 1,o 4 (.a9 92004 1 [(.c (.int .u32 (1)))]),o 5 (.build z3 [(0,2,3),(2,1,4)]),so 3 2 5]
def c:=(s (d r0 [0]) (s (d r1 [1,3,4,5]) .ret))
end W9
def W9:AFn:=⟨1,W9.c,[.cell 2 true 3],false⟩
namespace bB
def r0:=[o 2 (.box 93002 0),o 3 (.box 93003 1),o 4 (.alloc 93004 z3)]
def r1:=[fa 5 2 0,uu 6 1 5,fa 7 3 0,uu 8 1 7,o 9 (.beq true 6 8),fa 10 2 1,uu 11 1 10,
 o 12 (.build [(.bool false),.nil] [(0,1,9),(1,1,11)]),fa 13 3 1,uu 14 1 13,
 o 15 (.build z3 [(0,2,12),(2,1,14)]),so 3 4 15]
def c:=(s (d r0 [0,1]) (s (d r1 (rl [2,3] 5 11)) .ret))
end bB
def bB:AFn:=⟨2,bB.c,[.cell 4 true 3],false⟩
namespace jM
def r0:=[bx 1 0,al 2 z3]
def r1:=[fa 14 1 0,fa 15 14 1,uu 16 1 15,fa 17 1 2,uu 18 1 17,ca 19 75 [16,18],m 13 19,et 20 13 0,
 et 21 13 1,et 22 13 2,m 3 20,m 4 21,m 5 22]
def r2:=[m 23 4,ln 24 23,bi 25 .eql 24 k0]
def r3:=[fa 26 1 0,fa 27 26 0,uu 28 1 27,m 29 3,o 30 (.build [(.bool false),.nil] [(0,1,28),(1,1,29)]),ca 31 84 [30],
 o 32 (.j6 92 [31]),so 3 2 32]
def r4:=[fa 33 1 2,uu 34 1 33,m 35 4,ca 36 82 [34,35],m 6 36]
def r5:=[m 37 6,ca 38 90 [37]]
def r6:=[fa 39 1 0,tt 40 2 39,ca 41 84 [40],fa 42 1 2,uu 43 1 42,ca 44 66 [43],
 o 45 (.build z3 [(0,2,41),(2,1,44)]),so 3 2 45]
def r7:=[fa 47 1 0,fa 48 47 1,uu 49 1 48,m 50 6,ca 51 75 [49,50],m 46 51,et 52 46 0,et 53 46 1,et 54 46 2,
 m 7 52,m 8 53,m 9 54]
def r8:=[fa 56 1 2,uu 57 1 56,m 58 6,ca 59 75 [57,58],m 55 59,et 60 55 0,et 61 55 1,et 62 55 2,m 10 60,m 11 61,
 m 12 62]
def r9:=[fa 63 1 0,fa 64 63 0,uu 65 1 64,m 66 7,o 67 (.build [(.bool false),.nil] [(0,1,65),(1,1,66)]),m 68 10,
 o 69 (.build z3 [(0,2,67),(2,1,68)]),so 3 2 69]
def c:=(s (d r0 [0]) (s (d r1 (rl [5] 13 10)) (s (s (d r2 [23,24]) (i 25 (s (d r3 (rl [1,3,4] 25 8)) .ret) .skip)) (s (d r4 (rl [3,4,25] 33 4)) (s (s (d r5 [37]) (i 38 (s (e r6 (rl [1,6] 38 8)) .ret) .skip)) (s (d r7 (rl [8,9,38] 46 9)) (s (d r8 (rl [6,11,12] 55 8)) (s (d r9 (rl [1,7,10] 63 7)) .ret))))))))
end jM
def jM:AFn:=⟨1,jM.c,[.cell 2 true 3],false⟩
namespace jH
def r0:=[bx 1 0,al 2 z3]
def r1:=[tt 3 3 1,o 4 (.v7 89 [3]),o 5 (.ye 4 0 3 true),ca 6 94 [5],so 3 2 6]
def c:=(s (d r0 [0]) (s (d r1 [1,3,4,5,6]) .ret))
end jH
def jH:AFn:=⟨1,jH.c,[.cell 2 true 3],false⟩
namespace jD
def r0:=[al 2 z3]
def r1:=[m 3 0,ca 4 85 [3],o 5 (.j6 92 [4]),so 3 2 5]
def c:=(s (p r0) (s (d r1 [0,3,4,5]) .ret))
end jD
def jD:AFn:=⟨1,jD.c,[.cell 2 true 3],false⟩
namespace jE
def r0:=[bx 1 0,mv 2 k0]
def r1:=[tt 3 3 1,o 4 (.v7 89 [3]),o 5 (.ye 4 0 3 true),o 6 (.ye 5 0 2 true),ca 7 86 [6],m 2 7]
def c:=(s (d r0 [0,2]) (s (d r1 (rl [1] 3 5)) .ret))
end jE
def jE:AFn:=⟨1,jE.c,[.tmp 2],false⟩
namespace Y5
def r0:=[bx 2 0,bx 3 1,al 4 z3]
def r1:=[q 8 [5,6] (.ld true 3 2),q 9 [5,6] (.v7 89 [8]),q 10 [5,6] (.ld true 3 3),q 11 [5,6] (.v7 89 [10]),
 al 5 [(.bool false),.nil,.nil,(.bool false)],al 6 [(.bool false),.nil,.nil,(.bool false)],so 4 5 9,so 4 6 11]
def r2:=[fa 12 5 3,uu 13 1 12,m 14 13,g 15 14 true (.m4 6 3),g 16 14 true (.ld false 1 15),pk 17 14 16 kf]
def r3:=[fa 18 5 0,fa 19 18 0,tt 20 2 19,fa 21 6 0,fa 22 21 0,tt 23 2 22,ca 24 87 [20,23],
 o 25 (.j6 92 [24]),so 3 4 25]
def r4:=[fa 26 5 0,fa 27 26 2,uu 28 1 27,fa 29 6 0,fa 30 29 2,uu 31 1 30,ca 32 67 [28,31],
 bi 33 .eql 32 k0]
def r5:=[fa 34 5 0,fa 35 34 0,tt 36 2 35,fa 37 6 0,fa 38 37 0,tt 39 2 38,ca 40 87 [36,39],
 fa 41 5 0,fa 42 41 2,uu 43 1 42,o 44 (.build z3 [(0,2,40),(2,1,43)]),ca 45 94 [44],
 so 3 4 45]
def r6:=[fa 46 5 0,fa 47 46 0,q 48 [7] (.ld true 2 47),fa 49 6 0,fa 50 49 2,q 51 [7] (.ld false 1 50),
 q 52 [7] (.v7 91 [51]),q 53 [7] (.call 88 [48,52]),fa 54 6 0,fa 55 54 0,q 56 [7] (.ld true 2 55),
 fa 57 5 0,fa 58 57 2,q 59 [7] (.ld false 1 58),q 60 [7] (.v7 91 [59]),q 61 [7] (.call 88 [56,60]),
 q 62 [7] (.call 87 [53,61]),al 7 [(.bool false),.nil],so 2 7 62]
def r7:=[tt 63 2 7,fa 64 5 0,fa 65 64 2,uu 66 1 65,fa 67 6 0,fa 68 67 2,uu 69 1 68,
 ca 70 70 [66,69],o 71 (.build z3 [(0,2,63),(2,1,70)]),ca 72 94 [71],so 3 4 72]
def c:=(s (d r0 [0,1]) (s (e r1 (rl [2,3] 8 4)) (s (s (d r2 (ra 12 5)) (i 17 (s (d r3 (rl [5,6] 17 9)) .ret) .skip)) (s (s (d r4 (rl [17] 26 7)) (i 33 (s (e r5 (rl [5,6] 33 13)) .ret) .skip)) (s (e r6 (rl [33] 46 17)) (s (e r7 (rl [5,6,7] 63 10)) .ret))))))
end Y5
def Y5:AFn:=⟨2,Y5.c,[.cell 4 true 3],false⟩
namespace bA
def r0:=[bx 2 0,bx 3 1,al 4 z3]
def r1:=[q 8 [5,6] (.ld true 3 2),q 9 [5,6] (.v7 89 [8]),q 10 [5,6] (.ld true 3 3),q 11 [5,6] (.v7 89 [10]),
 al 5 [(.bool false),.nil,.nil,(.bool false)],al 6 [(.bool false),.nil,.nil,(.bool false)],so 4 5 9,so 4 6 11]
def r2:=[fa 12 5 0,fa 13 12 0,tt 14 2 13,fa 15 6 0,fa 16 15 0,tt 17 2 16,ca 18 88 [14,17],
 al 7 [(.bool false),.nil],so 2 7 18]
def r3:=[fa 19 5 3,uu 20 1 19,m 21 20,g 22 21 true (.m4 6 3),g 23 21 true (.ld false 1 22),pk 24 21 23 kf]
def r4:=[tt 25 2 7,o 26 (.j6 92 [25]),so 3 4 26]
def r5:=[tt 27 2 7,fa 28 5 0,fa 29 28 2,uu 30 1 29,fa 31 6 0,fa 32 31 2,uu 33 1 32,
 ca 34 70 [30,33],o 35 (.build z3 [(0,2,27),(2,1,34)]),ca 36 94 [35],so 3 4 36]
def c:=(s (d r0 [0,1]) (s (e r1 (rl [2,3] 8 4)) (s (d r2 (ra 12 7)) (s (s (d r3 (ra 19 5)) (i 24 (s (d r4 [5,6,7,24,25,26]) .ret) .skip)) (s (e r5 (rl [5,6,7,24] 27 10)) .ret)))))
end bA
def bA:AFn:=⟨2,bA.c,[.cell 4 true 3],false⟩
namespace iZ
def r0:=[bx 2 0,bx 3 1,al 4 z3,mv 5 k0]
def r1:=[q 10 [6,7] (.ld true 3 2),q 11 [6,7] (.v7 89 [10]),q 12 [6,7] (.ld true 3 3),q 13 [6,7] (.v7 89 [12]),
 al 6 [(.bool false),.nil,.nil,(.bool false)],al 7 [(.bool false),.nil,.nil,(.bool false)],so 4 6 11,so 4 7 13]
def r2:=[fa 14 7 0,fa 15 14 0,tt 16 2 15,ca 17 86 [16],bi 18 .eql 17 k0]
def r3:=[o 19 (.build z3 []),so 3 4 19,mv 5 (k 3)]
def r4:=[fa 20 6 0,fa 21 20 0,q 22 [8] (.ld true 2 21),fa 23 7 0,fa 24 23 2,q 25 [8] (.ld false 1 24),
 q 26 [8] (.v7 91 [25]),q 27 [8] (.call 88 [22,26]),al 8 [(.bool false),.nil],so 2 8 27]
def r5:=[fa 28 6 0,fa 29 28 2,q 30 [9] (.ld false 1 29),q 31 [9] (.v7 91 [30]),fa 32 7 0,fa 33 32 0,
 q 34 [9] (.ld true 2 33),q 35 [9] (.call 88 [31,34]),al 9 [(.bool false),.nil],so 2 9 35]
def r6:=[tt 36 2 8,tt 37 2 9,o 38 (.j6 93 [36,37]),ca 39 94 [38],so 3 4 39,mv 5 k0]
def c:=(s (d r0 [0,1,5]) (s (e r1 (rl [2,3] 10 4)) (s (s (d r2 (ra 14 4)) (i 18 (s (d r3 [6,7,18,19]) .ret) .skip)) (s (e r4 (rl [18] 20 8)) (s (e r5 (rl [6,7] 28 8)) (s (d r6 (rl [8,9] 36 4)) .ret))))))
end iZ
def iZ:AFn:=⟨2,iZ.c,[.cell 4 true 3,.tmp 5],false⟩
structure a7 (L:Lib):Prop extends e9 L where
 J3:L 83=some F.J3
 eL:L 84=some F.eL
 eJ:L 85=some F.eJ
 eK:L 86=some F.eK
 eG:L 87=some F.eG
 eI:L 88=some F.eI
 Y7:L 89=some F.Y7
 jJ:L 90=some F.jJ
 jL:L 91=some F.jL
 W9:L 92=some F.W9
 bB:L 93=some F.bB
 jM:L 94=some F.jM
 jH:L 95=some F.jH
 jD:L 96=some F.jD
 jE:L 97=some F.jE
 Y5:L 98=some F.Y5
 bA:L 99=some F.bA
 iZ:L 100=some F.iZ
end Go.c9.F

namespace Go.c9.F
open C
namespace XA
def r0:=[mv 2 (.c .nil)]
def r1:=[m 4 0,ln 5 4,m 3 5]
def r2:=[m 6 3,bi 7 .gtr 6 k0,m 8 7,g 9 8 true (.y7 0),g 10 8 true (.y7 3),g 11 8 true (.bin .sub 10 k1),g 12 8 true (.ch none 1 9 11),
 g 13 8 true (.ld false 1 12),g 14 8 true (.bin .eql 13 (.c (.int .u32 (0)))),pk 15 8 14 kf]
def r3:=[m 16 3,sb 17 16 k1,m 3 17]
def r4:=[m 18 0,m 19 3,o 20 (.kv 1 18 none (some 19)),o 21 (.app 101021 1 4 (.c .nil) 20),m 2 21]
def l1:=(s (s (d r2 (ra 6 9)) (i 15 .skip (x 0))) (b 1 (d r3 [15,16,17])))
def c:=(s (d r0 [2]) (s (d r1 [4,5]) (s (b 0 (w l1)) (s (d r4 (rl [0,3,15] 18 4)) .ret))))
end XA
def XA:AFn:=⟨1,XA.c,[.tmp 2],false⟩
namespace jP
def r0:=[mv 4 k0]
def r1:=[m 6 0,ca 7 101 [6],m 8 1,ca 9 101 [8],m 0 7,m 1 9]
def r2:=[m 10 0,ln 11 10,m 12 1,ln 13 12,bi 14 .neq 11 13]
def r3:=[m 15 0,ln 16 15,m 17 1,ln 18 17,ls 19 16 18]
def r4:=[mv 4 (k (-1))]
def r5:=[mv 4 k1]
def r6:=[m 20 0,ln 21 20,sb 22 21 k1,m 5 22]
def r7:=[m 23 5,bi 24 .geq 23 k0]
def r9:=[m 27 0,m 28 5,ia 29 1 27 28,uu 30 1 29,m 31 1,m 32 5,ia 33 1 31 32,uu 34 1 33,ls 35 30 34]
def F2:=[mv 4 (k (-1))]
def GC:=[m 36 0,m 37 5,ia 38 1 36 37,uu 39 1 38,m 40 1,m 41 5,ia 42 1 40 41,uu 43 1 42,bi 44 .gtr 39 43]
def aj:=[mv 4 k1]
def r8:=[m 25 5,sb 26 25 k1,m 5 26]
def HC:=[mv 4 k0]
def l1:=(s (s (d r7 [23]) (i 24 .skip (x 0))) (s (b 1 (s (s (e r9 (rl [24] 27 8)) (i 35 (s (d F2 [0,1,5,35]) .ret) .skip)) (s (e GC (ra 35 9)) (i 44 (s (d aj [0,1,5,44]) .ret) .skip)))) (d r8 [25,26,44])))
def c:=(s (d r0 [4]) (s (d r1 (ra 6 4)) (s (s (d r2 (ra 10 4)) (i 14 (s (s (d r3 (rl [0,1] 14 5)) (i 19 (s (d r4 [19]) .ret) .skip)) (s (d r5 [19]) .ret)) .skip)) (s (s (d r6 [14,20,21,22]) (b 0 (w l1))) (s (d HC [0,1,5,24]) .ret)))))
end jP
def jP:AFn:=⟨2,jP.c,[.tmp 4],false⟩
namespace jN
def r0:=[mv 4 (.c .nil)]
def r1:=[o 5 (.gj 5 1)]
def r2:=[mv 6 (.c (.int .u64 (0)))]
def r3:=[mv 7 k0]
def r4:=[m 8 7,m 9 0,ln 10 9,ls 11 8 10,m 12 11,g 13 12 false (.y7 7),g 14 12 false (.y7 1),g 15 12 false (.len 14),
 g 16 12 false (.bin .lss 13 15),pk 17 12 kt 16]
def r6:=[m 20 7,m 21 0,ln 22 21,ls 23 20 22]
def r7:=[m 24 6,m 25 0,m 26 7,ia 27 1 25 26,uu 28 1 27,cu 29 28,ad 30 24 29,m 6 30]
def r8:=[m 31 7,m 32 1,ln 33 32,ls 34 31 33]
def r9:=[m 35 6,m 36 1,m 37 7,ia 38 1 36 37,uu 39 1 38,cu 40 39,ad 41 35 40,m 6 41]
def F2:=[m 42 5,m 43 6,o 44 (.conv .u32 43),o 45 (.a9 45 1 [44]),o 46 (.app 46 1 4 42 45),m 5 46]
def GC:=[m 47 6,bi 48 .shr 47 (.c (.int .u64 (32))),m 6 48]
def r5:=[m 18 7,ad 19 18 k1,m 7 19]
def aj:=[m 49 5,m 50 6,o 51 (.conv .u32 50),o 52 (.a9 52 1 [51]),o 53 (.app 53 1 4 49 52),ca 54 101 [53],m 4 54]
def l1:=(s (s (d r4 (ra 8 9)) (i 17 .skip (x 0))) (s (b 1 (s (s (d r6 [17,20,21,22]) (i 23 (d r7 (ra 23 8)) .skip)) (s (s (d r8 [23,31,32,33]) (i 34 (d r9 (ra 34 8)) .skip)) (s (d F2 (rl [34] 42 5)) (d GC [47,48]))))) (d r5 [18,19])))
def c:=(s (d r0 [4]) (s (p r1) (s (p r2) (s (s (p r3) (b 0 (w l1))) (s (d aj (rl [0,1,5,6,7,17] 49 6)) .ret)))))
end jN
def jN:AFn:=⟨2,jN.c,[.tmp 4],false⟩
namespace aC
def r0:=[mv 4 (.c .nil)]
def r1:=[m 10 0,m 11 1,ca 12 102 [10,11],ls 13 12 k0]
def r2:=[mv 4 (.c .nil)]
def r3:=[m 14 1,ca 15 101 [14],m 1 15]
def r4:=[m 16 0,o 17 (.j6 101 [16]),m 5 17]
def r5:=[mv 6 (.c (.int .u64 (0)))]
def r6:=[mv 7 k0]
def r7:=[m 18 7,m 19 5,ln 20 19,ls 21 18 20]
def r9:=[m 24 6,m 8 24]
def F2:=[m 25 7,m 26 1,ln 27 26,ls 28 25 27]
def GC:=[m 29 8,m 30 1,m 31 7,ia 32 1 30 31,uu 33 1 32,cu 34 33,ad 35 29 34,m 8 35]
def aj:=[m 36 5,m 37 7,ia 38 1 36 37,uu 39 1 38,cu 40 39,m 9 40]
def HC:=[mv 6 (.c (.int .u64 (0)))]
def dp:=[m 41 9,m 42 8,ls 43 41 42]
def dz:=[m 44 9,ad 45 44 (.c (.int .u64 (4294967296))),m 9 45]
def fm:=[mv 6 (.c (.int .u64 (1)))]
def JG:=[m 46 5,m 47 7,m 48 9,m 49 8,sb 50 48 49,o 51 (.conv .u32 50),ia 52 1 46 47,so 1 52 51]
def r8:=[m 22 7,ad 23 22 k1,m 7 23]
def ib:=[m 53 5,ca 54 101 [53],m 4 54]
def l1:=(s (s (d r7 [18,19,20]) (i 21 .skip (x 0))) (s (b 1 (s (d r9 [6,21,24]) (s (s (d F2 [25,26,27]) (i 28 (d GC (ra 28 8)) .skip)) (s (d aj (rl [28] 36 5)) (s (p HC) (s (s (d dp [41,42]) (i 43 (s (d dz [6,43,44,45]) (p fm)) .skip)) (d JG (rl [8,9,43] 46 7)))))))) (d r8 [22,23])))
def c:=(s (d r0 [4]) (s (s (d r1 [10,11,12]) (i 13 (s (d r2 [0,1,13]) .ret) .skip)) (s (d r3 [13,14,15]) (s (d r4 [0,16,17]) (s (p r5) (s (s (p r6) (b 0 (w l1))) (s (d ib [1,5,6,7,21,53,54]) .ret)))))))
end aC
def aC:AFn:=⟨2,aC.c,[.tmp 4],false⟩
namespace jT
def r0:=[mv 4 (.c .nil)]
def r1:=[m 9 0,ln 10 9,m 11 1,ln 12 11,ad 13 10 12,ad 14 13 k1,o 15 (.mk 15 1 4 [(.int .u32 (0))] 14 14),m 5 15]
def r2:=[mv 6 k0]
def r3:=[m 16 6,m 17 0,ln 18 17,ls 19 16 18]
def r5:=[mv 7 (.c (.int .u64 (0)))]
def r6:=[mv 8 k0]
def r7:=[m 22 8,m 23 1,ln 24 23,ls 25 22 24]
def r9:=[m 28 7,m 29 0,m 30 6,ia 31 1 29 30,uu 32 1 31,cu 33 32,m 34 1,m 35 8,ia 36 1 34 35,
 uu 37 1 36,cu 38 37,bi 39 .mul 33 38,m 40 5,m 41 6,m 42 8,ad 43 41 42,ia 44 1 40 43,
 uu 45 1 44,cu 46 45,ad 47 39 46,ad 48 28 47,m 7 48]
def F2:=[m 49 5,m 50 6,m 51 8,ad 52 50 51,m 53 7,o 54 (.conv .u32 53),ia 55 1 49 52,so 1 55 54]
def GC:=[m 56 7,bi 57 .shr 56 (.c (.int .u64 (32))),m 7 57]
def r8:=[m 26 8,ad 27 26 k1,m 8 27]
def aj:=[m 58 5,m 59 6,m 60 1,ln 61 60,ad 62 59 61,m 63 7,o 64 (.conv .u32 63),ia 65 1 58 62,so 1 65 64]
def r4:=[m 20 6,ad 21 20 k1,m 6 21]
def HC:=[m 66 5,ca 67 101 [66],m 4 67]
def l2:=(s (s (d r7 [22,23,24]) (i 25 .skip (x 2))) (s (b 3 (s (e r9 (rl [25] 28 21)) (s (d F2 (ra 49 7)) (d GC [56,57])))) (d r8 [26,27])))
def l1:=(s (s (d r3 [16,17,18]) (i 19 .skip (x 0))) (s (b 1 (s (d r5 [19]) (s (s (p r6) (b 2 (w l2))) (d aj (rl [7,8,25] 58 8))))) (d r4 [20,21])))
def c:=(s (d r0 [4]) (s (d r1 (ra 9 7)) (s (s (p r2) (b 0 (w l1))) (s (d HC [0,1,5,6,19,66,67]) .ret))))
end jT
def jT:AFn:=⟨2,jT.c,[.tmp 4],false⟩
namespace jO
def r0:=[mv 2 k0]
def r1:=[m 5 0,ca 6 101 [5],m 0 6]
def r2:=[m 7 0,ln 8 7,bi 9 .eql 8 k0]
def r3:=[mv 2 k0]
def r4:=[m 10 0,ln 11 10,sb 12 11 k1,bi 13 .mul (k 32) 12,m 3 13]
def r5:=[m 14 0,m 15 0,ln 16 15,sb 17 16 k1,ia 18 1 14 17,uu 19 1 18,m 4 19]
def r6:=[m 20 4,bi 21 .gtr 20 (.c (.int .u32 (0)))]
def r8:=[m 24 3,ad 25 24 k1,m 3 25]
def r7:=[m 22 4,bi 23 .shr 22 (.c (.int .u64 (1))),m 4 23]
def r9:=[m 26 3,m 2 26]
def l1:=(s (s (d r6 [20]) (i 21 .skip (x 0))) (s (b 1 (d r8 [21,24,25])) (d r7 [22,23])))
def c:=(s (d r0 [2]) (s (d r1 [5,6]) (s (s (d r2 [7,8]) (i 9 (s (d r3 [0,9]) .ret) .skip)) (s (d r4 (ra 9 5)) (s (s (d r5 (rl [0] 14 6)) (b 0 (w l1))) (s (d r9 [3,4,21,26]) .ret))))))
end jO
def jO:AFn:=⟨1,jO.c,[.tmp 2],false⟩
namespace Y9
def r0:=[mv 4 (.c .nil)]
def r1:=[m 11 0,ca 12 101 [11],m 0 12]
def r2:=[m 13 1,bi 14 .gtr 13 (k 65536),m 15 14,g 16 15 false (.y7 0),g 17 15 false (.len 16),g 18 15 false (.bin .eql 17 k0),
 pk 19 15 kt 18]
def r3:=[mv 4 (.c .nil)]
def r4:=[m 20 1,ls 21 20 k0]
def r5:=[m 22 1,m 23 0,ln 24 23,bi 25 .mul (k (-32)) 24,ls 26 22 25]
def r6:=[mv 4 (.c .nil)]
def r7:=[m 27 1,o 28 (.un .neg 27),m 1 28]
def r8:=[o 5 (.gj 107005 1)]
def r9:=[m 29 1,bi 30 .quo 29 (k 32),m 6 30]
def F2:=[m 31 6,m 32 0,ln 33 32,ls 34 31 33]
def aj:=[m 37 0,m 38 6,ia 39 1 37 38,uu 40 1 39,cu 41 40,m 7 41]
def HC:=[m 42 6,ad 43 42 k1,m 44 0,ln 45 44,ls 46 43 45]
def dp:=[m 47 7,m 48 0,m 49 6,ad 50 49 k1,ia 51 1 48 50,uu 52 1 51,cu 53 52,
 bi 54 .shl 53 (.c (.int .u64 (32))),bi 55 .or 47 54,m 7 55]
def dz:=[m 56 5,m 57 7,m 58 1,bi 59 .rem 58 (k 32),cu 60 59,bi 61 .shr 57 60,o 62 (.conv .u32 61),o 63 (.a9 107063 1 [62]),
 o 64 (.app 107064 1 4 56 63),m 5 64]
def GC:=[m 35 6,ad 36 35 k1,m 6 36]
def fm:=[m 65 5,ca 66 101 [65],m 4 66]
def JG:=[m 67 1,bi 68 .quo 67 (k 32),o 69 (.mk 107069 1 4 [(.int .u32 (0))] 68 68),m 8 69]
def ib:=[mv 9 (.c (.int .u64 (0)))]
def je:=[mv 10 k0]
def js:=[m 70 10,m 71 0,ln 72 71,ls 73 70 72]
def qm:=[m 76 9,m 77 0,m 78 10,ia 79 1 77 78,uu 80 1 79,cu 81 80,m 82 1,bi 83 .rem 82 (k 32),cu 84 83,
 bi 85 .shl 81 84,bi 86 .or 76 85,m 9 86]
def sz:=[m 87 8,m 88 9,o 89 (.conv .u32 88),o 90 (.a9 107090 1 [89]),o 91 (.app 107091 1 4 87 90),m 8 91]
def W8:=[m 92 9,bi 93 .shr 92 (.c (.int .u64 (32))),m 9 93]
def ov:=[m 74 10,ad 75 74 k1,m 10 75]
def aW:=[m 94 8,m 95 9,o 96 (.conv .u32 95),o 97 (.a9 107097 1 [96]),o 98 (.app 107098 1 4 94 97),o 99 (.j6 101 [98]),m 4 99]
def l1:=(s (s (d F2 [31,32,33]) (i 34 .skip (x 0))) (s (b 1 (s (d aj (rl [34] 37 5)) (s (s (d HC (ra 42 4)) (i 46 (d dp (ra 46 10)) .skip)) (d dz (rl [7,46] 56 9))))) (d GC [35,36])))
def l2:=(s (s (d js [70,71,72]) (i 73 .skip (x 2))) (s (b 3 (s (d qm (rl [73] 76 11)) (s (d sz (ra 87 5)) (d W8 [92,93])))) (d ov [74,75])))
def c:=(s (d r0 [4]) (s (d r1 [11,12]) (s (s (d r2 (ra 13 6)) (i 19 (s (d r3 [0,1,19]) .ret) .skip)) (s (s (d r4 [19,20]) (i 21 (s (s (d r5 (ra 21 5)) (i 26 (s (d r6 [0,1,26]) .ret) .skip)) (s (d r7 [26,27,28]) (s (p r8) (s (s (d r9 [29,30]) (b 0 (w l1))) (s (d fm [0,1,5,6,34,65,66]) .ret))))) .skip)) (s (d JG [21,67,68,69]) (s (p ib) (s (s (p je) (b 2 (w l2))) (s (d aW (rl [0,1,8,9,10,73] 94 6)) .ret))))))))
end Y9
def Y9:AFn:=⟨2,Y9.c,[.tmp 4],false⟩
namespace jV
def r0:=[mv 4 (.c .nil),mv 5 (.c (.int .u32 (0)))]
def r1:=[m 9 0,ln 10 9,o 11 (.mk 11 1 4 [(.int .u32 (0))] 10 10),m 6 11]
def r2:=[mv 7 (.c (.int .u64 (0)))]
def r3:=[m 12 0,ln 13 12,sb 14 13 k1,m 8 14]
def r4:=[m 15 8,bi 16 .geq 15 k0]
def r6:=[m 19 7,bi 20 .shl 19 (.c (.int .u64 (32))),m 21 0,m 22 8,ia 23 1 21 22,uu 24 1 23,cu 25 24,
 bi 26 .or 20 25,m 7 26]
def r7:=[m 27 6,m 28 8,m 29 7,m 30 1,cu 31 30,bi 32 .quo 29 31,o 33 (.conv .u32 32),ia 34 1 27 28,so 1 34 33]
def r8:=[m 35 7,m 36 1,cu 37 36,bi 38 .rem 35 37,m 7 38]
def r5:=[m 17 8,sb 18 17 k1,m 8 18]
def r9:=[m 39 6,ca 40 101 [39],m 41 7,o 42 (.conv .u32 41),m 4 40,m 5 42]
def l1:=(s (s (d r4 [15]) (i 16 .skip (x 0))) (s (b 1 (s (d r6 (rl [16] 19 8)) (s (d r7 (ra 27 8)) (d r8 (ra 35 4))))) (d r5 [17,18])))
def c:=(s (d r0 [4,5]) (s (d r1 [9,10,11]) (s (p r2) (s (s (d r3 [12,13,14]) (b 0 (w l1))) (s (d r9 (rl [0,1,6,7,8,16] 39 4)) .ret)))))
end jV
def jV:AFn:=⟨2,jV.c,[.tmp 4,.tmp 5],false⟩
namespace KT
def r0:=[mv 4 (.c .nil),mv 5 (.c .nil),mv 6 k0]
def r1:=[m 27 0,ca 28 101 [27],m 29 1,ca 30 101 [29],m 0 28,m 1 30]
def r2:=[m 31 1,ln 32 31,bi 33 .eql 32 k0]
def r3:=[mv 4 (.c .nil),mv 5 (.c .nil),mv 6 (k 3)]
def r4:=[m 34 1,ln 35 34,bi 36 .eql 35 k1]
def r5:=[m 38 0,m 39 1,ia 40 1 39 k0,uu 41 1 40,ca 42 108 [38,41],m 37 42,et 43 37 0,et 44 37 1,m 7 43,m 8 44]
def r6:=[m 45 7,m 46 8,o 47 (.a9 47 1 [46]),ca 48 101 [47],m 4 45,m 5 48,mv 6 k0]
def r7:=[m 49 0,m 50 1,ca 51 102 [49,50],ls 52 51 k0]
def r8:=[m 53 0,mv 4 (.c .nil),m 5 53,mv 6 k0]
def r9:=[m 54 1,m 55 1,ln 56 55,sb 57 56 k1,o 58 (.kv 1 54 (some 57) none),ca 59 106 [58],sb 60 (k 32) 59,m 9 60]
def F2:=[m 61 0,m 62 9,o 63 (.j6 107 [61,62]),m 64 1,m 65 9,ca 66 107 [64,65],m 10 63,m 11 66]
def GC:=[m 67 10,o 68 (.a9 68 1 [(.c (.int .u32 (0)))]),o 69 (.app 69 1 4 67 68),m 10 69]
def aj:=[m 70 10,ln 71 70,m 72 0,ln 73 72,ad 74 73 k1,ls 75 71 74]
def HC:=[m 76 10,o 77 (.a9 77 1 [(.c (.int .u32 (0)))]),o 78 (.app 78 1 4 76 77),m 10 78]
def dp:=[m 79 11,ln 80 79,m 12 80]
def dz:=[m 81 10,ln 82 81,m 83 12,sb 84 82 83,o 85 (.mk 85 1 4 [(.int .u32 (0))] 84 84),m 13 85]
def fm:=[m 86 10,ln 87 86,m 88 12,sb 89 87 88,sb 90 89 k1,m 14 90]
def JG:=[m 91 14,bi 92 .geq 91 k0]
def je:=[m 95 10,m 96 14,m 97 12,ad 98 96 97,ia 99 1 95 98,uu 100 1 99,cu 101 100,
 bi 102 .shl 101 (.c (.int .u64 (32))),m 103 10,m 104 14,m 105 12,ad 106 104 105,sb 107 106 k1,
 ia 108 1 103 107,uu 109 1 108,cu 110 109,bi 111 .or 102 110,m 15 111]
def js:=[m 112 15,m 113 11,m 114 12,sb 115 114 k1,ia 116 1 113 115,uu 117 1 116,cu 118 117,
 bi 119 .quo 112 118,m 16 119]
def ov:=[m 120 15,m 121 11,m 122 12,sb 123 122 k1,ia 124 1 121 123,uu 125 1 124,cu 126 125,
 bi 127 .rem 120 126,m 17 127]
def qm:=[m 128 16,bi 129 .geq 128 (.c (.int .u64 (4294967296))),m 130 129,g 131 130 false (.y7 16),g 132 130 false (.y7 11),g 133 130 false (.y7 12),
 g 134 130 false (.bin .sub 133 (k 2)),g 135 130 false (.ch none 1 132 134),g 136 130 false (.ld false 1 135),g 137 130 false (.conv .u64 136),
 g 138 130 false (.bin .mul 131 137),g 139 130 false (.y7 17),g 140 130 false (.bin .shl 139 (.c (.int .u64 (32)))),g 141 130 false (.y7 10),
 g 142 130 false (.y7 14),g 143 130 false (.y7 12),g 144 130 false (.bin .add 142 143),g 145 130 false (.bin .sub 144 (k 2)),
 g 146 130 false (.ch none 1 141 145),g 147 130 false (.ld false 1 146),g 148 130 false (.conv .u64 147),g 149 130 false (.bin .or 140 148),
 g 150 130 false (.bin .gtr 138 149),pk 151 130 kt 150]
def sz:=[m 152 16,sb 153 152 (.c (.int .u64 (1))),m 16 153]
def W8:=[m 154 17,m 155 11,m 156 12,sb 157 156 k1,ia 158 1 155 157,uu 159 1 158,cu 160 159,
 ad 161 154 160,m 17 161]
def aW:=[m 162 17,bi 163 .geq 162 (.c (.int .u64 (4294967296)))]
def uR:=[mv 18 (.c (.int .u64 (0))),mv 19 (.c (.int .u64 (0)))]
def r27:=[mv 20 k0]
def r28:=[m 164 20,m 165 12,ls 166 164 165]
def r30:=[m 169 19,m 170 16,m 171 11,m 172 20,ia 173 1 171 172,uu 174 1 173,cu 175 174,bi 176 .mul 170 175,
 ad 177 169 176,m 19 177]
def r31:=[m 178 19,bi 179 .and 178 (.c (.int .u64 (4294967295))),m 180 18,ad 181 179 180,m 21 181]
def r32:=[m 182 19,bi 183 .shr 182 (.c (.int .u64 (32))),m 19 183]
def r33:=[m 184 10,m 185 20,m 186 14,ad 187 185 186,ia 188 1 184 187,uu 189 1 188,cu 190 189,m 22 190]
def r34:=[mv 18 (.c (.int .u64 (0)))]
def r35:=[m 191 22,m 192 21,ls 193 191 192]
def r36:=[m 194 22,ad 195 194 (.c (.int .u64 (4294967296))),m 22 195]
def r37:=[mv 18 (.c (.int .u64 (1)))]
def r38:=[m 196 10,m 197 20,m 198 14,ad 199 197 198,m 200 22,m 201 21,sb 202 200 201,o 203 (.conv .u32 202),ia 204 1 196 199,
 so 1 204 203]
def r29:=[m 167 20,ad 168 167 k1,m 20 168]
def r39:=[m 205 19,m 206 18,ad 207 205 206,m 23 207]
def r40:=[m 208 10,m 209 14,m 210 12,ad 211 209 210,ia 212 1 208 211,uu 213 1 212,cu 214 213,m 24 214]
def r41:=[mv 18 (.c (.int .u64 (0)))]
def r42:=[m 215 24,m 216 23,ls 217 215 216]
def r43:=[m 218 24,ad 219 218 (.c (.int .u64 (4294967296))),m 24 219]
def r44:=[mv 18 (.c (.int .u64 (1)))]
def r45:=[m 220 10,m 221 14,m 222 12,ad 223 221 222,m 224 24,m 225 23,sb 226 224 225,o 227 (.conv .u32 226),ia 228 1 220 223,
 so 1 228 227]
def r46:=[m 229 18,bi 230 .eql 229 (.c (.int .u64 (1)))]
def r47:=[m 231 16,sb 232 231 (.c (.int .u64 (1))),m 16 232]
def r48:=[mv 25 (.c (.int .u64 (0)))]
def r49:=[mv 26 k0]
def r50:=[m 233 26,m 234 12,ls 235 233 234]
def r52:=[m 238 25,m 239 10,m 240 26,m 241 14,ad 242 240 241,ia 243 1 239 242,uu 244 1 243,cu 245 244,m 246 11,
 m 247 26,ia 248 1 246 247,uu 249 1 248,cu 250 249,ad 251 245 250,ad 252 238 251,m 25 252]
def r53:=[m 253 10,m 254 26,m 255 14,ad 256 254 255,m 257 25,o 258 (.conv .u32 257),ia 259 1 253 256,so 1 259 258]
def r54:=[m 260 25,bi 261 .shr 260 (.c (.int .u64 (32))),m 25 261]
def r51:=[m 236 26,ad 237 236 k1,m 26 237]
def r55:=[m 262 10,m 263 14,m 264 12,ad 265 263 264,ia 266 1 262 265,uu 267 1 266,m 268 25,o 269 (.conv .u32 268),
 ad 270 267 269,ia 271 1 262 265,so 1 271 270]
def r56:=[m 272 13,m 273 14,m 274 16,o 275 (.conv .u32 274),ia 276 1 272 273,so 1 276 275]
def ib:=[m 93 14,sb 94 93 k1,m 14 94]
def r57:=[m 277 13,ca 278 101 [277],m 279 10,m 280 12,o 281 (.kv 1 279 none (some 280)),m 282 9,o 283 (.un .neg 282),ca 284 107 [281,283],m 4 278,
 m 5 284,mv 6 k0]
def l1:=(s (s (d aj (ra 70 5)) (i 75 .skip (x 0))) (b 1 (d HC (ra 75 4))))
def l3:=(s (s (e qm [128,129,130,131,132,133,134,135,136,137,138,139,140,141,142,143,144,145,146,147,148,149,150,163]) (i 151 .skip (x 4))) (b 5 (s (d sz [151,152,153]) (s (d W8 (ra 154 8)) (s (d aW [162]) (i 163 (x 4) .skip))))))
def l4:=(s (s (d r28 [164,165]) (i 166 .skip (x 6))) (s (b 7 (s (d r30 (rl [166] 169 9)) (s (d r31 (rl [18] 178 4)) (s (d r32 [182,183]) (s (d r33 (ra 184 7)) (s (p r34) (s (s (d r35 [191,192]) (i 193 (s (d r36 [18,193,194,195]) (p r37)) .skip)) (d r38 (rl [21,22,193] 196 9))))))))) (d r29 [167,168])))
def l5:=(s (s (d r50 [233,234]) (i 235 .skip (x 8))) (s (b 9 (s (e r52 (rl [235] 238 15)) (s (d r53 (ra 253 7)) (d r54 [260,261])))) (d r51 [236,237])))
def l2:=(s (s (d JG [91]) (i 92 .skip (x 2))) (s (b 3 (s (e je (rl [92] 95 17)) (s (d js (ra 112 8)) (s (d ov (rl [15] 120 8)) (s (b 4 (w l3)) (s (d uR [17,151,163]) (s (s (p r27) (b 6 (w l4))) (s (d r39 [18,19,20,166,205,206,207]) (s (d r40 (ra 208 7)) (s (p r41) (s (s (d r42 [215,216]) (i 217 (s (d r43 [18,217,218,219]) (p r44)) .skip)) (s (d r45 (rl [23,24,217] 220 9)) (s (s (d r46 [18,229]) (i 230 (s (d r47 [230,231,232]) (s (p r48) (s (s (p r49) (b 8 (w l5))) (d r55 (rl [25,26,235] 262 10))))) .skip)) (d r56 (rl [16,230] 272 5))))))))))))))) (d ib [93,94])))
def c:=(s (d r0 [4,5,6]) (s (d r1 (ra 27 4)) (s (s (d r2 [31,32]) (i 33 (s (d r3 [0,1,33]) .ret) .skip)) (s (s (d r4 [33,34,35]) (i 36 (s (d r5 (rl [0,1] 36 9)) (s (d r6 (rl [7,8] 45 4)) .ret)) .skip)) (s (s (d r7 [36,49,50,51]) (i 52 (s (d r8 [0,1,52,53]) .ret) .skip)) (s (d r9 (rl [52] 54 7)) (s (d F2 (rl [1] 61 6)) (s (d GC [67,68,69]) (s (b 0 (w l1)) (s (d dp [0,75,79,80]) (s (d dz (ra 81 5)) (s (s (d fm (ra 86 5)) (b 2 (w l2))) (s (e r57 (rl [9,10,11,12,13,14,92] 277 8)) .ret)))))))))))))
end KT
def KT:AFn:=⟨2,KT.c,[.tmp 4,.tmp 5,.tmp 6],false⟩
namespace jR
def r0:=[mv 4 (.c .nil)]
def r1:=[m 8 0,ca 9 101 [8],m 10 1,ca 11 101 [10],m 0 9,m 1 11]
def r2:=[m 12 1,ln 13 12,bi 14 .gtr 13 k0]
def r3:=[m 16 0,m 17 1,ca 18 109 [16,17],m 15 18,et 19 15 0,et 20 15 1,et 21 15 2,m 5 19,m 6 20,m 7 21]
def r4:=[m 22 1,m 23 6,m 0 22,m 1 23]
def r5:=[m 24 0,m 4 24]
def l1:=(s (s (d r2 [12,13]) (i 14 .skip (x 0))) (b 1 (s (d r3 (rl [0,5,7] 14 8)) (d r4 [6,22,23]))))
def c:=(s (d r0 [4]) (s (d r1 (ra 8 4)) (s (b 0 (w l1)) (s (d r5 [0,1,14,24]) .ret))))
end jR
def jR:AFn:=⟨2,jR.c,[.tmp 4],false⟩
namespace kQ
def r0:=[bx 1 0,al 2 [(.bool false),.nil]]
def r1:=[fa 4 1 1,uu 5 1 4,ca 6 101 [5],m 3 6]
def r2:=[fa 7 1 0,uu 8 1 7,m 9 8,g 10 9 true (.y7 3),g 11 9 true (.len 10),g 12 9 true (.bin .gtr 11 k0),
 pk 13 9 12 kf,m 14 3,o 15 (.build [(.bool false),.nil] [(0,1,13),(1,1,14)]),so 2 2 15]
def c:=(s (d r0 [0]) (s (d r1 [4,5,6]) (s (d r2 (rl [1,3] 7 9)) .ret)))
end kQ
def kQ:AFn:=⟨1,kQ.c,[.cell 2 true 2],false⟩
namespace kK
def r0:=[al 2 [(.bool false),.nil]]
def r1:=[m 4 0,ls 5 4 k0]
def r2:=[m 6 0,ad 7 6 k1,o 8 (.un .neg 7),cu 9 8,ad 10 9 (.c (.int .u64 (1))),m 3 10]
def r3:=[m 11 3,o 12 (.conv .u32 11),m 13 3,bi 14 .shr 13 (.c (.int .u64 (32))),o 15 (.conv .u32 14),o 16 (.a9 16 1 [12,15]),
 o 17 (.build [(.bool false),.nil] [(0,1,kt),(1,1,16)]),ca 18 111 [17],so 2 2 18]
def r4:=[m 19 0,o 20 (.conv .u32 19),m 21 0,cu 22 21,bi 23 .shr 22 (.c (.int .u64 (32))),o 24 (.conv .u32 23),o 25 (.a9 25 1 [20,24]),
 o 26 (.build [(.bool false),.nil] [(1,1,25)]),ca 27 111 [26],so 2 2 27]
def c:=(s (p r0) (s (s (d r1 [4]) (i 5 (s (d r2 (rl [0] 5 6)) (s (d r3 (rl [3] 11 8)) .ret)) .skip)) (s (d r4 (rl [0,5] 19 9)) .ret)))
end kK
def kK:AFn:=⟨1,kK.c,[.cell 2 true 2],false⟩
namespace kM
def r0:=[bx 1 0,mv 2 k0]
def r1:=[tt 3 2 1,ca 4 111 [3],so 2 1 4]
def r2:=[fa 6 1 1,uu 7 1 6,ln 8 7,bi 9 .eql 8 k0,m 5 9]
def r3:=[mv 2 k0]
def r4:=[fa 11 1 0,uu 12 1 11,m 10 12]
def r5:=[mv 2 (k (-1))]
def r6:=[mv 2 k1]
def c:=(s (d r0 [0,2]) (s (d r1 [3,4]) (s (b 0 (s (d r2 (ra 6 4)) (i 5 (s (d r3 [1,5]) .ret) (s (d r4 [1,5,11,12]) (i 10 (s (d r5 [10]) .ret) .skip))))) (s (d r6 [10]) .ret))))
end kM
def kM:AFn:=⟨1,kM.c,[.tmp 2],false⟩
namespace kJ
def r0:=[bx 1 0,al 2 [(.bool false),.nil]]
def r1:=[tt 3 2 1,ca 4 111 [3],so 2 1 4]
def r2:=[fa 5 1 0,uu 6 1 5,nt 7 6,m 8 7,g 9 8 true (.m4 1 1),g 10 8 true (.ld false 1 9),g 11 8 true (.len 10),
 g 12 8 true (.bin .gtr 11 k0),pk 13 8 12 kf,fa 14 1 0,so 1 14 13]
def r3:=[tt 15 2 1,so 2 2 15]
def c:=(s (d r0 [0]) (s (d r1 [3,4]) (s (d r2 (ra 5 10)) (s (d r3 [1,15]) .ret))))
end kJ
def kJ:AFn:=⟨1,kJ.c,[.cell 2 true 2],false⟩
namespace kC
def r0:=[bx 2 0,bx 3 1,al 4 [(.bool false),.nil]]
def r1:=[tt 5 2 2,ca 6 111 [5],tt 7 2 3,ca 8 111 [7],so 2 2 6,so 2 3 8]
def r2:=[fa 9 2 0,uu 10 1 9,fa 11 3 0,uu 12 1 11,o 13 (.beq false 10 12)]
def r3:=[fa 14 2 0,uu 15 1 14,fa 16 2 1,uu 17 1 16,fa 18 3 1,uu 19 1 18,ca 20 103 [17,19],
 o 21 (.build [(.bool false),.nil] [(0,1,15),(1,1,20)]),ca 22 111 [21],so 2 4 22]
def r4:=[fa 23 2 1,uu 24 1 23,fa 25 3 1,uu 26 1 25,ca 27 102 [24,26],bi 28 .geq 27 k0]
def r5:=[fa 29 2 0,uu 30 1 29,fa 31 2 1,uu 32 1 31,fa 33 3 1,uu 34 1 33,ca 35 104 [32,34],
 o 36 (.build [(.bool false),.nil] [(0,1,30),(1,1,35)]),ca 37 111 [36],so 2 4 37]
def r6:=[fa 38 3 0,uu 39 1 38,fa 40 3 1,uu 41 1 40,fa 42 2 1,uu 43 1 42,ca 44 104 [41,43],
 o 45 (.build [(.bool false),.nil] [(0,1,39),(1,1,44)]),ca 46 111 [45],so 2 4 46]
def c:=(s (d r0 [0,1]) (s (e r1 (ra 5 4)) (s (s (d r2 (ra 9 4)) (i 13 (s (e r3 (rl [2,3] 13 10)) .ret) .skip)) (s (s (d r4 (rl [13] 23 5)) (i 28 (s (e r5 (rl [2,3] 28 10)) .ret) .skip)) (s (e r6 (rl [2,3,28] 38 9)) .ret)))))
end kC
def kC:AFn:=⟨2,kC.c,[.cell 4 true 2],false⟩
namespace kP
def r0:=[bx 2 0,bx 3 1,al 4 [(.bool false),.nil]]
def r1:=[tt 5 2 2,tt 6 2 3,ca 7 114 [6],ca 8 115 [5,7],so 2 4 8]
def c:=(s (d r0 [0,1]) (s (e r1 [2,3,5,6,7,8]) .ret))
end kP
def kP:AFn:=⟨2,kP.c,[.cell 4 true 2],false⟩
namespace kD
def r0:=[bx 2 0,bx 3 1,mv 4 k0]
def r1:=[tt 5 2 2,tt 6 2 3,ca 7 116 [5,6],ca 8 113 [7],m 4 8]
def c:=(s (d r0 [0,1,4]) (s (d r1 [2,3,5,6,7,8]) .ret))
end kD
def kD:AFn:=⟨2,kD.c,[.tmp 4],false⟩
namespace kH
def r0:=[bx 2 0,bx 3 1,al 4 [(.bool false),.nil]]
def r1:=[fa 5 2 0,uu 6 1 5,fa 7 3 0,uu 8 1 7,o 9 (.beq true 6 8),fa 10 2 1,uu 11 1 10,fa 12 3 1,
 uu 13 1 12,ca 14 105 [11,13],o 15 (.build [(.bool false),.nil] [(0,1,9),(1,1,14)]),ca 16 111 [15],so 2 4 16]
def c:=(s (d r0 [0,1]) (s (e r1 (rl [2,3] 5 12)) .ret))
end kH
def kH:AFn:=⟨2,kH.c,[.cell 4 true 2],false⟩
namespace kE
def r0:=[bx 2 0,bx 3 1,al 4 [(.bool false),.nil],al 5 [(.bool false),.nil],mv 6 k0]
def r1:=[tt 10 2 2,ca 11 111 [10],tt 12 2 3,ca 13 111 [12],so 2 2 11,so 2 3 13]
def r2:=[fa 15 2 1,uu 16 1 15,fa 17 3 1,uu 18 1 17,ca 19 109 [16,18],m 14 19,et 20 14 0,et 21 14 1,
 et 22 14 2,m 7 20,m 8 21,m 9 22]
def r3:=[m 23 9,bi 24 .neq 23 k0]
def r4:=[o 25 (.build [(.bool false),.nil] []),o 26 (.build [(.bool false),.nil] []),m 27 9,so 2 4 25,so 2 5 26,m 6 27]
def r5:=[fa 28 2 0,uu 29 1 28,m 30 29,g 31 30 true (.y7 8),g 32 30 true (.len 31),g 33 30 true (.bin .gtr 32 k0),
 pk 34 30 33 kf]
def r6:=[m 35 7,o 36 (.a9 36 1 [(.c (.int .u32 (1)))]),ca 37 103 [35,36],fa 38 3 1,q 39 [36] (.ld false 1 38),m 40 8,
 ca 41 104 [39,40],m 7 37,m 8 41]
def r7:=[fa 42 2 0,uu 43 1 42,fa 44 3 0,uu 45 1 44,o 46 (.beq true 43 45),m 47 7,
 o 48 (.build [(.bool false),.nil] [(0,1,46),(1,1,47)]),ca 49 111 [48],m 50 8,o 51 (.build [(.bool false),.nil] [(1,1,50)]),so 2 4 49,
 so 2 5 51,mv 6 k0]
def c:=(s (d r0 [0,1,6]) (s (e r1 (ra 10 4)) (s (d r2 (ra 14 9)) (s (s (d r3 [23]) (i 24 (s (d r4 (rl [2,3,7,8,9] 24 4)) .ret) .skip)) (s (s (d r5 (rl [9,24] 28 6)) (i 34 (e r6 (ra 34 8)) .skip)) (s (d r7 (rl [2,3,7,8,34] 42 10)) .ret))))))
end kE
def kE:AFn:=⟨2,kE.c,[.cell 4 true 2,.cell 5 true 2,.tmp 6],false⟩
namespace kF
def r0:=[bx 2 0,bx 3 1,al 4 [(.bool false),.nil]]
def r1:=[fa 5 2 1,uu 6 1 5,fa 7 3 1,uu 8 1 7,ca 9 110 [6,8],o 10 (.build [(.bool false),.nil] [(1,1,9)]),
 so 2 4 10]
def c:=(s (d r0 [0,1]) (s (d r1 (rl [2,3] 5 6)) .ret))
end kF
def kF:AFn:=⟨2,kF.c,[.cell 4 true 2],false⟩
namespace ZB
def r0:=[bx 2 0,bx 3 1,al 4 z3]
def r1:=[tt 12 2 2,ca 13 113 [12],bi 14 .eql 13 k0,m 15 14,g 16 15 false (.ld true 2 3),g 17 15 false (.call 113 [16]),
 g 18 15 false (.bin .eql 17 k0),pk 19 15 kt 18]
def r2:=[o 20 (.a9 20 1 [(.c (.int .u32 (1)))]),o 21 (.build z3 [(2,1,20)]),so 3 4 21]
def r3:=[tt 22 2 2,tt 23 2 3,ca 24 120 [22,23],al 5 [(.bool false),.nil],so 2 5 24]
def r4:=[tt 26 2 2,tt 27 2 5,ca 28 119 [26,27],m 25 28,et 29 25 0,et 30 25 1,et 31 25 2,
 al 6 [(.bool false),.nil],al 7 [(.bool false),.nil],so 2 6 29,so 2 7 30,m 8 31]
def r5:=[tt 33 2 3,tt 34 2 5,ca 35 119 [33,34],m 32 35,et 36 32 0,et 37 32 1,et 38 32 2,
 al 9 [(.bool false),.nil],al 10 [(.bool false),.nil],so 2 9 36,so 2 10 37,m 11 38]
def r6:=[fa 39 9 0,uu 40 1 39]
def r7:=[tt 41 2 6,ca 42 114 [41],so 2 6 42]
def r8:=[tt 43 2 6,fa 44 9 1,uu 45 1 44,o 46 (.build z3 [(0,2,43),(2,1,45)]),so 3 4 46]
def c:=(s (d r0 [0,1]) (s (s (d r1 (ra 12 7)) (i 19 (s (d r2 [2,3,19,20,21]) .ret) .skip)) (s (d r3 [19,22,23,24]) (s (d r4 (rl [2,7,8] 25 7)) (s (d r5 (rl [3,5,10,11] 32 7)) (s (s (d r6 [39]) (i 40 (d r7 [40,41,42]) .skip)) (s (d r8 (rl [6,9,40] 43 4)) .ret)))))))
end ZB
def ZB:AFn:=⟨2,ZB.c,[.cell 4 true 3],false⟩
namespace bC
def r0:=[bx 1 0,al 2 [(.bool false),.nil],al 3 [(.bool false),.nil]]
def r1:=[fa 5 1 2,uu 6 1 5,ca 7 101 [6],o 8 (.build [(.bool false),.nil] [(1,1,7)]),al 4 [(.bool false),.nil],so 2 4 8]
def r2:=[fa 9 4 1,uu 10 1 9,ln 11 10,bi 12 .eql 11 k0]
def r3:=[o 13 (.build [(.bool false),.nil] []),o 14 (.a9 14 1 [(.c (.int .u32 (1)))]),o 15 (.build [(.bool false),.nil] [(1,1,14)]),so 2 2 13,
 so 2 3 15]
def r4:=[fa 16 1 0,tt 17 2 16,q 18 [2] (.ld true 2 4),n (.zi 2 2 2 17),so 2 3 18]
def c:=(s (d r0 [0]) (s (d r1 (ra 5 4)) (s (s (d r2 [9,10,11]) (i 12 (s (d r3 (rl [1,4] 12 4)) .ret) .skip)) (s (e r4 [1,4,12,16,17,18]) .ret))))
end bC
def bC:AFn:=⟨1,bC.c,[.cell 2 true 2,.cell 3 true 2],false⟩
namespace lG
def r0:=[bx 1 0,al 2 z3]
def r1:=[tt 6 3 1,ca 7 122 [6],m 5 7,et 8 5 0,et 9 5 1,al 3 [(.bool false),.nil],al 4 [(.bool false),.nil],
 so 2 3 8,so 2 4 9]
def r2:=[tt 10 2 3,tt 11 2 4,ca 12 121 [10,11],so 3 2 12]
def c:=(s (d r0 [0]) (s (d r1 (rl [1] 5 5)) (s (d r2 [3,4,10,11,12]) .ret)))
end lG
def lG:AFn:=⟨1,lG.c,[.cell 2 true 3],false⟩
namespace kZ
def r0:=[al 2 z3]
def r1:=[m 3 0,ca 4 112 [3],o 5 (.a9 5 1 [(.c (.int .u32 (1)))]),o 6 (.build z3 [(0,2,4),(2,1,5)]),so 3 2 6]
def c:=(s (p r0) (s (d r1 [0,3,4,5,6]) .ret))
end kZ
def kZ:AFn:=⟨1,kZ.c,[.cell 2 true 3],false⟩
namespace kV
def r0:=[al 4 z3]
def r1:=[m 5 0,ca 6 112 [5],m 7 1,ca 8 112 [7],ca 9 121 [6,8],so 3 4 9]
def c:=(s (p r0) (s (d r1 (rl [0,1] 5 5)) .ret))
end kV
def kV:AFn:=⟨2,kV.c,[.cell 4 true 3],false⟩
namespace kS
def r0:=[bx 2 0,bx 3 1,al 4 z3]
def r1:=[tt 10 3 2,ca 11 122 [10],m 9 11,et 12 9 0,et 13 9 1,al 5 [(.bool false),.nil],
 al 6 [(.bool false),.nil],so 2 5 12,so 2 6 13]
def r2:=[tt 15 3 3,ca 16 122 [15],m 14 16,et 17 14 0,et 18 14 1,al 7 [(.bool false),.nil],
 al 8 [(.bool false),.nil],so 2 7 17,so 2 8 18]
def r3:=[tt 19 2 5,tt 20 2 8,ca 21 118 [19,20],tt 22 2 7,tt 23 2 6,ca 24 118 [22,23],
 ca 25 115 [21,24],tt 26 2 6,tt 27 2 8,ca 28 118 [26,27],ca 29 121 [25,28],so 3 4 29]
def c:=(s (d r0 [0,1]) (s (d r1 (rl [2] 9 5)) (s (d r2 (rl [3] 14 5)) (s (e r3 (rl [5,6,7,8] 19 11)) .ret))))
end kS
def kS:AFn:=⟨2,kS.c,[.cell 4 true 3],false⟩
namespace kT
def r0:=[bx 2 0,bx 3 1,mv 4 k0]
def r1:=[tt 10 3 2,ca 11 122 [10],m 9 11,et 12 9 0,et 13 9 1,al 5 [(.bool false),.nil],
 al 6 [(.bool false),.nil],so 2 5 12,so 2 6 13]
def r2:=[tt 15 3 3,ca 16 122 [15],m 14 16,et 17 14 0,et 18 14 1,al 7 [(.bool false),.nil],
 al 8 [(.bool false),.nil],so 2 7 17,so 2 8 18]
def r3:=[tt 19 2 5,tt 20 2 8,ca 21 118 [19,20],tt 22 2 7,tt 23 2 6,ca 24 118 [22,23],
 ca 25 117 [21,24],m 4 25]
def c:=(s (d r0 [0,1,4]) (s (d r1 (rl [2] 9 5)) (s (d r2 (rl [3] 14 5)) (s (e r3 (rl [5,6,7,8] 19 7)) .ret))))
end kT
def kT:AFn:=⟨2,kT.c,[.tmp 4],false⟩
namespace kX
def r0:=[bx 2 0,bx 3 1,al 4 z3]
def r1:=[tt 10 3 2,ca 11 122 [10],m 9 11,et 12 9 0,et 13 9 1,al 5 [(.bool false),.nil],
 al 6 [(.bool false),.nil],so 2 5 12,so 2 6 13]
def r2:=[tt 15 3 3,ca 16 122 [15],m 14 16,et 17 14 0,et 18 14 1,al 7 [(.bool false),.nil],
 al 8 [(.bool false),.nil],so 2 7 17,so 2 8 18]
def r3:=[tt 19 2 5,tt 20 2 7,ca 21 118 [19,20],tt 22 2 6,tt 23 2 8,ca 24 118 [22,23],
 ca 25 121 [21,24],so 3 4 25]
def c:=(s (d r0 [0,1]) (s (d r1 (rl [2] 9 5)) (s (d r2 (rl [3] 14 5)) (s (e r3 (rl [5,6,7,8] 19 7)) .ret))))
end kX
def kX:AFn:=⟨2,kX.c,[.cell 4 true 3],false⟩
structure a8 (L:Lib):Prop where
 XA:L 101=some F.XA
 jP:L 102=some F.jP
 jN:L 103=some F.jN
 aC:L 104=some F.aC
 jT:L 105=some F.jT
 jO:L 106=some F.jO
 Y9:L 107=some F.Y9
 jV:L 108=some F.jV
 KT:L 109=some F.KT
 jR:L 110=some F.jR
 kQ:L 111=some F.kQ
 kK:L 112=some F.kK
 kM:L 113=some F.kM
 kJ:L 114=some F.kJ
 kC:L 115=some F.kC
 kP:L 116=some F.kP
 kD:L 117=some F.kD
 kH:L 118=some F.kH
 kE:L 119=some F.kE
 kF:L 120=some F.kF
 ZB:L 121=some F.ZB
 bC:L 122=some F.bC
 lG:L 123=some F.lG
 kZ:L 124=some F.kZ
 kV:L 125=some F.kV
 kS:L 126=some F.kS
 kT:L 127=some F.kT
 kX:L 128=some F.kX
end Go.c9.F

namespace Go.c9.F
open C
namespace gI
def r0:=[bx 1 0,mv 2 kf]
def r1:=[fa 6 1 0,uu 7 1 6,ln 8 7,m 3 8]
def r2:=[m 9 3,bi 10 .gtr 9 (k 64),m 11 10,g 12 11 false (.m4 1 1),g 13 11 false (.ld false 1 12),g 14 11 false (.len 13),g 15 11 false (.y7 3),
 g 16 11 false (.bin .neq 14 15),pk 17 11 kt 16,m 18 17,g 19 18 false (.m4 1 2),g 20 18 false (.ld false 1 19),
 g 21 18 false (.len 20),g 22 18 false (.y7 3),g 23 18 false (.bin .neq 21 22),pk 24 18 kt 23]
def r3:=[mv 2 kf]
def r4:=[fa 25 1 0,uu 26 1 25,ln 27 26,mv 28 k0]
def r5:=[ls 29 28 27]
def r6:=[ia 30 1 26 28,uu 31 1 30,m 5 31]
def r7:=[m 32 5,ln 33 32,m 34 3,bi 35 .neq 33 34]
def r8:=[mv 2 kf]
def r9:=[ad 36 28 k1,m 28 36]
def F2:=[mv 2 kt]
def l1:=(s (p r5) (s (i 29 .skip (x 0)) (s (b 1 (s (d r6 [29,30,31]) (s (d r7 [5,32,33,34]) (i 35 (s (d r8 [3,26,27,28,35]) .ret) .skip)))) (d r9 [35,36]))))
def c:=(s (d r0 [0,2]) (s (d r1 [6,7,8]) (s (s (d r2 (ra 9 15)) (i 24 (s (d r3 [1,3,24]) .ret) .skip)) (s (s (d r4 [1,24,25]) (b 0 (w l1))) (s (d F2 (rl [3] 26 4)) .ret)))))
end gI
def gI:AFn:=⟨1,gI.c,[.tmp 2],false⟩
namespace lY
def r0:=[mv 4 (.c .nil)]
def r1:=[o 5 (.gj 5 3)]
def r2:=[mv 6 k0]
def r3:=[m 7 6,m 8 0,ls 9 7 8]
def r5:=[m 12 6,m 13 1,bi 14 .eql 12 13]
def r6:=[m 15 5,ca 16 124 [k1],o 17 (.a9 17 3 [16]),o 18 (.app 18 3 56 15 17),m 5 18]
def r7:=[m 19 5,ca 20 124 [k0],o 21 (.a9 21 3 [20]),o 22 (.app 22 3 56 19 21),m 5 22]
def r4:=[m 10 6,ad 11 10 k1,m 6 11]
def r8:=[m 23 5,m 4 23]
def l1:=(s (s (d r3 [7,8]) (i 9 .skip (x 0))) (s (b 1 (s (d r5 [9,12,13]) (i 14 (d r6 (ra 14 5)) (d r7 (rl [14] 19 4))))) (d r4 [10,11])))
def c:=(s (d r0 [4]) (s (p r1) (s (s (p r2) (b 0 (w l1))) (s (d r8 [0,1,5,6,9,23]) .ret))))
end lY
def lY:AFn:=⟨2,lY.c,[.tmp 4],false⟩
namespace lR
def r0:=[bx 1 0,mv 2 kf]
def r1:=[fa 5 1 0,uu 6 1 5,ln 7 6,m 3 7]
def r2:=[m 8 3,bi 9 .gtr 8 (k 64),m 10 9,g 11 10 false (.m4 1 1),g 12 10 false (.ld false 1 11),g 13 10 false (.len 12),g 14 10 false (.y7 3),
 g 15 10 false (.bin .neq 13 14),pk 16 10 kt 15,m 17 16,g 18 17 false (.m4 1 2),g 19 17 false (.ld false 1 18),
 g 20 17 false (.len 19),g 21 17 false (.y7 3),g 22 17 false (.bin .neq 20 21),pk 23 17 kt 22]
def r3:=[mv 2 kf]
def r4:=[mv 4 k0]
def r5:=[m 24 4,m 25 3,ls 26 24 25]
def r7:=[fa 29 1 0,uu 30 1 29,m 31 4,ia 32 1 30 31,uu 33 1 32,ln 34 33,m 35 3,bi 36 .neq 34 35]
def r8:=[mv 2 kf]
def r6:=[m 27 4,ad 28 27 k1,m 4 28]
def r9:=[mv 2 kt]
def l1:=(s (s (d r5 [24,25]) (i 26 .skip (x 0))) (s (b 1 (s (d r7 (rl [26] 29 7)) (i 36 (s (d r8 [1,3,4,36]) .ret) .skip))) (d r6 [27,28,36])))
def c:=(s (d r0 [0,2]) (s (d r1 [5,6,7]) (s (s (d r2 (ra 8 15)) (i 23 (s (d r3 [1,3,23]) .ret) .skip)) (s (s (d r4 [23]) (b 0 (w l1))) (s (d r9 [1,3,4,26]) .ret)))))
end lR
def lR:AFn:=⟨1,lR.c,[.tmp 2],false⟩
namespace lO
def r0:=[al 4 z3]
def r1:=[ca 7 124 [k0],al 5 z3,so 3 5 7]
def r2:=[mv 6 k0]
def r3:=[m 8 6,m 9 0,ln 10 9,ls 11 8 10]
def r5:=[tt 14 3 5,m 15 0,m 16 6,ia 17 3 15 16,tt 18 3 17,m 19 1,m 20 6,ia 21 3 19 20,tt 22 3 21,
 ca 23 128 [18,22],ca 24 126 [14,23],so 3 5 24]
def r4:=[m 12 6,ad 13 12 k1,m 6 13]
def r6:=[tt 25 3 5,so 3 4 25]
def l1:=(s (s (d r3 [8,9,10]) (i 11 .skip (x 0))) (s (b 1 (e r5 (rl [11] 14 11))) (d r4 [12,13])))
def c:=(s (p r0) (s (d r1 [7]) (s (s (p r2) (b 0 (w l1))) (s (d r6 [0,1,5,6,11,25]) .ret))))
end lO
def lO:AFn:=⟨2,lO.c,[.cell 4 true 3],false⟩
namespace lS
def r0:=[mv 4 (.c .nil)]
def r1:=[o 5 (.gj 138005 3)]
def r2:=[mv 6 k0]
def r3:=[m 7 6,m 8 0,ln 9 8,ls 10 7 9]
def r5:=[m 13 5,m 14 0,m 15 6,ia 16 1 14 15,uu 17 1 16,m 18 1,ca 19 137 [17,18],o 20 (.a9 138020 3 [19]),
 o 21 (.app 138021 3 56 13 20),m 5 21]
def r4:=[m 11 6,ad 12 11 k1,m 6 12]
def r6:=[m 22 5,m 4 22]
def l1:=(s (s (d r3 [7,8,9]) (i 10 .skip (x 0))) (s (b 1 (d r5 (rl [10] 13 9))) (d r4 [11,12])))
def c:=(s (d r0 [4]) (s (p r1) (s (s (p r2) (b 0 (w l1))) (s (d r6 [0,1,5,6,10,22]) .ret))))
end lS
def lS:AFn:=⟨2,lS.c,[.tmp 4],false⟩
structure dn (L:Lib):Prop extends a7 L,a8 L where
 gI:L 130=some F.gI
 lY:L 135=some F.lY
 lR:L 136=some F.lR
 lO:L 137=some F.lO
 lS:L 138=some F.lS
end Go.c9.F

namespace Go.c9.F
open C
namespace eB
def r0:=[mv 2 kf]
def r1:=[m 3 0,bi 4 .geq 3 k1,m 5 4,g 6 5 true (.y7 0),g 7 5 true (.bin .leq 6 (k 3)),pk 8 5 7 kf,m 2 8]
def c:=(s (d r0 [2]) (s (d r1 (rl [0] 3 6)) .ret))
end eB
def eB:AFn:=⟨1,eB.c,[.tmp 2],false⟩
namespace eA
def r0:=[bx 1 0,mv 2 kf]
def r1:=[fa 3 1 0,uu 4 1 3,ls 5 4 (k 4),m 6 5,g 7 6 false (.m4 1 0),g 8 6 false (.ld false 1 7),g 9 6 false (.bin .gtr 8 (k 24)),
 pk 10 6 kt 9,m 11 10,g 12 11 false (.m4 1 1),g 13 11 false (.ld false 1 12),g 14 11 false (.bin .lss 13 k0),
 pk 15 11 kt 14,m 16 15,g 17 16 false (.m4 1 1),g 18 16 false (.ld false 1 17),g 19 16 false (.m4 1 0),
 g 20 16 false (.ld false 1 19),g 21 16 false (.bin .geq 18 20),pk 22 16 kt 21]
def r2:=[mv 2 kf]
def r3:=[fa 23 1 2,uu 24 1 23,ca 25 1 [24],m 26 25,g 27 26 true (.m4 1 3),g 28 26 true (.ld false 1 27),
 g 29 26 true (.bin .eql 28 k1),g 30 26 true (.y7 29),g 31 30 false (.m4 1 3),g 32 30 false (.ld false 1 31),g 33 30 false (.bin .eql 32 (k 2)),
 g 34 26 true (.pick 30 kt 33),pk 35 26 34 kf,m 2 35]
def c:=(s (d r0 [0,2]) (s (s (d r1 (ra 3 19)) (i 22 (s (d r2 [1,22]) .ret) .skip)) (s (d r3 (rl [1] 22 14)) .ret)))
end eA
def eA:AFn:=⟨1,eA.c,[.tmp 2],false⟩
namespace dZ
def r0:=[bx 1 0,mv 2 k0]
def r1:=[tt 3 4 1,ca 4 2 [3],nt 5 4]
def r2:=[mv 2 k0]
def r3:=[fa 6 1 0,uu 7 1 6,sb 8 7 k1,bi 9 .shl k1 8,o 10 (.un .neg 9),m 2 10]
def c:=(s (d r0 [0,2]) (s (s (d r1 [3,4]) (i 5 (s (d r2 [1,5]) .ret) .skip)) (s (d r3 (rl [1] 5 6)) .ret)))
end dZ
def dZ:AFn:=⟨1,dZ.c,[.tmp 2],false⟩
namespace dY
def r0:=[bx 1 0,mv 2 k0]
def r1:=[tt 3 4 1,ca 4 2 [3],nt 5 4]
def r2:=[mv 2 k0]
def r3:=[fa 6 1 0,uu 7 1 6,sb 8 7 k1,bi 9 .shl k1 8,sb 10 9 k1,m 2 10]
def c:=(s (d r0 [0,2]) (s (s (d r1 [3,4]) (i 5 (s (d r2 [1,5]) .ret) .skip)) (s (d r3 (rl [1] 5 6)) .ret)))
end dY
def dY:AFn:=⟨1,dY.c,[.tmp 2],false⟩
namespace dX
def r0:=[bx 2 0,mv 4 kf]
def r1:=[tt 5 4 2,ca 6 2 [5],m 7 6,g 8 7 true (.y7 1),g 9 7 true (.ld true 4 2),g 10 7 true (.call 3 [9]),g 11 7 true (.bin .geq 8 10),
 pk 12 7 11 kf,m 13 12,g 14 13 true (.y7 1),g 15 13 true (.ld true 4 2),g 16 13 true (.call 4 [15]),g 17 13 true (.bin .leq 14 16),
 pk 18 13 17 kf,m 4 18]
def c:=(s (d r0 [0,4]) (s (d r1 (rl [1,2] 5 14)) .ret))
end dX
def dX:AFn:=⟨2,dX.c,[.tmp 4],false⟩
namespace lJ
def r0:=[mv 6 kf]
def r1:=[m 7 0,m 8 1,bi 9 .geq 7 8,m 10 9,g 11 10 true (.y7 0),g 12 10 true (.y7 2),g 13 10 true (.bin .leq 11 12),pk 14 10 13 kf,
 m 6 14]
def c:=(s (d r0 [6]) (s (d r1 (rl [0,1,2] 7 8)) .ret))
end lJ
def lJ:AFn:=⟨3,lJ.c,[.tmp 6],false⟩
namespace lM
def r0:=[bx 1 0,mv 2 kf]
def r1:=[fa 3 1 0,uu 4 1 3,ca 5 10 [4,(k 4),(k 24)],m 6 5,g 7 6 true (.m4 1 1),g 8 6 true (.ld false 1 7),g 9 6 true (.m4 1 0),
 g 10 6 true (.ld false 1 9),g 11 6 true (.bin .sub 10 k1),g 12 6 true (.call 10 [8,k0,11]),pk 13 6 12 kf,m 14 13,
 g 15 14 true (.m4 1 2),g 16 14 true (.ld false 1 15),g 17 14 true (.call 10 [16,k1,(k 3)]),pk 18 14 17 kf,m 19 18,
 g 20 19 true (.m4 1 3),g 21 19 true (.ld false 1 20),g 22 19 true (.call 10 [21,k1,(k 2)]),pk 23 19 22 kf,m 2 23]
def c:=(s (d r0 [0,2]) (s (d r1 (rl [1] 3 21)) .ret))
end lM
def lM:AFn:=⟨1,lM.c,[.tmp 2],false⟩
namespace lL
def r0:=[bx 1 0,mv 2 k0]
def r1:=[tt 3 4 1,ca 4 11 [3],nt 5 4]
def r2:=[mv 2 k0]
def r3:=[fa 6 1 0,uu 7 1 6,sb 8 7 k1,cu 9 8,bi 10 .shl k1 9,o 11 (.un .neg 10),m 2 11]
def c:=(s (d r0 [0,2]) (s (s (d r1 [3,4]) (i 5 (s (d r2 [1,5]) .ret) .skip)) (s (d r3 (rl [1] 5 7)) .ret)))
end lL
def lL:AFn:=⟨1,lL.c,[.tmp 2],false⟩
namespace lI
def r0:=[bx 1 0,mv 2 k0]
def r1:=[tt 3 4 1,ca 4 11 [3],nt 5 4]
def r2:=[mv 2 k0]
def r3:=[fa 6 1 0,uu 7 1 6,sb 8 7 k1,cu 9 8,bi 10 .shl k1 9,sb 11 10 k1,m 2 11]
def c:=(s (d r0 [0,2]) (s (s (d r1 [3,4]) (i 5 (s (d r2 [1,5]) .ret) .skip)) (s (d r3 (rl [1] 5 7)) .ret)))
end lI
def lI:AFn:=⟨1,lI.c,[.tmp 2],false⟩
namespace lH
def r0:=[bx 2 0,mv 4 kf]
def r1:=[tt 5 4 2,ca 6 11 [5],m 7 6,g 8 7 true (.y7 1),g 9 7 true (.ld true 4 2),g 10 7 true (.call 12 [9]),g 11 7 true (.ld true 4 2),
 g 12 7 true (.call 13 [11]),g 13 7 true (.call 10 [8,10,12]),pk 14 7 13 kf,m 4 14]
def c:=(s (d r0 [0,4]) (s (e r1 (rl [1,2] 5 10)) .ret))
end lH
def lH:AFn:=⟨2,lH.c,[.tmp 4],false⟩
structure e8 (L:Lib):Prop where
 eB:L 1=some F.eB
 eA:L 2=some F.eA
 dZ:L 3=some F.dZ
 dY:L 4=some F.dY
 dX:L 5=some F.dX
 lJ:L 10=some F.lJ
 lM:L 11=some F.lM
 lL:L 12=some F.lL
 lI:L 13=some F.lI
 lH:L 14=some F.lH
end Go.c9.F

namespace Go.c9.F
open C
namespace gJ
def r0:=[bx 1 0,mv 2 kf]
def r1:=[fa 10 1 0,tt 11 4 10,ca 12 2 [11],nt 13 12,m 14 13,g 15 14 false (.m4 1 4),g 16 14 false (.ld true 4 15),
 g 17 14 false (.call 2 [16]),g 18 14 false (.un .not 17),pk 19 14 kt 18]
def r2:=[mv 2 kf]
def r3:=[fa 20 1 8,uu 21 1 20,ls 22 21 k0,m 23 22,g 24 23 false (.m4 1 8),g 25 23 false (.ld false 1 24),
 g 26 23 false (.bin .gtr 25 (k 64)),pk 27 23 kt 26,m 28 27,g 29 28 false (.m4 1 9),g 30 28 false (.ld false 1 29),
 g 31 28 false (.len 30),g 32 28 false (.bin .gtr 31 (k 64)),pk 33 28 kt 32,m 34 33,g 35 34 false (.m4 1 10),
 g 36 34 false (.ld false 1 35),g 37 34 false (.len 36),g 38 34 false (.m4 1 8),g 39 34 false (.ld false 1 38),g 40 34 false (.bin .neq 37 39),
 pk 41 34 kt 40]
def r4:=[mv 2 kf]
def r5:=[fa 42 1 9,uu 43 1 42,ln 44 43,mv 45 k0]
def r6:=[ls 46 45 44]
def r7:=[m 47 45,ia 48 1 43 45,tt 49 1 48,al 4 [.nil],m 3 47,so 1 4 49]
def r8:=[fa 50 4 0,uu 51 1 50,ln 52 51,bi 53 .gtr 52 (k 64)]
def r9:=[mv 2 kf]
def F2:=[fa 54 4 0,uu 55 1 54,ln 56 55,mv 57 k0]
def GC:=[ls 58 57 56]
def aj:=[ia 59 2 55 57,tt 60 2 59,al 6 [z,z],so 2 6 60]
def HC:=[fa 61 6 0,uu 62 1 61,ls 63 62 k0,m 64 63,g 65 64 false (.m4 6 0),g 66 64 false (.ld false 1 65),
 g 67 64 false (.m4 1 8),g 68 64 false (.ld false 1 67),g 69 64 false (.y7 3),g 70 64 false (.bin .add 68 69),g 71 64 false (.bin .gtr 66 70),
 pk 72 64 kt 71]
def dp:=[mv 2 kf]
def dz:=[fa 73 6 1,uu 74 1 73,fa 75 1 4,fa 76 75 1,uu 77 1 76,bi 78 .shl k1 77,bi 79 .neq 74 78,m 80 79,
 g 81 80 true (.m4 1 4),g 82 80 true (.ld true 4 81),g 83 80 true (.m4 6 1),g 84 80 true (.ld false 1 83),g 85 80 true (.call 5 [82,84]),
 g 86 80 true (.un .not 85),pk 87 80 86 kf]
def fm:=[mv 2 kf]
def JG:=[ad 88 57 k1,m 57 88]
def ib:=[ad 89 45 k1,m 45 89]
def je:=[fa 90 1 8,uu 91 1 90,fa 92 1 9,uu 93 1 92,ln 94 93,ad 95 91 94,m 7 95]
def js:=[fa 96 1 10,uu 97 1 96,ln 98 97,mv 99 k0]
def ov:=[ls 100 99 98]
def qm:=[ia 101 1 97 99,uu 102 1 101,m 9 102]
def sz:=[m 103 9,ls 104 103 k0,m 105 104,g 106 105 false (.y7 9),g 107 105 false (.y7 7),g 108 105 false (.bin .gtr 106 107),
 pk 109 105 kt 108]
def W8:=[mv 2 kf]
def aW:=[ad 110 99 k1,m 99 110]
def uR:=[fa 111 1 11,uu 112 1 111,bi 113 .geq 112 k0,m 114 113,g 115 114 true (.m4 1 11),g 116 114 true (.ld false 1 115),
 g 117 114 true (.y7 7),g 118 114 true (.bin .leq 116 117),pk 119 114 118 kf,m 2 119]
def l2:=(s (p GC) (s (i 58 .skip (x 2)) (s (b 3 (s (d aj [58,59,60]) (s (s (d HC (ra 61 11)) (i 72 (s (d dp [1,3,6,43,44,45,55,56,57,72]) .ret) .skip)) (s (e dz (rl [6] 72 15)) (i 87 (s (d fm [1,3,43,44,45,55,56,57,87]) .ret) .skip))))) (d JG [87,88]))))
def l1:=(s (p r6) (s (i 46 .skip (x 0)) (s (b 1 (s (d r7 (ra 46 4)) (s (s (d r8 [50,51,52]) (i 53 (s (d r9 [1,3,4,43,44,45,53]) .ret) .skip)) (s (d F2 [4,53,54]) (b 2 (w l2)))))) (d ib [3,55,56,57,58,89]))))
def l3:=(s (p ov) (s (i 100 .skip (x 4)) (s (b 5 (s (d qm [100,101,102]) (s (d sz (rl [9] 103 6)) (i 109 (s (d W8 [1,7,97,98,99,109]) .ret) .skip)))) (d aW [109,110]))))
def c:=(s (d r0 [0,2]) (s (s (d r1 (ra 10 9)) (i 19 (s (d r2 [1,19]) .ret) .skip)) (s (s (d r3 (ra 19 22)) (i 41 (s (d r4 [1,41]) .ret) .skip)) (s (s (d r5 [41,42]) (b 0 (w l1))) (s (d je (rl [43,44,45,46] 90 6)) (s (s (d js [96]) (b 4 (w l3))) (s (d uR (rl [1,7,97,98,99,100] 111 9)) .ret)))))))
end gJ
def gJ:AFn:=⟨1,gJ.c,[.tmp 2],false⟩
namespace lT
def r0:=[bx 1 0,mv 2 kf]
def r1:=[fa 8 1 0,tt 9 4 8,ca 10 11 [9],nt 11 10,m 12 11,g 13 12 false (.m4 1 4),g 14 12 false (.ld true 4 13),
 g 15 12 false (.call 11 [14]),g 16 12 false (.un .not 15),pk 17 12 kt 16,m 18 17,g 19 18 false (.m4 1 8),
 g 20 18 false (.ld false 1 19),g 21 18 false (.call 10 [20,k0,(k 64)]),g 22 18 false (.un .not 21),pk 23 18 kt 22,m 24 23,
 g 25 24 false (.m4 1 9),g 26 24 false (.ld false 1 25),g 27 24 false (.len 26),g 28 24 false (.bin .gtr 27 (k 64)),pk 29 24 kt 28,
 m 30 29,g 31 30 false (.m4 1 10),g 32 30 false (.ld false 1 31),g 33 30 false (.len 32),g 34 30 false (.m4 1 8),g 35 30 false (.ld false 1 34),
 g 36 30 false (.bin .neq 33 35),pk 37 30 kt 36]
def r2:=[mv 2 kf]
def r3:=[mv 3 k0]
def r4:=[m 38 3,fa 39 1 9,uu 40 1 39,ln 41 40,ls 42 38 41]
def r6:=[fa 45 1 9,uu 46 1 45,m 47 3,ia 48 1 46 47,fa 49 48 0,uu 50 1 49,ln 51 50,
 bi 52 .gtr 51 (k 64)]
def r7:=[mv 2 kf]
def r8:=[mv 4 k0]
def r9:=[m 53 4,fa 54 1 9,uu 55 1 54,m 56 3,ia 57 1 55 56,fa 58 57 0,uu 59 1 58,ln 60 59,
 ls 61 53 60]
def GC:=[fa 64 1 9,uu 65 1 64,m 66 3,ia 67 1 65 66,fa 68 67 0,uu 69 1 68,m 70 4,ia 71 2 69 70,
 tt 72 2 71,al 5 [z,z],so 2 5 72]
def aj:=[fa 73 5 0,uu 74 1 73,fa 75 1 8,uu 76 1 75,m 77 3,ad 78 76 77,ca 79 10 [74,k0,78],
 nt 80 79,m 81 80,g 82 81 false (.m4 1 4),g 83 81 false (.ld true 4 82),g 84 81 false (.m4 5 1),g 85 81 false (.ld false 1 84),
 g 86 81 false (.call 14 [83,85]),g 87 81 false (.un .not 86),g 88 81 false (.y7 87),g 89 88 true (.m4 5 1),g 90 88 true (.ld false 1 89),
 g 91 88 true (.m4 1 4),g 92 88 true (.m4 91 1),g 93 88 true (.ld false 1 92),g 94 88 true (.conv .u64 93),g 95 88 true (.bin .shl k1 94),
 g 96 88 true (.bin .neq 90 95),g 97 81 false (.pick 88 96 kf),pk 98 81 kt 97]
def HC:=[mv 2 kf]
def F2:=[m 62 4,ad 63 62 k1,m 4 63]
def r5:=[m 43 3,ad 44 43 k1,m 3 44]
def dp:=[fa 99 1 8,uu 100 1 99,fa 101 1 9,uu 102 1 101,ln 103 102,ad 104 100 103,m 6 104]
def dz:=[mv 7 k0]
def fm:=[m 105 7,fa 106 1 8,uu 107 1 106,ls 108 105 107]
def ib:=[fa 111 1 10,uu 112 1 111,m 113 7,ia 114 1 112 113,uu 115 1 114,m 116 6,ca 117 10 [115,k0,116],
 nt 118 117]
def je:=[mv 2 kf]
def JG:=[m 109 7,ad 110 109 k1,m 7 110]
def js:=[fa 119 1 11,uu 120 1 119,m 121 6,ca 122 10 [120,k0,121],m 2 122]
def l2:=(s (s (d r9 (ra 53 8)) (i 61 .skip (x 2))) (s (b 3 (s (d GC (rl [61] 64 9)) (s (d aj (rl [5] 73 25)) (i 98 (s (d HC [1,3,4,98]) .ret) .skip)))) (d F2 [62,63,98])))
def l1:=(s (s (d r4 (ra 38 4)) (i 42 .skip (x 0))) (s (b 1 (s (s (d r6 (rl [42] 45 7)) (i 52 (s (d r7 [1,3,52]) .ret) .skip)) (s (d r8 [52]) (b 2 (w l2))))) (d r5 [4,43,44,61])))
def l3:=(s (s (d fm [105,106,107]) (i 108 .skip (x 4))) (s (b 5 (s (d ib (rl [108] 111 7)) (i 118 (s (d je [1,6,7,118]) .ret) .skip))) (d JG [109,110,118])))
def c:=(s (d r0 [0,2]) (s (s (d r1 (ra 8 29)) (i 37 (s (d r2 [1,37]) .ret) .skip)) (s (s (d r3 [37]) (b 0 (w l1))) (s (d dp (rl [3,42] 99 6)) (s (s (p dz) (b 4 (w l3))) (s (d js (rl [1,6,7,108] 119 4)) .ret))))))
end lT
def lT:AFn:=⟨1,lT.c,[.tmp 2],false⟩
structure ff (L:Lib):Prop extends e8 L where
 gJ:L 21=some F.gJ
 lT:L 27=some F.lT
end Go.c9.F

namespace Go.c9.F
open C
structure ug (L:Lib):Prop extends dn L,ff L where
end Go.c9.F

namespace Go.c9.F
open C
namespace jI
def r0:=[bx 1 0,al 2 z3]
def r1:=[fa 3 1 0,fa 4 3 0,uu 5 1 4,nt 6 5,fa 7 1 0,fa 8 7 1,uu 9 1 8,
 o 10 (.build [(.bool false),.nil] [(0,1,6),(1,1,9)]),fa 11 1 2,uu 12 1 11,
 o 13 (.build z3 [(0,2,10),(2,1,12)]),so 3 2 13]
def c:=(s (d r0 [0]) (s (d r1 (rl [1] 3 11)) .ret))
end jI
def jI:AFn:=⟨1,jI.c,[.cell 2 true 3],false⟩
namespace jF
def r0:=[bx 2 0,bx 3 1,al 4 z3]
def r1:=[tt 5 3 2,tt 6 3 3,o 7 (.v7 149 [6]),ca 8 98 [5,7],so 3 4 8]
def c:=(s (d r0 [0,1]) (s (e r1 [2,3,5,6,7,8]) .ret))
end jF
def jF:AFn:=⟨2,jF.c,[.cell 4 true 3],false⟩
namespace jA
def r0:=[al 4 z3]
def r1:=[m 5 1,bi 6 .eql 5 k0]
def r2:=[ca 7 96 [k0],so 3 4 7]
def r3:=[m 8 0,ca 9 85 [8],m 10 1,ca 11 85 [10],o 12 (.j6 93 [9,11]),ca 13 94 [12],so 3 4 13]
def c:=(s (p r0) (s (s (d r1 [5]) (i 6 (s (d r2 [0,1,6,7]) .ret) .skip)) (s (d r3 (rl [0,1,6] 8 6)) .ret)))
end jA
def jA:AFn:=⟨2,jA.c,[.cell 4 true 3],false⟩
structure er (L:Lib):Prop extends a7 L where
 jI:L 149=some F.jI
 jF:L 150=some F.jF
 jA:L 151=some F.jA
end Go.c9.F

namespace Go.c9.F
open C
namespace iX
def r0:=[mv 2 (.c .nil)]
def r1:=[m 4 0,ln 5 4,m 3 5]
def r2:=[m 6 3,bi 7 .gtr 6 k0,m 8 7,g 9 8 true (.y7 0),g 10 8 true (.y7 3),g 11 8 true (.bin .sub 10 k1),g 12 8 true (.ch none 3 9 11),
 g 13 8 true (.ld true 3 12),g 14 8 true (.call 97 [13]),g 15 8 true (.bin .eql 14 k0),pk 16 8 15 kf]
def r3:=[m 17 3,sb 18 17 k1,m 3 18]
def r4:=[m 19 0,m 20 3,o 21 (.kv 3 19 none (some 20)),m 2 21]
def l1:=(s (s (d r2 (ra 6 10)) (i 16 .skip (x 0))) (b 1 (d r3 [16,17,18])))
def c:=(s (d r0 [2]) (s (d r1 [4,5]) (s (b 0 (w l1)) (s (d r4 [0,3,16,19,20,21]) .ret))))
end iX
def iX:AFn:=⟨1,iX.c,[.tmp 2],false⟩
structure wc (L:Lib):Prop extends a7 L where
 iX:L 169=some F.iX
end Go.c9.F

namespace Go.c9.F
open C
namespace kY
def r0:=[bx 1 0,al 2 z3]
def r1:=[tt 3 3 1,ca 4 123 [3],so 3 1 4]
def r2:=[fa 5 1 0,tt 6 2 5,ca 7 114 [6],fa 8 1 0,so 2 8 7]
def r3:=[tt 9 3 1,so 3 2 9]
def c:=(s (d r0 [0]) (s (d r1 [3,4]) (s (d r2 (ra 5 4)) (s (d r3 [1,9]) .ret))))
end kY
def kY:AFn:=⟨1,kY.c,[.cell 2 true 3],false⟩
namespace lF
def r0:=[bx 2 0,bx 3 1,al 4 z3]
def r1:=[tt 5 3 2,tt 6 3 3,ca 7 152 [6],ca 8 126 [5,7],so 3 4 8]
def c:=(s (d r0 [0,1]) (s (e r1 [2,3,5,6,7,8]) .ret))
end lF
def lF:AFn:=⟨2,lF.c,[.cell 4 true 3],false⟩
namespace kU
def r0:=[bx 2 0,bx 3 1,al 4 z3,mv 5 k0]
def r1:=[tt 11 3 2,ca 12 122 [11],m 10 12,et 13 10 0,et 14 10 1,al 6 [(.bool false),.nil],
 al 7 [(.bool false),.nil],so 2 6 13,so 2 7 14]
def r2:=[tt 16 3 3,ca 17 122 [16],m 15 17,et 18 15 0,et 19 15 1,al 8 [(.bool false),.nil],
 al 9 [(.bool false),.nil],so 2 8 18,so 2 9 19]
def r3:=[tt 20 2 8,ca 21 113 [20],bi 22 .eql 21 k0]
def r4:=[o 23 (.build z3 []),so 3 4 23,mv 5 (k 3)]
def r5:=[tt 24 2 6,tt 25 2 9,ca 26 118 [24,25],tt 27 2 7,tt 28 2 8,ca 29 118 [27,28],
 ca 30 121 [26,29],so 3 4 30,mv 5 k0]
def c:=(s (d r0 [0,1,5]) (s (d r1 (rl [2] 10 5)) (s (d r2 (rl [3] 15 5)) (s (s (d r3 [20,21]) (i 22 (s (d r4 [6,7,8,9,22,23]) .ret) .skip)) (s (e r5 (rl [6,7,8,9,22] 24 7)) .ret)))))
end kU
def kU:AFn:=⟨2,kU.c,[.cell 4 true 3,.tmp 5],false⟩
namespace lE
def r0:=[bx 1 0,mv 2 k0]
def r1:=[tt 6 3 1,ca 7 122 [6],m 5 7,et 8 5 0,et 9 5 1,al 3 [(.bool false),.nil],al 4 [(.bool false),.nil],
 so 2 3 8,so 2 4 9]
def r2:=[tt 10 2 3,ca 11 113 [10],m 2 11]
def c:=(s (d r0 [0,2]) (s (d r1 (rl [1] 4 6)) (s (d r2 [3,10,11]) .ret)))
end lE
def lE:AFn:=⟨1,lE.c,[.tmp 2],false⟩
structure dm (L:Lib):Prop extends a8 L where
 kY:L 152=some F.kY
 lF:L 153=some F.lF
 kU:L 154=some F.kU
 lE:L 155=some F.lE
end Go.c9.F

namespace Go.c9.F
open C
structure As (L:Lib):Prop extends dm L where
structure Dy (L:Lib):Prop extends ug L,er L,wc L,As L where
end Go.c9.F

namespace Go.c9.F
open C
namespace eH
def r0:=[bx 2 0,bx 3 1,mv 4 k0]
def r1:=[tt 7 2 2,ca 8 86 [7],tt 9 2 3,ca 10 86 [9],m 5 8,m 6 10]
def r2:=[m 12 5,m 13 6,ls 14 12 13,m 11 14]
def r3:=[mv 4 (k (-1))]
def r4:=[m 16 5,m 17 6,bi 18 .gtr 16 17,m 15 18]
def r5:=[mv 4 k1]
def r6:=[m 20 5,bi 21 .eql 20 (k (-1)),m 19 21]
def r7:=[fa 22 3 1,uu 23 1 22,fa 24 2 1,uu 25 1 24,ca 26 67 [23,25],m 4 26]
def r8:=[fa 27 2 1,uu 28 1 27,fa 29 3 1,uu 30 1 29,ca 31 67 [28,30],m 4 31]
def c:=(s (d r0 [0,1,4]) (s (e r1 (ra 7 4)) (s (b 0 (s (d r2 [12,13,14]) (i 11 (s (d r3 [2,3,5,6,11]) .ret) (s (d r4 [6,11,16,17,18]) (i 15 (s (d r5 [2,3,5,15]) .ret) (s (d r6 [5,15,20,21]) (i 19 (s (d r7 (rl [2,3,19] 22 5)) .ret) .skip))))))) (s (d r8 (rl [2,3,19] 27 5)) .ret))))
end eH
def eH:AFn:=⟨2,eH.c,[.tmp 4],false⟩
namespace aZ
def r0:=[bx 2 0,bx 3 1,mv 4 k0]
def r1:=[q 7 [5,6] (.ld true 3 2),q 8 [5,6] (.v7 89 [7]),q 9 [5,6] (.ld true 3 3),q 10 [5,6] (.v7 89 [9]),
 al 5 [(.bool false),.nil,.nil,(.bool false)],al 6 [(.bool false),.nil,.nil,(.bool false)],so 4 5 8,so 4 6 10]
def r2:=[fa 11 5 3,uu 12 1 11,m 13 12,g 14 13 true (.m4 6 3),g 15 13 true (.ld false 1 14),pk 16 13 15 kf]
def r3:=[fa 17 5 0,fa 18 17 0,tt 19 2 18,fa 20 6 0,fa 21 20 0,tt 22 2 21,ca 23 197 [19,22],m 4 23]
def r4:=[fa 24 5 0,fa 25 24 0,tt 26 2 25,fa 27 6 0,fa 28 27 2,uu 29 1 28,o 30 (.v7 91 [29]),
 ca 31 88 [26,30],fa 32 6 0,fa 33 32 0,tt 34 2 33,fa 35 5 0,fa 36 35 2,uu 37 1 36,
 o 38 (.v7 91 [37]),ca 39 88 [34,38],ca 40 197 [31,39],m 4 40]
def c:=(s (d r0 [0,1,4]) (s (e r1 [2,3,7,8,9,10]) (s (s (d r2 (ra 11 5)) (i 16 (s (d r3 (rl [5,6] 16 8)) .ret) .skip)) (s (e r4 (rl [5,6,16] 24 17)) .ret))))
end aZ
def aZ:AFn:=⟨2,aZ.c,[.tmp 4],false⟩
namespace jC
def r0:=[bx 1 0,al 2 z3]
def r1:=[tt 3 3 1,o 4 (.v7 149 [3]),ca 5 95 [4],so 3 2 5]
def c:=(s (d r0 [0]) (s (d r1 [1,3,4,5]) .ret))
end jC
def jC:AFn:=⟨1,jC.c,[.cell 2 true 3],false⟩
namespace iW
def r0:=[mv 2 k0]
def r1:=[m 3 0,o 4 (.j6 169 [3]),ln 5 4,sb 6 5 k1,m 2 6]
def c:=(s (d r0 [2]) (s (d r1 [0,3,4,5,6]) .ret))
end iW
def iW:AFn:=⟨1,iW.c,[.tmp 2],false⟩
namespace mJ
def r0:=[bx 1 0,mv 2 kf]
def r1:=[fa 3 1 0,uu 4 1 3,ca 5 200 [4],bi 6 .gtr 5 (k 48),m 7 6,g 8 7 false (.m4 1 1),g 9 7 false (.ld false 1 8),
 g 10 7 false (.call 200 [9]),g 11 7 false (.bin .gtr 10 (k 48)),pk 12 7 kt 11]
def r2:=[mv 2 kf]
def r3:=[fa 13 1 1,uu 14 1 13,ln 15 14,bi 16 .gtr 15 k0,m 17 16,g 18 17 true (.m4 1 1),g 19 17 true (.ld false 1 18),
 g 20 17 true (.ch none 3 19 k0),g 21 17 true (.ld true 3 20),g 22 17 true (.call 96 [k1]),g 23 17 true (.call 198 [21,22]),
 g 24 17 true (.bin .eql 23 k0),pk 25 17 24 kf,m 2 25]
def c:=(s (d r0 [0,2]) (s (s (d r1 (ra 3 9)) (i 12 (s (d r2 [1,12]) .ret) .skip)) (s (e r3 (rl [1] 12 14)) .ret)))
end mJ
def mJ:AFn:=⟨1,mJ.c,[.tmp 2],false⟩
namespace mS
def r0:=[mv 2 k0]
def r1:=[m 4 0,ln 5 4,sb 6 5 k1,m 3 6]
def r2:=[m 7 3,bi 8 .gtr 7 k0]
def r4:=[m 11 0,m 12 3,ia 13 3 11 12,tt 14 3 13,ca 15 97 [14],bi 16 .neq 15 k0]
def r5:=[m 17 3,m 2 17]
def r3:=[m 9 3,sb 10 9 k1,m 3 10]
def r6:=[mv 2 k0]
def l1:=(s (s (d r2 [7]) (i 8 .skip (x 0))) (s (b 1 (s (d r4 (rl [8] 11 5)) (i 16 (s (d r5 [0,3,16,17]) .ret) .skip))) (d r3 [9,10,16])))
def c:=(s (d r0 [2]) (s (s (d r1 [4,5,6]) (b 0 (w l1))) (s (d r6 [0,3,8]) .ret)))
end mS
def mS:AFn:=⟨1,mS.c,[.tmp 2],false⟩
namespace mR
def r0:=[al 4 z3]
def r1:=[m 5 1,m 6 0,ln 7 6,ls 8 5 7]
def r2:=[m 9 0,m 10 1,ia 11 3 9 10,tt 12 3 11,ca 13 95 [12],so 3 4 13]
def r3:=[ca 14 96 [k0],so 3 4 14]
def c:=(s (p r0) (s (s (d r1 [5,6,7]) (i 8 (s (d r2 (rl [0,1] 8 6)) .ret) .skip)) (s (d r3 [0,1,8,14]) .ret)))
end mR
def mR:AFn:=⟨2,mR.c,[.cell 4 true 3],false⟩
namespace mT
def r0:=[mv 2 (.c .nil)]
def r1:=[m 5 0,o 6 (.mk 6 3 56 z3 5 5),m 3 6]
def r2:=[m 7 0,mv 8 k0]
def r3:=[ls 9 8 7]
def r4:=[m 10 8,m 4 10]
def r5:=[m 11 3,m 12 4,ca 13 96 [k0],ia 14 3 11 12,so 3 14 13]
def r6:=[ad 15 8 k1,m 8 15]
def r7:=[m 16 3,m 2 16]
def l1:=(s (p r3) (s (i 9 .skip (x 0)) (s (b 1 (s (d r4 [9,10]) (d r5 (rl [4] 11 4)))) (d r6 [15]))))
def c:=(s (d r0 [2]) (s (d r1 [5,6]) (s (s (d r2 [0]) (b 0 (w l1))) (s (d r7 [3,7,8,9,16]) .ret))))
end mT
def mT:AFn:=⟨1,mT.c,[.tmp 2],false⟩
namespace mQ
def r0:=[bx 1 0,al 2 z6,mv 3 k0]
def r1:=[tt 10 2 1,ca 11 201 [10],nt 12 11]
def r2:=[o 13 (.build z6 []),so 6 2 13,mv 3 (k 2)]
def r3:=[fa 14 1 0,uu 15 1 14,ca 16 204 [15],fa 17 1 1,uu 18 1 17,ca 19 204 [18],o 20 (.mm true [16,19]),
 m 4 20]
def r4:=[m 21 4,bi 22 .gtr 21 (k 16)]
def r5:=[o 23 (.build z6 []),so 6 2 23,mv 3 (k 12)]
def r6:=[fa 24 1 0,uu 25 1 24,ca 26 205 [25,k0],m 27 4,o 28 (.ay 28 206 [27]),
 o 29 (.build z6 [(3,3,26),(1,1,28)]),al 5 z6,
 so 6 5 29]
def r7:=[m 30 4,bi 31 .gtr 30 k0]
def r8:=[fa 32 5 1,uu 33 1 32,ca 34 96 [k1],ia 35 3 33 k0,so 3 35 34]
def r9:=[m 36 4,mv 37 k0]
def F2:=[ls 38 37 36]
def GC:=[m 39 37,m 6 39]
def aj:=[m 40 4,o 41 (.ay 41 206 [40]),m 7 41]
def HC:=[m 42 6,bi 43 .gtr 42 k0]
def dp:=[m 44 7,m 45 6,sb 46 45 k1,ca 47 96 [k1],ia 48 3 44 46,so 3 48 47]
def dz:=[m 49 4,mv 50 k0]
def fm:=[ls 51 50 49]
def JG:=[m 52 50,m 8 52]
def ib:=[m 53 7,m 54 8,fa 55 1 1,uu 56 1 55,m 57 8,ad 58 57 k1,ca 59 205 [56,58],ca 60 199 [59],
 ia 61 3 53 54,so 3 61 60]
def je:=[ad 62 50 k1,m 50 62]
def js:=[fa 63 5 0,uu 64 1 63,m 65 7,o 66 (.a9 66 1 [65]),o 67 (.app 67 1 24 64 66),fa 68 5 0,so 1 68 67]
def ov:=[fa 69 1 0,q 70 [9] (.ld false 1 69),q 71 [9] (.call 205 [70,k0]),fa 72 1 1,q 73 [9] (.ld false 1 72),
 m 74 6,ad 75 74 k1,q 76 [9] (.call 205 [73,75]),q 77 [9] (.call 99 [71,76]),
 al 9 z3,so 3 9 77]
def qm:=[fa 78 5 2,q 79 [87] (.ld false 1 78),fa 80 1 0,uu 81 1 80,m 82 6,ad 83 82 k1,ca 84 205 [81,83],
 tt 85 3 9,ca 86 150 [84,85],o 87 (.a9 87 3 [86]),o 88 (.app 88 3 56 79 87),fa 89 5 2,so 1 89 88]
def sz:=[ad 90 37 k1,m 37 90]
def W8:=[tt 91 6 5,so 6 2 91,mv 3 k0]
def l2:=(s (p fm) (s (i 51 .skip (x 2)) (s (b 3 (s (d JG [51,52]) (d ib (rl [8] 53 9)))) (d je [62]))))
def l1:=(s (p F2) (s (i 38 .skip (x 0)) (s (b 1 (s (d GC [38,39]) (s (d aj [40,41]) (s (s (d HC [42]) (i 43 (d dp (ra 43 6)) (s (d dz [43]) (b 2 (w l2))))) (s (d js (rl [7,49,50,51] 63 6)) (s (e ov (ra 69 9)) (e qm (rl [6,9] 78 12)))))))) (d sz [90]))))
def c:=(s (d r0 [0,3]) (s (s (d r1 [10,11]) (i 12 (s (d r2 [1,12,13]) .ret) .skip)) (s (e r3 (rl [12] 14 7)) (s (s (d r4 [21]) (i 22 (s (d r5 [1,4,22,23]) .ret) .skip)) (s (d r6 (rl [22] 24 6)) (s (s (d r7 [30]) (i 31 (e r8 (ra 31 5)) .skip)) (s (s (d r9 [31]) (b 0 (w l1))) (s (d W8 [1,4,5,36,37,38,91]) .ret))))))))
end mQ
def mQ:AFn:=⟨1,mQ.c,[.cell 2 true 6,.tmp 3],false⟩
structure ak (L:Lib):Prop extends Dy L where
 eH:L 197=some F.eH
 aZ:L 198=some F.aZ
 jC:L 199=some F.jC
 iW:L 200=some F.iW
 mJ:L 201=some F.mJ
 mS:L 204=some F.mS
 mR:L 205=some F.mR
 mT:L 206=some F.mT
 mQ:L 207=some F.mQ
end Go.c9.F

namespace Go.c9.F
open C
namespace iY
def r0:=[bx 1 0,al 2 z3]
def r1:=[fa 3 1 0,fa 4 3 1,uu 5 1 4,o 6 (.build [(.bool false),.nil] [(1,1,5)]),fa 7 1 2,uu 8 1 7,
 o 9 (.build z3 [(0,2,6),(2,1,8)]),ca 10 95 [9],so 3 2 10]
def c:=(s (d r0 [0]) (s (d r1 (rl [1] 3 8)) .ret))
end iY
def iY:AFn:=⟨1,iY.c,[.cell 2 true 3],false⟩
structure fp (L:Lib):Prop extends ak L where
 iY:L 256=some F.iY
end Go.c9.F
