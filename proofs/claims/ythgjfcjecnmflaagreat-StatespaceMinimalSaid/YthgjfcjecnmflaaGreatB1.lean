/-
  The abstract machine: data without memory. AV: a value; slices that are only read are lists ('sl'), rows and boxes of the call's own are named by a site and a stamp.
  Nothing here speaks of a program; EngSound ties it to the model.
-/
import Derived.Calls
set_option linter.unusedSimpArgs false
set_option linter.unusedVariables false
set_option linter.unnecessarySimpa false
namespace Go.e8
theorem zE {α : Type} {l : List α} {i : Nat} (h : i < l.length) : l[i]? = some l[i] :=
 List.getElem?_eq_getElem h
theorem zS {α : Type} {l : List α} {i : Nat} {a : α} (h : l[i]? = some a) : ∃ h : i < l.length, l[i] = a :=
 List.getElem?_eq_some_iff.1 h
theorem zM {α : Type} {l : List α} {i : Nat} {a : α} (h : l[i]? = some a) : a ∈ l :=
 List.mem_of_getElem? h
theorem zR {m n : Nat} (k : Nat) (h : m <= n) : m * k <= n * k :=
 Nat.mul_le_mul_right k h
theorem zT {α : Type} {l : List α} {i : Nat} (h : l.length <= i) : l.take i = l :=
 List.take_of_length_le h
end Go.e8
namespace Go.e8
inductive AV where
 | int (k:IntKind) (n:Int)
 | bool (b:Bool)
 | sl (l:Bool) (es:List (List AV))
 | row (s t z off len:Nat)
 | nil
 | ptr (s t i j:Nat)
 | u6 (cs:List AV)
 | agg (cs:List AV)
 | l6 (vs:List AV)
 | da (v:Value)
 | fn (p:Bool) (f g:Nat) (cs:List AV)
 | any
 deriving Inhabited
inductive AR where
 | t (n:Nat)
 | c (v:AV)
 deriving Inhabited
structure DM where
 b9:Nat
 es:List (List AV)
structure B1 where
 g8:Nat
 e7:Nat->Option DM
def AH:=Nat->B1
def AH.emp:AH:=λ_=>⟨0,λ_=>none⟩
def AH.put (o:AH) (s:Nat) (x:B1):AH:=λ s'=>if s'=s then x else o s'
def AH.get (o:AH) (s t:Nat):Option DM:=(o s).e7 t
def AH.g8 (o:AH) (s:Nat):Nat:=(o s).g8
def B1.q8 (x:B1) (t:Nat) (b:Option DM):B1:=⟨x.g8,λ t'=>if t'=t then b else x.e7 t'⟩
def B1.new (x:B1) (b:DM):B1:=⟨x.g8+1,λ t'=>if t'=x.g8 then some b else x.e7 t'⟩
theorem AH.l8 (o:AH) (s:Nat) (x:B1):o.put s x s=x:=by simp [AH.put]
theorem AH.gl (o:AH) (s s':Nat) (x:B1) (h:s'≠s):o.put s x s'=o s':=by simp [AH.put,h]
theorem AH.mc (o:AH) (s:Nat) (x y:B1):(o.put s x).put s y=o.put s y:=by
 funext s';by_cases h:s'=s<;>simp [AH.put,h]
inductive DG where
 | a9 (x:AR)
 | w9 (s b9:Nat)
 | pick (c a b:AR)
 | bin (op:BinOp) (x y:AR)
 | beq (ne:Bool) (x y:AR)
 | un (op:UnOp) (x:AR)
 | conv (k:IntKind) (x:AR)
 | box (s:Nat) (x:AR)
 | alloc (s:Nat) (zero:List AV)
 | build (zero:List AV) (parts:List (Nat × Nat × AR))
 | c9 (s b9:Nat) (parts:List AR)
 | a6 (x:AR) (off:Nat)
 | ox (x:AR) (off n:Nat) (agg:Bool)
 | a5 (arr:Option Nat) (b9:Nat) (x i:AR)
 | ld (agg:Bool) (n:Nat) (x:AR)
 | st (n:Nat) (x v:AR)
 | mk (s b9 bytes:Nat) (zero:List AV) (l c:AR)
 | gp (b9:Nat) (x:AR) (lo hi:Option AR)
 | ext (x:AR) (i:Nat)
 | len (x:AR)
 | mm (max:Bool) (xs:List AR)
 | app (s b9 bytes:Nat) (x y:AR)
 | call (f:Nat) (xs:List AR)
 | e9 (f:Nat) (xs:List AR)
 | ry (ne:Bool) (x:AR)
 | gn (tb:List Nat) (x:AR)
 | qa (p:Bool) (f:Nat) (xs:List AR)
 | n8 (x:AR) (xs:List AR)
 | o0 (f:Nat) (xs:List AR)
 | nv (s n:Nat) (x v:AR)
 | u9 (s f:Nat) (xs:List AR)
 | cq (s f:Nat) (xs:List AR)
 | bad
 deriving Inhabited
structure AI where
 dst:Option Nat
 op:DG
 guard:Option (Nat × Bool):=none
 c7:List Nat:=[]
 deriving Inhabited
inductive A9 where
 | skip
 | ops (l:List AI) (draw:Bool)
 | dr (c:A9) (ts ss:List Nat)
 | scope (c:A9)
 | seq (a b:A9)
 | cond (c:AR) (a b:A9)
 | block (id:Nat) (c:A9)
 | loop (c:A9)
 | exit (id:Nat)
 | ret
 deriving Inhabited
inductive IO where
 | tmp (t:Nat)
 | cell (t:Nat) (agg:Bool) (n:Nat)
 deriving Inhabited
structure AFn where
 bm:Nat
 body:A9
 res:List IO
 ot:Bool
abbrev Tm:=List (Nat × AV)
def g7:Tm->Nat->AV
 | [],_ => .any
 | (i,v)::r,j=>if j=i then v else g7 r j
def jm:Tm->Nat->AV->Tm
 | [],j,u=>[(j,u)]
 | (i,v)::r,j,u=>if j=i then (i,u)::r else if j<i then (j,u)::(i,v)::r else (i,v)::jm r j u
def bg:Tm->List Nat->Tm
 | [],_=>[]
 | (i,v)::r,l=>if l.contains i then bg r l else (i,v)::bg r l
theorem ZS (m:Tm) (i:Nat) (v:AV) (j:Nat):g7 (jm m i v) j=if j=i then v else g7 m j:=by
 induction m with
 | nil=>by_cases h:j=i<;>simp [jm,g7,h]
 | cons x r ih =>
  obtain ⟨a,u⟩:=x;by_cases h:i=a
  ·subst h
   by_cases h2:j=i<;>simp [jm,g7,h2]
  ·by_cases m9:i<a
   ·by_cases h2:j=i<;>simp [jm,g7,h,m9,h2]
   ·by_cases h2:j=a
    ·subst h2
     have : ¬ j=i:=λ e=>h e.symm
     simp [jm,g7,h,m9,this]
    ·simp [jm,g7,h,m9,h2,ih]
structure St where
 tm:Tm
 own:AH
def St.ev (st:St):AR->AV
 | .t n=>g7 st.tm n
 | .c v=>v
inductive B3 where
 | val (v:AV)
 | new (s:Nat) (b:DM) (v:Nat->AV)
 | yl (s:Nat) (b:DM) (v:Nat->AV)
 | ea (v:AV) (own:AH)
 | q8 (s:Nat) (x:B1)
 | wm (s:Nat) (x:B1) (v:AV)
def cellsOf:AV->Option (List AV)
 | .agg cs=>some cs
 | .fn _ _ _ _=>none
 | .l6 _=>none
 | .any=>none
 | v=>some [v]
def J2 (agg:Bool) (cs:List AV):Option AV :=
 if agg then some (.agg cs) else match cs with|[c]=>some c|_=>none
def part (cs:List AV) (off n:Nat):Option (List AV) :=
 if off+n<=cs.length then some ((cs.drop off).take n) else none
def splice (cs:List AV) (off:Nat) (vs:List AV):List AV:=cs.take off++vs++cs.drop (off+vs.length)
def fill (cells:List AV):List (Nat × Nat × AV)->Option (List AV)
 | []=>some cells
 | (off,n,v)::r=>match cellsOf v with
  | some vs=>if vs.length=n/\off+n<=cells.length then fill (splice cells off vs) r else none
  | none=>none
def C3 (op:BinOp) (k:IntKind) (a:Int) (k':IntKind) (b:Int):Option AV :=
 match op with
 | .shl=>if b<0 then none else some (.int k (k.wrap (a*2^(min b.toNat k.bits))))
 | .shr=>if b<0 then none else some (.int k (a.fdiv (2^(min b.toNat k.bits))))
 | .add=>if k=k' then some (.int k (k.wrap (a+b))) else none
 | .sub=>if k=k' then some (.int k (k.wrap (a-b))) else none
 | .mul=>if k=k' then some (.int k (k.wrap (a*b))) else none
 | .quo=>if k=k'/\b≠0 then some (.int k (k.wrap (a.tdiv b))) else none
 | .rem=>if k=k'/\b≠0 then some (.int k (a.tmod b)) else none
 | .and=>if k=k' then some (.int k (k.wrap (BitVec.ofInt k.bits a &&& BitVec.ofInt k.bits b).toNat)) else none
 | .or=>if k=k' then some (.int k (k.wrap (BitVec.ofInt k.bits a ||| BitVec.ofInt k.bits b).toNat)) else none
 | .xor=>if k=k' then some (.int k (k.wrap (BitVec.ofInt k.bits a ^^^ BitVec.ofInt k.bits b).toNat)) else none
 | .andNot=>if k=k' then some (.int k (k.wrap (BitVec.ofInt k.bits a &&& ~~~ BitVec.ofInt k.bits b).toNat)) else none
 | .eql=>if k=k' then some (.bool (a == b)) else none
 | .neq=>if k=k' then some (.bool (a != b)) else none
 | .lss=>if k=k' then some (.bool (decide (a<b))) else none
 | .leq=>if k=k' then some (.bool (decide (a<=b))) else none
 | .gtr=>if k=k' then some (.bool (decide (a>b))) else none
 | .geq=>if k=k' then some (.bool (decide (a≥b))) else none
def RE (op:UnOp):AV->Option AV
 | .int k n=>match op with
  | .neg=>some (.int k (k.wrap (0-n)))
  | .xor=>some (.int k (k.wrap (BitVec.ofInt k.bits (if k.signed then -1 else k.max) ^^^ BitVec.ofInt k.bits n).toNat))
  | _=>none
 | .bool b=>match op with
  | .not=>some (.bool (!b))
  | _=>none
 | _=>none
def PX (max:Bool):AV->AV->Option AV
 | .int k a,.int _ b=>some (.int k (if max then (if b>a then b else a) else (if b<a then b else a)))
 | _,_=>none
def JY (max:Bool):AV->List AV->Option AV
 | v,[]=>some v
 | v,u::r=>match PX max v u with|some x=>JY max x r|none=>none
def AH.o3 (o:AH):List Nat->AH
 | []=>o
 | s::r=>λ s'=>if s'=s then ⟨0,λ_=>none⟩ else o.o3 r s'
def AH.px (own:AH) (s t i j n:Nat):Option (List AV) :=
 match own.get s t with
 | some b=>match b.es[i]? with
  | some cs=>part cs j n
  | none=>none
 | none=>none
def AH.me (own:AH) (s t i j:Nat) (vs:List AV):Option AH :=
 match own.get s t with
 | some b=>match b.es[i]? with
  | some cs=>if j+vs.length<=cs.length then some (own.put s ((own s).q8 t (some ⟨b.b9,b.es.set i (splice cs j vs)⟩))) else none
  | none=>none
 | none=>none
def EB (own:AH):AV->Option (List (List AV))
 | .sl _ es=>some es
 | .nil=>some []
 | .da (.bool _)=>some []
 | .row s t z off len=>match own.get s t with
  | some b=>if off+len<=b.es.length/\b.b9=z then some ((b.es.drop off).take len) else none
  | none=>none
 | _=>none
def PR:AV->Option Nat
 | .sl _ es=>some es.length
 | .nil=>some 0
 | .row _ _ _ _ len=>some len
 | _=>none
def snap (own:AH) (l:Bool):Nat->AV->Option AV
 | _,.int k n=>some (.int k n)
 | _,.bool b=>some (.bool b)
 | _,.sl l' es=>some (.sl l' es)
 | _,.nil=>some (.sl false [])
 | _,.da v=>some (.da v)
 | d+1,.row s t z off len=>match EB own (.row s t z off len) with
  | some es=>(es.mapM (λ cs:List AV=>cs.mapM (snap own l d))).map (AV.sl l)
  | none=>none
 | _,_=>none
def CN (own:AH) (l:Bool):AV->Option AV
 | .agg cs=>(cs.mapM (snap own l 6)).map AV.agg
 | v=>snap own l 6 v
def O5 (own:AH) (l:Bool):AV->Option AV
 | .nil=>some .nil
 | v=>CN own l v
def Q6 (own:AH) (l:Bool):AV->Option AV
 | .l6 cs=>(cs.mapM (CN own l)).map AV.l6
 | v=>CN own l v
mutual
def A1:AV->Prop
 | .int _ _=>True
 | .bool _=>True
 | .da _=>True
 | .sl l es=>l=false/\FL es
 | .agg cs=>CD cs
 | .l6 cs=>CD cs
 | _=>False
def CD:List AV->Prop
 | []=>True
 | c::r=>A1 c/\CD r
def FL:List (List AV)->Prop
 | []=>True
 | c::r=>CD c/\FL r
end
def EC:Nat:=140737488355328
structure Cl where
 pure:Nat->List AV->Option AV
 ic:Nat->List AV->AH->Option (AV × AH)
 num:Nat->Nat
noncomputable def aI (C:Cl) (f:Nat) (vs:List AV) (s:Nat) (q:B1):Option (AV × B1) :=
 open Classical in if h : ∃ p : AV × B1, ∀ o : AH, o s = q -> C.ic f vs o = some (p.1, o.put s p.2) then some h.choose else none
theorem aJ {C:Cl} {f:Nat} {vs:List AV} {s:Nat} {q:B1} {p:AV × B1}:aI C f vs s q=some p ↔ ∀ o:AH,o s=q->C.ic f vs o=some (p.1,o.put s p.2):=by
 unfold aI;constructor
 ·intro h
  split at h
  ·rename_i hx
   obtain rfl:=Option.some.inj h;exact hx.choose_spec
  ·cases h
 ·intro h
  rw[dif_pos ⟨p,h⟩];have h1:=(⟨p,h⟩ : ∃ p:AV × B1,∀ o:AH,o s=q->C.ic f vs o=some (p.1,o.put s p.2)).choose_spec (λ_=>q) rfl;have h2:=h (λ_=>q) rfl;have h3:=Option.some.inj (h2.symm.trans h1);refine congrArg some ?_;generalize (Exists.choose _:AV × B1)=p' at h3;obtain ⟨a,b⟩:=p;obtain ⟨a',b'⟩:=p';simp only[Prod.mk.injEq]at h3;obtain ⟨h4,h5⟩:=h3;have h6:b=b':=by
   have:=congrFun h5 s
   simpa [AH.put] using this
  rw[h4,h6]
def XL:AV->AV
 | .sl _ es => .sl false es
 | .nil => .sl false []
 | v=>v
def wk:AV->AV
 | .agg cs => .agg (cs.map XL)
 | v=>XL v
def YZ:AV->AV
 | .sl _ es => .sl true es
 | v=>v
def yi:AV->AV
 | .agg cs => .agg (cs.map YZ)
 | v=>YZ v
mutual
def GV:AV->AV
 | .sl _ es => .sl true (YX es)
 | v=>v
def K1:List AV->List AV
 | []=>[]
 | c::r=>GV c::K1 r
def YX:List (List AV)->List (List AV)
 | []=>[]
 | c::r=>K1 c::YX r
end
def OR:AV->AV
 | .agg cs => .agg (K1 cs)
 | v=>GV v
def VV:AV->Prop
 | .l6 _=>False
 | .fn _ _ _ _=>False
 | _=>True
def FR:AV->Bool
 | .int _ _=>true | .bool _=>true | .sl _ _=>true | .nil=>true
 | _=>false
def dq:AV->Bool
 | .agg cs=>cs.all FR
 | v=>FR v
def vR:AV->Bool
 | .int _ _=>true | .bool _=>true
 | _=>false
def XU:AV->Prop
 | .int _ _=>True
 | .bool _=>True
 | .sl _ es => ∀ e∈es,∀ c∈e,vR c=true
 | _=>False
def JM:AV->Prop
 | .agg cs => ∀ c∈cs,XU c
 | v=>XU v
open Classical in
noncomputable def K2 (r:AV):AV:=if JM r then yi r else OR r
theorem jM {r:AV} (h:JM r):K2 r=yi r:=if_pos h
theorem uW {r:AV} (h : ¬ JM r):K2 r=OR r:=if_neg h
def F7:AV->Option AV
 | .agg _=>none
 | .fn _ _ _ _=>none
 | .l6 _=>none
 | .any=>none
 | v=>some v
open Classical in
noncomputable def OE (x:Option (AV × AH)):Option (Nat × List (List AV)):=match x with
 | some (.row s t z 0 n,o)=>match o.get s t with
  | some b=>if b.es.length=n/\FL b.es then some (z,b.es) else none
  | none=>none
 | _=>none
theorem Tn {x:Option (AV × AH)} {z:Nat} {es:List (List AV)} (h:OE x=some (z,es)) : ∃ s t o b,x=some (.row s t z 0 es.length,o)/\o.get s t=some b/\b.es=es/\FL es:=by
 unfold OE at h;split at h
 ·split at h
  ·rename_i s t z' n o b hb
   split at h
   ·rename_i hc
    obtain ⟨rfl,hc⟩:=hc;simp only[Option.some.injEq,Prod.mk.injEq]at h;obtain ⟨rfl,rfl⟩:=h;exact ⟨_,_,_,_,rfl,hb,rfl,hc⟩
   ·cases h
  ·cases h
 ·cases h
open Classical in
noncomputable def g6 (C:Cl) (c7:List Nat) (ρ:AR->AV) (own:AH):DG->Option B3
 | .a9 x=>some (.val (ρ x))
 | .w9 s b9=>some (.yl s ⟨b9,[]⟩ (λ t => .row s t b9 0 0))
 | .pick c a b=>match ρ c with
  | .bool true=>some (.val (ρ a))
  | .bool false=>some (.val (ρ b))
  | _=>none
 | .bin op x y=>match ρ x,ρ y with
  | .int k a,.int k' b=>(C3 op k a k' b).map .val
  | _,_=>none
 | .beq ne x y=>match ρ x,ρ y with
  | .bool a,.bool b=>some (.val (.bool (if ne then !(a == b) else a == b)))
  | _,_=>none
 | .un op x=>(RE op (ρ x)).map .val
 | .conv k x=>match ρ x with
  | .int _ n=>some (.val (.int k (k.wrap n)))
  | _=>none
 | .box s x=>match cellsOf (ρ x) with
  | some cs=>some (.new s ⟨cs.length,[cs]⟩ (λ t => .ptr s t 0 0))
  | none=>none
 | .alloc s zero=>some (.new s ⟨zero.length,[zero]⟩ (λ t => .ptr s t 0 0))
 | .build zero parts=>(fill zero (parts.map λ p=>(p.1,p.2.1,ρ p.2.2))).map (λ cs => .val (.agg cs))
 | .c9 s b9 parts=>match parts.mapM (λ x=>cellsOf (ρ x)) with
  | some es=>if ∀ e∈es,e.length=b9 then some (.new s ⟨b9,es⟩ (λ t => .row s t b9 0 es.length)) else none
  | none=>none
 | .a6 x off=>match ρ x with
  | .ptr s t i j=>some (.val (.ptr s t i (j+off)))
  | .u6 cs=>some (.val (.u6 (cs.drop off)))
  | _=>none
 | .ox x off n agg=>match ρ x with
  | .agg cs=>match part cs off n with
   | some ds=>(J2 agg ds).map .val
   | none=>none
  | _=>none
 | .a5 arr b9 x i=>match ρ i with
  | .int _ n=>match arr,ρ x with
   | some len,.ptr s t i' j=>if 0<=n/\n<len then some (.val (.ptr s t i' (j+n.toNat*b9))) else none
   | some len,.u6 cs=>if 0<=n/\n<len then some (.val (.u6 (cs.drop (n.toNat*b9)))) else none
   | none,.row s t z off len=>if 0<=n/\n<len/\z=b9 then some (.val (.ptr s t (off+n.toNat) 0)) else none
   | none,.sl _ es=>if 0<=n then match es[n.toNat]? with
     | some cs=>if cs.length=b9 then some (.val (.u6 cs)) else none
     | none=>none
    else none
   | _,_=>none
  | _=>none
 | .ld agg n x=>match ρ x with
  | .ptr s t i j=>match (own.o3 c7).px s t i j n with
   | some cs=>(J2 agg cs).map .val
   | none=>none
  | .u6 cs=>match part cs 0 n with
   | some ds=>(J2 agg ds).map .val
   | none=>none
  | _=>none
 | .st n x v=>match ρ x,cellsOf (ρ v) with
  | .ptr s t i j,some vs=>if vs.length=n then (own.me s t i j vs).map (B3.ea (.l6 [])) else none
  | _,_=>none
 | .mk s b9 bytes zero l c=>match ρ l,ρ c with
  | .int _ a,.int _ b=>if 0<=a/\a<=b/\b*bytes<=EC/\b<=9223372036854775807/\zero.length=b9 then some (.new s ⟨b9,List.replicate a.toNat zero⟩ (λ t => .row s t b9 0 a.toNat)) else none
  | _,_=>none
 | .gp b9 x lo hi=>match ρ x with
  | .sl l es =>
   let h:Option Nat:=match hi with|none=>some es.length|some o=>match ρ o with | .int _ n=>if 0<=n/\n<=es.length then some n.toNat else none|_=>none
   let a:Option Nat:=match lo with|none=>some 0|some o=>match ρ o with | .int _ n=>if 0<=n then some n.toNat else none|_=>none
   match a,h with
   | some a,some h=>if a<=h /\ ∀ e∈es,e.length=b9 then some (.val (.sl l ((es.take h).drop a))) else none
   | _,_=>none
  | .nil =>
   let h:Option Nat:=match hi with|none=>some 0|some o=>match ρ o with | .int _ n=>if n=0 then some 0 else none|_=>none
   let a:Option Nat:=match lo with|none=>some 0|some o=>match ρ o with | .int _ n=>if n=0 then some 0 else none|_=>none
   match a,h with
   | some _,some _=>some (.val .nil)
   | _,_=>none
  | .row s t z off len =>
   let h:Option Nat:=match hi with|none=>some len|some o=>match ρ o with | .int _ n=>if 0<=n/\n<=len then some n.toNat else none|_=>none
   let a:Option Nat:=match lo with|none=>some 0|some o=>match ρ o with | .int _ n=>if 0<=n then some n.toNat else none|_=>none
   match a,h with
   | some a,some h=>if a<=h/\z=b9 then some (.val (.row s t z (off+a) (h-a))) else none
   | _,_=>none
  | _=>none
 | .ext x i=>match ρ x with
  | .l6 vs=>(vs[i]?).map .val
  | _=>none
 | .len x=>match PR (ρ x) with
  | some n=>some (.val (.int .i64 (n:Int)))
  | none=>none
 | .mm max xs=>match xs.map ρ with
  | []=>none
  | v::r=>(JY max v r).map .val
 | .app s b9 bytes x y=>match EB own (ρ y) with
  | some ys=>if ∀ e∈ys,e.length=b9 then match ρ x with
    | .row s' t z 0 len=>match own.get s' t with
     | some b=>if b.b9=b9/\z=b9/\len<=b.es.length/\(len+ys.length)*bytes<=EC/\len+ys.length<=9223372036854775807 then
       some (.ea (.row s' (own.g8 s') b9 0 (len+ys.length)) (own.put s' (((own s').q8 t none).new ⟨b9,b.es.take len++ys⟩)))
      else none
     | none=>none
    | .nil=>if ys.length*bytes<=EC/\ys.length<=9223372036854775807 then
       some (.ea (.row s (own.g8 s) b9 0 ys.length) (own.put s ((own s).new ⟨b9,ys⟩))) else none
    | _=>none
   else none
  | none=>none
 | .call f xs=>match (xs.map ρ).mapM (CN (own.o3 c7) true) with
  | some vs=>(C.pure f vs).map .val
  | none=>none
 | .e9 f xs=>(C.ic f (xs.map ρ) own).map (λ r => .ea r.1 r.2)
 | .ry ne x=>match ρ x with
  | .nil=>some (.val (.bool (xor true ne)))
  | .da (.bool b)=>some (.val (.bool (xor b ne)))
  | .sl _ (_::_)=>some (.val (.bool (xor false ne)))
  | .row _ _ _ _ (_+1)=>some (.val (.bool (xor false ne)))
  | _=>none
 | .bad=>none
 | .cq s f xs=>(aI C f (xs.map ρ) s (own s)).map λ p => .wm s p.2 p.1
 | .gn tb x=>match ρ x with
  | .int _ n=>if 0<=n then (match tb[n.toNat]? with
   | some v=>some (.val (.int .u8 v))
   | none=>none) else none
  | _=>none
 | .qa p f xs=>(xs.mapM (λ x=>F7 (ρ x))).map (λ cs => .val (.fn (p&&cs.isEmpty) f (C.num f) cs))
 | .o0 f xs=>if (xs.map ρ).all dq=true then (match C.pure f ((xs.map ρ).map wk) with
   | some r=>if JM r\/VV r then some (.val (K2 r)) else none
   | none=>none) else none
 | .nv s n x v=>match ρ x,cellsOf (ρ v) with
  | .ptr s' t i j,some vs=>if s'=s/\vs.length=n then (own.me s t i j vs).map (λ o'=>B3.q8 s (o' s)) else none
  | _,_=>none
 | .u9 s f xs=>match (xs.map ρ).mapM (O5 (own.o3 c7) true) with
  | some vs=>(OE (C.ic f vs AH.emp)).map (λ r => .new s ⟨r.1,r.2⟩ (λ t => .row s t r.1 0 r.2.length))
  | none=>none
 | .n8 x xs=>match ρ x with
  | .fn p f g cs=>if g=C.num f then (match p,cs with
   | true,[]=>(match (xs.map ρ).mapM (CN own true) with
    | some vs=>(C.pure f vs).map .val
    | none=>none)
   | false,cs=>(C.ic f (xs.map ρ++cs) own).map (λ r => .ea r.1 r.2)
   | true,c::cs=>(match (AV.agg (c::cs)::xs.map ρ).mapM (CN own true) with
    | some vs=>(C.pure f vs).map .val
    | none=>none)) else none
  | _=>none
def St.dst (st:St) (d:Option Nat) (v:AV):St :=
 match d with
 | some d=>{ st with tm:=jm st.tm d v }
 | none=>st
def St.app (st:St) (d:Option Nat):B3->St
 | .val v=>st.dst d v
 | .new s b v=>{ (st.dst d (v (st.own.g8 s))) with own:=st.own.put s ((st.own s).new b) }
 | .yl s b v=>{ (st.dst d (v (st.own.g8 s))) with own:=st.own.put s ((st.own s).new b) }
 | .ea v o=>{ (st.dst d v) with own:=o }
 | .q8 s x=>{ (st.dst d (.l6 [])) with own:=st.own.put s x }
 | .wm s x v=>{ (st.dst d v) with own:=st.own.put s x }
def E6 (st:St):Option (Nat × Bool)->Option Bool
 | none=>some true
 | some (g,want)=>match g7 st.tm g with
  | .bool b=>some (b == want)
  | .l6 []=>some false
  | _=>none
noncomputable def CO (C:Cl) (o:AI) (st:St):Option St :=
 match E6 st o.guard with
 | some true=>(g6 C o.c7 st.ev st.own o.op).map (st.app o.dst)
 | some false=>some (st.dst o.dst (.l6 []))
 | none=>none
noncomputable def CU (C:Cl):List AI->St->Option St
 | [],st=>some st
 | o::r,st=>match CO C o st with
  | some l9=>CU C r l9
  | none=>none
def EG:DG->Option Nat
 | .w9 s _=>some s
 | .box s _=>some s
 | .alloc s _=>some s
 | .c9 s _ _=>some s
 | .mk s _ _ _ _ _=>some s
 | .nv s _ _ _=>some s
 | .u9 s _ _=>some s
 | .cq s _ _=>some s
 | _=>none
inductive It where
 | code (c:A9)
 | kf (ts ss:List Nat)
 | e7 (id:Nat)
 | lp (c:A9)
def DC (id:Nat):List It->Option (List It)
 | .e7 Hs::k=>if Hs=id then some k else DC id k
 | _::k=>DC id k
 | []=>none
def AH.drop (o:AH):List Nat->AH
 | []=>o
 | s::r=>(o.drop r).put s ⟨(o s).g8,λ_=>none⟩
noncomputable def run (C:Cl):Nat->List It->St->Option St
 | 0,_,_=>none
 | _+1,[],st=>some st
 | n+1,.e7 _::k,st=>run C n k st
 | n+1,.kf ts ss::k,st=>run C n k ⟨bg st.tm ts,st.own.drop ss⟩
 | n+1,.lp c::k,st=>run C n (.code c :: .lp c::k) st
 | n+1,.code c::k,st=>match c with
  | .skip=>run C n k st
  | .ops l _=>match CU C l st with
   | some l9=>run C n k l9
   | none=>none
  | .dr c ts ss=>run C n (.code c :: .kf ts ss::k) st
  | .scope c=>run C n (.code c::k) st
  | .seq a b=>run C n (.code a :: .code b::k) st
  | .cond c a b=>match st.ev c with
   | .bool true=>run C n (.code a::k) st
   | .bool false=>run C n (.code b::k) st
   | _=>none
  | .block id c=>run C n (.code c :: .e7 id::k) st
  | .loop c=>run C n (.code c :: .lp c::k) st
  | .exit id=>match DC id k with
   | some k'=>run C n k' st
   | none=>none
  | .ret=>some st
def CB (i:Nat):List AV->Tm
 | []=>[]
 | v::r=>(i,v)::CB (i+1) r
def HZ:AV->Option AV
 | .any=>none
 | .l6 _=>none
 | v=>some v
def EV (st:St):IO->Option AV
 | .tmp t=>HZ (g7 st.tm t)
 | .cell t agg n=>match g7 st.tm t with
  | .ptr s u i j=>match st.own.px s u i j n with
   | some cs=>J2 agg cs
   | none=>none
  | _=>none
def HB:List AV->AV
 | [v]=>v
 | vs => .l6 vs
structure Lib where
 fn:Nat->Option AFn
 num:Nat->Nat
instance : CoeFun Lib (λ_ => Nat -> Option AFn) := ⟨Lib.fn⟩
open Classical in
noncomputable def HU (I:List AV->Option (AV × AH)) (vs:List AV):Option AV :=
 match I vs with
 | some (r,o)=>match Q6 o false r with
  | some r'=>if A1 r' then some r' else none
  | none=>none
 | none=>none
def Lib.ot (L:Lib) (f:Nat):Bool:=match L f with
 | some fn=>fn.ot
 | none=>false
open Classical in
noncomputable def J3 (b:Bool) (I:List AV->Option (AV × AH)) (vs:List AV):Option AV:=match b,vs with
 | true,.sl _ []::vs=>match HU I (.da (.bool true)::vs),HU I (.da (.bool false)::vs) with
  | some r,some r'=>if r=r' then some r else none
  | _,_=>none
 | _,vs=>HU I vs
noncomputable def C6 (L:Lib):Nat->Nat->List AV->AH->Option (AV × AH)
 | 0,_,_,_=>none
 | n+1,f,args,own=>match L f with
  | none=>none
  | some fn=>if args.length=fn.bm then
    match run ⟨λ f vs=>J3 (L.ot f) (λ vs=>C6 L n f vs AH.emp) vs,C6 L n,L.num⟩ n [.code fn.body] ⟨CB 0 args,own⟩ with
    | some st=>match fn.res.mapM (EV st) with
     | some vs=>some (HB vs,st.own)
     | none=>none
    | none=>none
   else none
noncomputable def GG (L:Lib) (n f:Nat) (vs:List AV):Option AV:=J3 (L.ot f) (λ vs=>C6 L n f vs AH.emp) vs
noncomputable def CH (L:Lib) (n:Nat):Cl:=⟨GG L n,C6 L n,L.num⟩
theorem YH (L:Lib) (n f:Nat) (args:List AV) (own:AH):C6 L (n+1) f args own =
  match L f with
  | none=>none
  | some fn=>if args.length=fn.bm then
    match run (CH L n) n [.code fn.body] ⟨CB 0 args,own⟩ with
    | some st=>match fn.res.mapM (EV st) with
     | some vs=>some (HB vs,st.own)
     | none=>none
    | none=>none
   else none:=rfl
namespace C
abbrev o (d:Nat) (op:DG):AI:=⟨some d,op,none,[]⟩
abbrev n (op:DG):AI:=⟨none,op,none,[]⟩
abbrev g (d i:Nat) (b:Bool) (op:DG):AI:=⟨some d,op,some (i,b),[]⟩
abbrev m (d s:Nat):AI:=⟨some d,.a9 (.t s),none,[]⟩
abbrev k (v:Int):AR := .c (.int .i64 v)
abbrev z:AV := .int .i64 0
abbrev q (d:Nat) (c7:List Nat) (op:DG):AI:=⟨some d,op,none,c7⟩
abbrev u (c7:List Nat) (op:DG):AI:=⟨none,op,none,c7⟩
abbrev v (d i:Nat) (b:Bool) (c7:List Nat) (op:DG):AI:=⟨some d,op,some (i,b),c7⟩
abbrev p (l:List AI):A9 := .ops l false
abbrev P (l:List AI):A9 := .ops l true
abbrev d (l:List AI) (ts:List Nat):A9 := .dr (.ops l false) ts []
abbrev e (l:List AI) (ts:List Nat):A9 := .dr (.ops l true) ts []
abbrev s (a b:A9):A9 := .seq a b
abbrev i (c:AR) (a b:A9):A9 := .cond c a b
abbrev b (id:Nat) (c:A9):A9 := .block id c
abbrev w (c:A9):A9 := .loop c
abbrev x (id:Nat):A9 := .exit id
instance (i : Nat) : OfNat AR i := ⟨.t i⟩
end C
end Go.e8
namespace Go.e8.F
open C
namespace KD
def r0:=[o 2 (.a9 (.c (.bool false)))]
def r1:=[m 3 0,m 4 0,o 5 (.bin .neq 3 4),m 2 5]
def c:=(s (d r0 [2]) (s (d r1 [0,3,4,5]) .ret))
end KD
def KD:AFn:=⟨1,KD.c,[.tmp 2],false⟩
namespace KE
def r0:=[o 2 (.a9 (.c (.bool false)))]
def r1:=[m 3 0,m 4 0,o 5 (.bin .neq 3 4),m 2 5]
def c:=(s (d r0 [2]) (s (d r1 [0,3,4,5]) .ret))
end KE
def KE:AFn:=⟨1,KE.c,[.tmp 2],false⟩
namespace KB
def r0:=[o 4 (.a9 (k 0))]
def r1:=[m 7 0,o 8 (.call 58 [7]),m 5 8]
def r2:=[m 9 1,o 10 (.call 58 [9]),m 6 10]
def r3:=[m 11 5]
def r4:=[m 12 6]
def r5:=[o 4 (.a9 (k 0))]
def r6:=[o 4 (.a9 (k (-1)))]
def r7:=[m 13 6]
def r8:=[o 4 (.a9 (k 1))]
def r9:=[m 14 0,m 15 1,o 16 (.bin .lss 14 15)]
def BX:=[o 4 (.a9 (k (-1)))]
def B7:=[m 17 0,m 18 1,o 19 (.bin .gtr 17 18)]
def ah:=[o 4 (.a9 (k 1))]
def CR:=[o 4 (.a9 (k 0))]
def c:=(s (d r0 [4]) (s (d r1 [7,8]) (s (d r2 [9,10]) (s (s (d r3 [5]) (i 11 (s (s (d r4 [0,1,6,11]) (i 12 (s (d r5 [12]) .ret) .skip)) (s (d r6 [12]) .ret)) .skip)) (s (s (d r7 [6,11]) (i 13 (s (d r8 [0,1,13]) .ret) .skip)) (s (s (d r9 [13,14,15]) (i 16 (s (d BX [0,1,16]) .ret) .skip)) (s (s (d B7 [0,1,16,17,18]) (i 19 (s (d ah [19]) .ret) .skip)) (s (d CR [19]) .ret))))))))
end KB
def KB:AFn:=⟨2,KB.c,[.tmp 4],false⟩
namespace KC
def r0:=[o 4 (.a9 (k 0))]
def r1:=[m 7 0,o 8 (.call 59 [7]),m 5 8]
def r2:=[m 9 1,o 10 (.call 59 [9]),m 6 10]
def r3:=[m 11 5]
def r4:=[m 12 6]
def r5:=[o 4 (.a9 (k 0))]
def r6:=[o 4 (.a9 (k (-1)))]
def r7:=[m 13 6]
def r8:=[o 4 (.a9 (k 1))]
def r9:=[m 14 0,m 15 1,o 16 (.bin .lss 14 15)]
def BX:=[o 4 (.a9 (k (-1)))]
def B7:=[m 17 0,m 18 1,o 19 (.bin .gtr 17 18)]
def ah:=[o 4 (.a9 (k 1))]
def CR:=[o 4 (.a9 (k 0))]
def c:=(s (d r0 [4]) (s (d r1 [7,8]) (s (d r2 [9,10]) (s (s (d r3 [5]) (i 11 (s (s (d r4 [0,1,6,11]) (i 12 (s (d r5 [12]) .ret) .skip)) (s (d r6 [12]) .ret)) .skip)) (s (s (d r7 [6,11]) (i 13 (s (d r8 [0,1,13]) .ret) .skip)) (s (s (d r9 [13,14,15]) (i 16 (s (d BX [0,1,16]) .ret) .skip)) (s (s (d B7 [0,1,16,17,18]) (i 19 (s (d ah [19]) .ret) .skip)) (s (d CR [19]) .ret))))))))
end KC
def KC:AFn:=⟨2,KC.c,[.tmp 4],false⟩
namespace G1
def r0:=[o 2 (.a9 (.c .nil))]
def r1:=[m 3 0,o 4 (.ry false 3)]
def r2:=[o 2 (.a9 (.c .nil))]
def r3:=[o 5 (.c9 5 1 []),m 6 0,o 7 (.app 7 1 4 5 6),m 2 7]
def c:=(s (d r0 [2]) (s (s (d r1 [3]) (i 4 (s (d r2 [0,4]) .ret) .skip)) (s (d r3 [0,4,5,6,7]) .ret)))
end G1
def G1:AFn:=⟨1,G1.c,[.tmp 2],true⟩
namespace K5
def r0:=[o 2 (.a9 (k 0))]
def r1:=[m 3 0,o 4 (.bin .geq 3 (.c (.int .u32 (65536))))]
def r2:=[m 5 0,o 6 (.bin .shr 5 (.c (.int .u64 (16)))),m 0 6]
def r3:=[o 2 (.a9 (k 16))]
def r4:=[m 7 0,o 8 (.bin .geq 7 (.c (.int .u32 (256))))]
def r5:=[m 9 0,o 10 (.bin .shr 9 (.c (.int .u64 (8)))),m 0 10]
def r6:=[m 11 2,o 12 (.bin .add 11 (k 8)),m 2 12]
def r7:=[m 13 2,m 14 0,o 15 (.conv .u8 14),
 o 16 (.gn (List.replicate 1 0++List.replicate 1 1++List.replicate 2 2++List.replicate 4 3++List.replicate 8 4++List.replicate 16 5++List.replicate 32 6++List.replicate 64 7++List.replicate 128 8) 15),
 o 17 (.conv .i64 16),o 18 (.bin .add 13 17),m 2 18]
def c:=(s (p r0) (s (s (d r1 [3]) (i 4 (s (d r2 [2,4,5,6]) (p r3)) .skip)) (s (s (d r4 [4,7]) (i 8 (s (d r5 [8,9,10]) (d r6 [11,12])) .skip)) (s (d r7 [0,8,13,14,15,16,17,18]) .ret))))
end K5
def K5:AFn:=⟨1,K5.c,[.tmp 2],false⟩
namespace K4
def r0:=[o 2 (.a9 (k 0))]
def r1:=[m 3 0,o 4 (.call 63 [3]),o 5 (.bin .sub (k 32) 4),m 2 5]
def c:=(s (d r0 [2]) (s (d r1 [0,3,4,5]) .ret))
end K4
def K4:AFn:=⟨1,K4.c,[.tmp 2],false⟩
namespace FD
def r0:=[o 2 (.a9 (.c .nil))]
def r1:=[m 4 0,o 5 (.len 4),m 3 5]
def r2:=[m 6 3,o 7 (.bin .gtr 6 (k 0)),m 8 7,g 9 8 true (.a9 0),g 10 8 true (.a9 3),g 11 8 true (.bin .sub 10 (k 1)),g 12 8 true (.a5 none 1 9 11),
 g 13 8 true (.ld false 1 12),g 14 8 true (.bin .eql 13 (.c (.int .u32 (0)))),o 15 (.pick 8 14 (.c (.bool false)))]
def r3:=[m 16 3,o 17 (.bin .sub 16 (k 1)),m 3 17]
def r4:=[m 18 0,m 19 3,o 20 (.gp 1 18 none (some 19)),m 2 20]
def l1:=(s (s (d r2 [6,7,8,9,10,11,12,13,14]) (i 15 .skip (x 0))) (b 1 (d r3 [15,16,17])))
def c:=(s (d r0 [2]) (s (d r1 [4,5]) (s (b 0 (w l1)) (s (d r4 [0,3,15,18,19,20]) .ret))))
end FD
def FD:AFn:=⟨1,FD.c,[.tmp 2],false⟩
namespace LD
def r0:=[o 2 (.a9 (.c .nil))]
def r1:=[m 3 0,o 4 (.e9 65 [3]),o 5 (.call 62 [4]),m 2 5]
def c:=(s (d r0 [2]) (s (d r1 [0,3,4,5]) .ret))
end LD
def LD:AFn:=⟨1,LD.c,[.tmp 2],false⟩
namespace K9
def r0:=[o 4 (.a9 (k 0))]
def r1:=[m 8 0,o 9 (.e9 65 [8]),m 10 1,o 11 (.e9 65 [10]),m 5 9,m 6 11]
def r2:=[m 12 5,o 13 (.len 12),m 14 6,o 15 (.len 14),o 16 (.bin .neq 13 15)]
def r3:=[m 17 5,o 18 (.len 17),m 19 6,o 20 (.len 19),o 21 (.call 60 [18,20]),m 4 21]
def r4:=[m 22 5,o 23 (.len 22),o 24 (.bin .sub 23 (k 1)),m 7 24]
def r5:=[m 25 7,o 26 (.bin .geq 25 (k 0))]
def r7:=[m 29 5,m 30 7,o 31 (.a5 none 1 29 30),o 32 (.ld false 1 31),m 33 6,m 34 7,o 35 (.a5 none 1 33 34),o 36 (.ld false 1 35),o 37 (.bin .neq 32 36)]
def r8:=[m 38 5,m 39 7,o 40 (.a5 none 1 38 39),o 41 (.ld false 1 40),m 42 6,m 43 7,o 44 (.a5 none 1 42 43),o 45 (.ld false 1 44),o 46 (.call 61 [41,45]),
 m 4 46]
def r6:=[m 27 7,o 28 (.bin .sub 27 (k 1)),m 7 28]
def r9:=[o 4 (.a9 (k 0))]
def l1:=(s (s (d r5 [25]) (i 26 .skip (x 0))) (s (b 1 (s (e r7 [26,29,30,31,32,33,34,35,36]) (i 37 (s (e r8 [5,6,7,37,38,39,40,41,42,43,44,45,46]) .ret) .skip))) (d r6 [27,28,37])))
def c:=(s (d r0 [4]) (s (d r1 [0,1,8,9,10,11]) (s (s (d r2 [12,13,14,15]) (i 16 (s (d r3 [5,6,16,17,18,19,20,21]) .ret) .skip)) (s (s (d r4 [16,22,23,24]) (b 0 (w l1))) (s (d r9 [5,6,7,26]) .ret)))))
end K9
def K9:AFn:=⟨2,K9.c,[.tmp 4],false⟩
namespace K8
def r0:=[o 4 (.a9 (.c .nil))]
def r1:=[m 12 0,o 13 (.e9 65 [12]),m 14 1,o 15 (.e9 65 [14]),m 5 13,m 6 15]
def r2:=[m 16 5,o 17 (.len 16),m 18 6,o 19 (.len 18),o 20 (.bin .lss 17 19)]
def r3:=[m 21 6,m 22 5,m 5 21,m 6 22]
def r4:=[m 23 5,o 24 (.len 23),o 25 (.bin .add 24 (k 1)),o 26 (.mk 26 1 4 [(.int .u32 (0))] 25 25),m 7 26]
def r5:=[o 8 (.a9 (.c (.int .u64 (0))))]
def r6:=[m 27 5,o 28 (.len 27),o 29 (.a9 (k 0))]
def r7:=[o 30 (.bin .lss 29 28)]
def r8:=[m 31 29,o 32 (.a5 none 1 27 29),o 33 (.ld false 1 32),m 9 31,m 10 33]
def r9:=[m 34 10,o 35 (.conv .u64 34),m 36 8,o 37 (.bin .add 35 36),m 11 37]
def BX:=[m 38 9,m 39 6,o 40 (.len 39),o 41 (.bin .lss 38 40)]
def B7:=[m 42 11,m 43 6,m 44 9,o 45 (.a5 none 1 43 44),o 46 (.ld false 1 45),o 47 (.conv .u64 46),o 48 (.bin .add 42 47),m 11 48]
def ah:=[m 49 7,m 50 9,m 51 11,o 52 (.conv .u32 51),o 53 (.a5 none 1 49 50),n (.st 1 53 52)]
def CR:=[m 54 11,o 55 (.bin .shr 54 (.c (.int .u64 (32)))),m 8 55]
def di:=[o 56 (.bin .add 29 (k 1)),m 29 56]
def dj:=[m 57 7,m 58 5,o 59 (.len 58),m 60 8,o 61 (.conv .u32 60),o 62 (.a5 none 1 57 59),n (.st 1 62 61)]
def fj:=[m 63 7,o 64 (.e9 65 [63]),m 4 64]
def l1:=(s (p r7) (s (i 30 .skip (x 0)) (s (b 1 (s (d r8 [30,31,32,33]) (s (d r9 [8,10,34,35,36,37]) (s (s (d BX [38,39,40]) (i 41 (d B7 [41,42,43,44,45,46,47,48]) .skip)) (s (d ah [9,41,49,50,51,52,53]) (d CR [11,54,55])))))) (d di [56]))))
def c:=(s (d r0 [4]) (s (d r1 [0,1,12,13,14,15]) (s (s (d r2 [16,17,18,19]) (i 20 (d r3 [20,21,22]) .skip)) (s (d r4 [20,23,24,25,26]) (s (p r5) (s (s (p r6) (b 0 (w l1))) (s (d dj [5,6,8,27,28,29,30,57,58,59,60,61,62]) (s (d fj [7,63,64]) .ret))))))))
end K8
def K8:AFn:=⟨2,K8.c,[.tmp 4],false⟩
namespace LC
def r0:=[o 4 (.a9 (.c .nil))]
def r1:=[m 12 0,m 13 1,o 14 (.call 67 [12,13]),o 15 (.bin .leq 14 (k 0))]
def r2:=[o 4 (.a9 (.c .nil))]
def r3:=[m 16 0,o 17 (.e9 65 [16]),m 18 1,o 19 (.e9 65 [18]),m 5 17,m 6 19]
def r4:=[m 20 5,o 21 (.len 20),o 22 (.mk 22 1 4 [(.int .u32 (0))] 21 21),m 7 22]
def r5:=[o 8 (.a9 (.c (.int .u64 (0))))]
def r6:=[m 23 5,o 24 (.len 23),o 25 (.a9 (k 0))]
def r7:=[o 26 (.bin .lss 25 24)]
def r8:=[m 27 25,o 28 (.a5 none 1 23 25),o 29 (.ld false 1 28),m 9 27,m 10 29]
def r9:=[m 30 10,o 31 (.conv .u64 30),m 32 8,o 33 (.bin .sub 31 32),m 11 33]
def BX:=[m 34 9,m 35 6,o 36 (.len 35),o 37 (.bin .lss 34 36)]
def B7:=[m 38 11,m 39 6,m 40 9,o 41 (.a5 none 1 39 40),o 42 (.ld false 1 41),o 43 (.conv .u64 42),o 44 (.bin .sub 38 43),m 11 44]
def ah:=[m 45 7,m 46 9,m 47 11,o 48 (.conv .u32 47),o 49 (.a5 none 1 45 46),n (.st 1 49 48)]
def CR:=[m 50 11,o 51 (.bin .shr 50 (.c (.int .u64 (63)))),m 8 51]
def di:=[o 52 (.bin .add 25 (k 1)),m 25 52]
def dj:=[m 53 7,o 54 (.e9 65 [53]),m 4 54]
def l1:=(s (p r7) (s (i 26 .skip (x 0)) (s (b 1 (s (d r8 [26,27,28,29]) (s (d r9 [8,10,30,31,32,33]) (s (s (d BX [34,35,36]) (i 37 (d B7 [37,38,39,40,41,42,43,44]) .skip)) (s (d ah [9,37,45,46,47,48,49]) (d CR [11,50,51])))))) (d di [52]))))
def c:=(s (d r0 [4]) (s (s (d r1 [12,13,14]) (i 15 (s (d r2 [0,1,15]) .ret) .skip)) (s (d r3 [0,1,15,16,17,18,19]) (s (d r4 [20,21,22]) (s (p r5) (s (s (d r6 [5]) (b 0 (w l1))) (s (d dj [6,7,8,23,24,25,26,53,54]) .ret)))))))
end LC
def LC:AFn:=⟨2,LC.c,[.tmp 4],false⟩
namespace LB
def r0:=[o 4 (.a9 (.c .nil))]
def r1:=[m 14 0,o 15 (.e9 65 [14]),m 16 1,o 17 (.e9 65 [16]),m 5 15,m 6 17]
def r2:=[m 18 5,o 19 (.len 18),o 20 (.bin .eql 19 (k 0)),m 21 20,g 22 21 false (.a9 6),g 23 21 false (.len 22),g 24 21 false (.bin .eql 23 (k 0)),
 o 25 (.pick 21 (.c (.bool true)) 24)]
def r3:=[o 4 (.a9 (.c .nil))]
def r4:=[m 26 5,o 27 (.len 26),m 28 6,o 29 (.len 28),o 30 (.bin .add 27 29),o 31 (.mk 31 1 4 [(.int .u32 (0))] 30 30),m 7 31]
def r5:=[m 32 5,o 33 (.len 32),o 34 (.a9 (k 0))]
def r6:=[o 35 (.bin .lss 34 33)]
def r7:=[m 36 34,o 37 (.a5 none 1 32 34),o 38 (.ld false 1 37),m 8 36,m 9 38]
def r8:=[m 39 9,o 40 (.bin .eql 39 (.c (.int .u32 (0))))]
def r9:=[o 10 (.a9 (.c (.int .u64 (0))))]
def BX:=[m 41 6,o 42 (.len 41),o 43 (.a9 (k 0))]
def B7:=[o 44 (.bin .lss 43 42)]
def ah:=[m 45 43,o 46 (.a5 none 1 41 43),o 47 (.ld false 1 46),m 11 45,m 12 47]
def CR:=[m 48 9,o 49 (.conv .u64 48),m 50 12,o 51 (.conv .u64 50),o 52 (.bin .mul 49 51),m 53 7,m 54 8,m 55 11,o 56 (.bin .add 54 55),o 57 (.a5 none 1 53 56),
 o 58 (.ld false 1 57),o 59 (.conv .u64 58),o 60 (.bin .add 52 59),m 61 10,o 62 (.bin .add 60 61),m 13 62]
def di:=[m 63 7,m 64 8,m 65 11,o 66 (.bin .add 64 65),m 67 13,o 68 (.conv .u32 67),o 69 (.a5 none 1 63 66),n (.st 1 69 68)]
def dj:=[m 70 13,o 71 (.bin .shr 70 (.c (.int .u64 (32)))),m 10 71]
def fj:=[o 72 (.bin .add 43 (k 1)),m 43 72]
def EO:=[m 73 7,m 74 8,m 75 6,o 76 (.len 75),o 77 (.bin .add 74 76),m 78 10,o 79 (.conv .u32 78),o 80 (.a5 none 1 73 77),n (.st 1 80 79)]
def fk:=[o 81 (.bin .add 34 (k 1)),m 34 81]
def gm:=[m 82 7,o 83 (.e9 65 [82]),m 4 83]
def l2:=(s (p B7) (s (i 44 .skip (x 2)) (s (b 3 (s (d ah [44,45,46,47]) (s (d CR [10,12,48,49,50,51,52,53,54,55,56,57,58,59,60,61,62]) (s (d di [11,63,64,65,66,67,68,69]) (d dj [13,70,71]))))) (d fj [72]))))
def l1:=(s (p r6) (s (i 35 .skip (x 0)) (s (b 1 (s (d r7 [35,36,37,38]) (s (s (d r8 [39]) (i 40 (x 1) .skip)) (s (d r9 [40]) (s (s (p BX) (b 2 (w l2))) (d EO [8,9,10,41,42,43,44,73,74,75,76,77,78,79,80])))))) (d fk [8,9,40,81]))))
def c:=(s (d r0 [4]) (s (d r1 [0,1,14,15,16,17]) (s (s (d r2 [18,19,20,21,22,23,24]) (i 25 (s (d r3 [5,6,25]) .ret) .skip)) (s (d r4 [25,26,27,28,29,30,31]) (s (s (d r5 [5]) (b 0 (w l1))) (s (d gm [6,7,32,33,34,35,82,83]) .ret))))))
end LB
def LB:AFn:=⟨2,LB.c,[.tmp 4],false⟩
namespace I0
def r0:=[o 6 (.a9 (.c .nil))]
def r1:=[m 11 2,o 12 (.mk 71012 1 4 [(.int .u32 (0))] 11 11),m 7 12]
def r2:=[o 8 (.a9 (.c (.int .u32 (0))))]
def r3:=[m 13 0,o 14 (.len 13),o 15 (.a9 (k 0))]
def r4:=[o 16 (.bin .lss 15 14)]
def r5:=[m 17 15,o 18 (.a5 none 1 13 15),o 19 (.ld false 1 18),m 9 17,m 10 19]
def r6:=[m 20 7,m 21 9,m 22 10,m 23 1,o 24 (.bin .shl 22 23),m 25 8,o 26 (.bin .or 24 25),o 27 (.a5 none 1 20 21),n (.st 1 27 26)]
def r7:=[m 28 10,o 29 (.conv .u64 28),m 30 1,o 31 (.bin .shl 29 30),o 32 (.bin .shr 31 (.c (.int .u64 (32)))),o 33 (.conv .u32 32),m 8 33]
def r8:=[o 34 (.bin .add 15 (k 1)),m 15 34]
def r9:=[m 35 2,m 36 0,o 37 (.len 36),o 38 (.bin .gtr 35 37)]
def BX:=[m 39 7,m 40 0,o 41 (.len 40),m 42 8,o 43 (.a5 none 1 39 41),n (.st 1 43 42)]
def B7:=[m 44 7,m 6 44]
def l1:=(s (p r4) (s (i 16 .skip (x 0)) (s (b 1 (s (d r5 [16,17,18,19]) (s (d r6 [8,9,20,21,22,23,24,25,26,27]) (d r7 [10,28,29,30,31,32,33])))) (d r8 [34]))))
def c:=(s (d r0 [6]) (s (d r1 [11,12]) (s (p r2) (s (s (p r3) (b 0 (w l1))) (s (s (d r9 [1,2,13,14,15,16,35,36,37]) (i 38 (d BX [0,8,38,39,40,41,42,43]) .skip)) (s (d B7 [0,7,8,38,44]) .ret))))))
end I0
def I0:AFn:=⟨3,I0.c,[.tmp 6],false⟩
namespace LI
def r0:=[o 4 (.a9 (.c .nil))]
def r1:=[m 8 0,o 9 (.len 8),o 10 (.mk 10 1 4 [(.int .u32 (0))] 9 9),m 5 10]
def r2:=[o 6 (.a9 (.c (.int .u32 (0))))]
def r3:=[m 11 0,o 12 (.len 11),o 13 (.bin .sub 12 (k 1)),m 7 13]
def r4:=[m 14 7,o 15 (.bin .geq 14 (k 0))]
def r6:=[m 18 5,m 19 7,m 20 0,m 21 7,o 22 (.a5 none 1 20 21),o 23 (.ld false 1 22),m 24 1,o 25 (.bin .shr 23 24),m 26 6,o 27 (.bin .or 25 26),
 o 28 (.a5 none 1 18 19),n (.st 1 28 27)]
def r7:=[m 29 0,m 30 7,o 31 (.a5 none 1 29 30),o 32 (.ld false 1 31),o 33 (.conv .u64 32),m 34 1,o 35 (.bin .sub (.c (.int .u64 (32))) 34),
 o 36 (.bin .shl 33 35),o 37 (.conv .u32 36),m 6 37]
def r5:=[m 16 7,o 17 (.bin .sub 16 (k 1)),m 7 17]
def r8:=[m 38 5,m 4 38]
def l1:=(s (s (d r4 [14]) (i 15 .skip (x 0))) (s (b 1 (s (d r6 [6,15,18,19,20,21,22,23,24,25,26,27,28]) (d r7 [29,30,31,32,33,34,35,36,37]))) (d r5 [16,17])))
def c:=(s (d r0 [4]) (s (d r1 [8,9,10]) (s (p r2) (s (s (d r3 [11,12,13]) (b 0 (w l1))) (s (d r8 [0,1,5,6,7,15,38]) .ret)))))
end LI
def LI:AFn:=⟨2,LI.c,[.tmp 4],false⟩
namespace FI
def r0:=[o 4 (.a9 (.c (.int .u32 (0))))]
def r1:=[m 19 1,o 20 (.len 19),m 5 20]
def r2:=[m 21 0,m 22 5,o 23 (.a5 none 1 21 22),o 24 (.ld false 1 23),o 25 (.conv .u64 24),o 26 (.bin .shl 25 (.c (.int .u64 (32)))),m 27 0,m 28 5,
 o 29 (.bin .sub 28 (k 1)),o 30 (.a5 none 1 27 29),o 31 (.ld false 1 30),o 32 (.conv .u64 31),o 33 (.bin .or 26 32),m 6 33]
def r3:=[m 34 6,m 35 1,m 36 5,o 37 (.bin .sub 36 (k 1)),o 38 (.a5 none 1 35 37),o 39 (.ld false 1 38),o 40 (.conv .u64 39),o 41 (.bin .quo 34 40),m 42 6,
 m 43 1,m 44 5,o 45 (.bin .sub 44 (k 1)),o 46 (.a5 none 1 43 45),o 47 (.ld false 1 46),o 48 (.conv .u64 47),o 49 (.bin .rem 42 48),m 7 41,m 8 49]
def r4:=[m 50 7,o 51 (.bin .geq 50 (.c (.int .u64 (4294967296)))),m 52 51,g 53 52 false (.a9 7),g 54 52 false (.a9 1),g 55 52 false (.a9 5),
 g 56 52 false (.bin .sub 55 (k 2)),g 57 52 false (.a5 none 1 54 56),g 58 52 false (.ld false 1 57),g 59 52 false (.conv .u64 58),
 g 60 52 false (.bin .mul 53 59),g 61 52 false (.a9 8),g 62 52 false (.bin .shl 61 (.c (.int .u64 (32)))),g 63 52 false (.a9 0),g 64 52 false (.a9 5),
 g 65 52 false (.bin .sub 64 (k 2)),g 66 52 false (.a5 none 1 63 65),g 67 52 false (.ld false 1 66),g 68 52 false (.conv .u64 67),
 g 69 52 false (.bin .or 62 68),g 70 52 false (.bin .gtr 60 69),o 71 (.pick 52 (.c (.bool true)) 70)]
def r5:=[m 72 7,o 73 (.bin .sub 72 (.c (.int .u64 (1)))),m 7 73]
def r6:=[m 74 8,m 75 1,m 76 5,o 77 (.bin .sub 76 (k 1)),o 78 (.a5 none 1 75 77),o 79 (.ld false 1 78),o 80 (.conv .u64 79),o 81 (.bin .add 74 80),m 8 81]
def r7:=[m 82 8,o 83 (.bin .geq 82 (.c (.int .u64 (4294967296))))]
def r8:=[o 9 (.a9 (.c (.int .u64 (0)))),o 10 (.a9 (.c (.int .u64 (0))))]
def r9:=[m 84 1,o 85 (.len 84),o 86 (.a9 (k 0))]
def BX:=[o 87 (.bin .lss 86 85)]
def B7:=[m 88 86,o 89 (.a5 none 1 84 86),o 90 (.ld false 1 89),m 11 88,m 12 90]
def ah:=[m 91 7,m 92 12,o 93 (.conv .u64 92),o 94 (.bin .mul 91 93),m 95 9,o 96 (.bin .add 94 95),m 13 96]
def CR:=[m 97 13,o 98 (.bin .shr 97 (.c (.int .u64 (32)))),m 9 98]
def di:=[m 99 0,m 100 11,o 101 (.a5 none 1 99 100),o 102 (.ld false 1 101),o 103 (.conv .u64 102),m 104 13,o 105 (.conv .u32 104),o 106 (.conv .u64 105),
 o 107 (.bin .sub 103 106),m 108 10,o 109 (.bin .sub 107 108),m 14 109]
def dj:=[m 110 0,m 111 11,m 112 14,o 113 (.conv .u32 112),o 114 (.a5 none 1 110 111),n (.st 1 114 113)]
def fj:=[m 115 14,o 116 (.bin .shr 115 (.c (.int .u64 (63)))),m 10 116]
def EO:=[o 117 (.bin .add 86 (k 1)),m 86 117]
def fk:=[m 118 0,m 119 5,o 120 (.a5 none 1 118 119),o 121 (.ld false 1 120),o 122 (.conv .u64 121),m 123 9,o 124 (.bin .sub 122 123),m 125 10,
 o 126 (.bin .sub 124 125),m 15 126]
def gm:=[m 127 0,m 128 5,m 129 15,o 130 (.conv .u32 129),o 131 (.a5 none 1 127 128),n (.st 1 131 130)]
def jo:=[m 132 15,o 133 (.bin .shr 132 (.c (.int .u64 (63)))),o 134 (.bin .eql 133 (.c (.int .u64 (0))))]
def mr:=[m 135 7,o 136 (.conv .u32 135),m 4 136]
def oo:=[o 9 (.a9 (.c (.int .u64 (0))))]
def qz:=[m 137 1,o 138 (.len 137),o 139 (.a9 (k 0))]
def LR:=[o 140 (.bin .lss 139 138)]
def U8:=[m 141 139,o 142 (.a5 none 1 137 139),o 143 (.ld false 1 142),m 16 141,m 17 143]
def Y9:=[m 144 0,m 145 16,o 146 (.a5 none 1 144 145),o 147 (.ld false 1 146),o 148 (.conv .u64 147),m 149 17,o 150 (.conv .u64 149),o 151 (.bin .add 148 150),
 m 152 9,o 153 (.bin .add 151 152),m 18 153]
def ZA:=[m 154 0,m 155 16,m 156 18,o 157 (.conv .u32 156),o 158 (.a5 none 1 154 155),n (.st 1 158 157)]
def ZB:=[m 159 18,o 160 (.bin .shr 159 (.c (.int .u64 (32)))),m 9 160]
def ZC:=[o 161 (.bin .add 139 (k 1)),m 139 161]
def Bq:=[m 162 0,m 163 5,o 164 (.a5 none 1 162 163),o 165 (.ld false 1 164),m 166 9,o 167 (.conv .u32 166),o 168 (.bin .add 165 167),
 o 169 (.a5 none 1 162 163),n (.st 1 169 168)]
def Cz:=[m 170 7,o 171 (.bin .sub 170 (.c (.int .u64 (1)))),o 172 (.conv .u32 171),m 4 172]
def l1:=(s (s (e r4 [50,51,52,53,54,55,56,57,58,59,60,61,62,63,64,65,66,67,68,69,70,83]) (i 71 .skip (x 0))) (b 1 (s (d r5 [71,72,73]) (s (d r6 [74,75,76,77,78,79,80,81]) (s (d r7 [82]) (i 83 (x 0) .skip))))))
def l2:=(s (p BX) (s (i 87 .skip (x 2)) (s (b 3 (s (d B7 [87,88,89,90]) (s (d ah [9,12,91,92,93,94,95,96]) (s (d CR [97,98]) (s (d di [10,13,99,100,101,102,103,104,105,106,107,108,109]) (s (d dj [11,110,111,112,113,114]) (d fj [14,115,116]))))))) (d EO [117]))))
def l3:=(s (p LR) (s (i 140 .skip (x 4)) (s (b 5 (s (d U8 [140,141,142,143]) (s (d Y9 [9,17,144,145,146,147,148,149,150,151,152,153]) (s (d ZA [16,154,155,156,157,158]) (d ZB [18,159,160]))))) (d ZC [161]))))
def c:=(s (d r0 [4]) (s (d r1 [19,20]) (s (e r2 [21,22,23,24,25,26,27,28,29,30,31,32,33]) (s (e r3 [6,34,35,36,37,38,39,40,41,42,43,44,45,46,47,48,49]) (s (b 0 (w l1)) (s (d r8 [8,71,83]) (s (s (p r9) (b 2 (w l2))) (s (d fk [9,10,84,85,86,87,118,119,120,121,122,123,124,125,126]) (s (d gm [127,128,129,130,131]) (s (s (d jo [15,132,133]) (i 134 (s (d mr [0,1,5,7,134,135,136]) .ret) .skip)) (s (d oo [134]) (s (s (d qz [1]) (b 4 (w l3))) (s (d Bq [0,5,9,137,138,139,140,162,163,164,165,166,167,168,169]) (s (d Cz [7,170,171,172]) .ret))))))))))))))
end FI
def FI:AFn:=⟨2,FI.c,[.tmp 4],false⟩
namespace LG
def r0:=[o 4 (.a9 (.c .nil)),o 5 (.a9 (.c .nil))]
def r1:=[m 15 0,m 16 1,o 17 (.call 67 [15,16]),o 18 (.bin .lss 17 (k 0))]
def r2:=[m 19 0,o 20 (.call 62 [19]),o 4 (.a9 (.c .nil)),m 5 20]
def r3:=[m 21 1,o 22 (.len 21),m 6 22]
def r4:=[m 23 0,o 24 (.len 23),m 25 6,o 26 (.bin .sub 24 25),o 27 (.bin .add 26 (k 1)),o 28 (.mk 28 1 4 [(.int .u32 (0))] 27 27),m 7 28]
def r5:=[m 29 6,o 30 (.bin .eql 29 (k 1))]
def r6:=[o 8 (.a9 (.c (.int .u64 (0))))]
def r7:=[m 31 0,o 32 (.len 31),o 33 (.bin .sub 32 (k 1)),m 9 33]
def r8:=[m 34 9,o 35 (.bin .geq 34 (k 0))]
def BX:=[m 38 8,o 39 (.bin .shl 38 (.c (.int .u64 (32)))),m 40 0,m 41 9,o 42 (.a5 none 1 40 41),o 43 (.ld false 1 42),o 44 (.conv .u64 43),
 o 45 (.bin .or 39 44),m 10 45]
def B7:=[m 46 7,m 47 9,m 48 10,m 49 1,o 50 (.a5 none 1 49 (k 0)),o 51 (.ld false 1 50),o 52 (.conv .u64 51),o 53 (.bin .quo 48 52),o 54 (.conv .u32 53),
 o 55 (.a5 none 1 46 47),n (.st 1 55 54)]
def ah:=[m 56 10,m 57 1,o 58 (.a5 none 1 57 (k 0)),o 59 (.ld false 1 58),o 60 (.conv .u64 59),o 61 (.bin .rem 56 60),m 8 61]
def r9:=[m 36 9,o 37 (.bin .sub 36 (k 1)),m 9 37]
def CR:=[m 62 7,o 63 (.e9 65 [62]),m 64 8,o 65 (.conv .u32 64),o 66 (.c9 66 1 [65]),o 67 (.e9 65 [66]),m 4 63,m 5 67]
def di:=[m 68 1,m 69 6,o 70 (.bin .sub 69 (k 1)),o 71 (.a5 none 1 68 70),o 72 (.ld false 1 71),o 73 (.call 64 [72]),o 74 (.conv .u64 73),m 11 74]
def dj:=[m 75 0,m 76 11,m 77 0,o 78 (.len 77),o 79 (.bin .add 78 (k 1)),o 80 (.e9 71 [75,76,79]),m 81 1,m 82 11,m 83 6,o 84 (.call 71 [81,82,83]),
 m 12 80,m 13 84]
def fj:=[m 85 0,o 86 (.len 85),m 87 6,o 88 (.bin .sub 86 87),m 14 88]
def EO:=[m 89 14,o 90 (.bin .geq 89 (k 0))]
def gm:=[m 93 7,m 94 14,m 95 12,m 96 14,m 97 14,m 98 6,o 99 (.bin .add 97 98),o 100 (.bin .add 99 (k 1)),o 101 (.gp 1 95 (some 96) (some 100)),m 102 13,
 o 103 (.e9 73 [101,102]),o 104 (.a5 none 1 93 94),n (.st 1 104 103)]
def fk:=[m 91 14,o 92 (.bin .sub 91 (k 1)),m 14 92]
def jo:=[m 105 7,o 106 (.e9 65 [105]),m 107 12,m 108 6,o 109 (.gp 1 107 none (some 108)),m 110 11,o 111 (.call 72 [109,110]),o 112 (.e9 65 [111]),
 m 4 106,m 5 112]
def l1:=(s (s (d r8 [34]) (i 35 .skip (x 0))) (s (b 1 (s (d BX [8,35,38,39,40,41,42,43,44,45]) (s (d B7 [46,47,48,49,50,51,52,53,54,55]) (d ah [10,56,57,58,59,60,61])))) (d r9 [36,37])))
def l2:=(s (s (d EO [89]) (i 90 .skip (x 2))) (s (b 3 (d gm [90,93,94,95,96,97,98,99,100,101,102,103,104])) (d fk [91,92])))
def c:=(s (d r0 [4,5]) (s (s (d r1 [15,16,17]) (i 18 (s (d r2 [0,1,18,19,20]) .ret) .skip)) (s (d r3 [18,21,22]) (s (d r4 [23,24,25,26,27,28]) (s (s (d r5 [29]) (i 30 (s (d r6 [6,30]) (s (s (d r7 [31,32,33]) (b 0 (w l1))) (s (d CR [0,1,7,8,9,35,62,63,64,65,66,67]) .ret))) .skip)) (s (d di [30,68,69,70,71,72,73,74]) (s (d dj [1,75,76,77,78,79,80,81,82,83,84]) (s (s (d fj [0,85,86,87,88]) (b 2 (w l2))) (s (e jo [6,7,11,12,13,14,90,105,106,107,108,109,110,111,112]) .ret)))))))))
end LG
def LG:AFn:=⟨2,LG.c,[.tmp 4,.tmp 5],false⟩
namespace LA
def r0:=[o 4 (.a9 (.c .nil)),o 5 (.a9 (.c .nil)),o 6 (.a9 (k 0))]
def r1:=[m 10 1,o 11 (.e9 65 [10]),m 7 11]
def r2:=[m 12 7,o 13 (.len 12),o 14 (.bin .eql 13 (k 0))]
def r3:=[o 4 (.a9 (.c .nil)),o 5 (.a9 (.c .nil)),o 6 (.a9 (k 3))]
def r4:=[m 16 0,o 17 (.e9 65 [16]),m 18 7,o 19 (.call 74 [17,18]),m 15 19,o 20 (.ext 15 0),o 21 (.ext 15 1),m 8 20,m 9 21]
def r5:=[m 22 8,m 23 9,m 4 22,m 5 23,o 6 (.a9 (k 0))]
def c:=(s (d r0 [4,5,6]) (s (d r1 [1,10,11]) (s (s (d r2 [12,13]) (i 14 (s (d r3 [0,7,14]) .ret) .skip)) (s (d r4 [0,7,14,15,16,17,18,19,20,21]) (s (d r5 [8,9,22,23]) .ret)))))
end LA
def LA:AFn:=⟨2,LA.c,[.tmp 4,.tmp 5,.tmp 6],false⟩
namespace LK
def r0:=[o 2 (.a9 (.c (.int .u64 (0))))]
def r1:=[o 3 (.a9 (.c (.int .u64 (0))))]
def r2:=[m 6 0,o 7 (.len 6),o 8 (.a9 (k 0))]
def r3:=[o 9 (.bin .lss 8 7)]
def r4:=[m 10 8,o 11 (.a5 none 1 6 8),o 12 (.ld false 1 11),m 4 10,m 5 12]
def r5:=[m 13 3,m 14 5,o 15 (.conv .u64 14),m 16 4,o 17 (.bin .mul (k 32) 16),o 18 (.bin .shl 15 17),o 19 (.bin .or 13 18),m 3 19]
def r6:=[o 20 (.bin .add 8 (k 1)),m 8 20]
def r7:=[m 21 3,m 2 21]
def l1:=(s (p r3) (s (i 9 .skip (x 0)) (s (b 1 (s (d r4 [9,10,11,12]) (d r5 [4,5,13,14,15,16,17,18,19]))) (d r6 [20]))))
def c:=(s (d r0 [2]) (s (p r1) (s (s (d r2 [0]) (b 0 (w l1))) (s (d r7 [3,6,7,8,9,21]) .ret))))
end LK
def LK:AFn:=⟨1,LK.c,[.tmp 2],false⟩
namespace HQ
def r0:=[o 3 (.a9 (.c (.int .u64 (0))))]
def r1:=[m 4 0,o 5 (.ld false 1 1),o 6 (.len 5),o 7 (.bin .lss 4 6)]
def r2:=[o 8 (.ld false 1 1),m 9 0,o 10 (.a5 none 1 8 9),o 11 (.ld false 1 10),o 12 (.conv .u64 11),m 3 12]
def r3:=[o 3 (.a9 (.c (.int .u64 (0))))]
def c:=(s (d r0 [3]) (s (s (d r1 [4,5,6]) (i 7 (s (d r2 [0,1,7,8,9,10,11,12]) .ret) .skip)) (s (d r3 [0,1,7]) .ret)))
end HQ
def HQ:AFn:=⟨2,HQ.c,[.tmp 3],false⟩
namespace LH
def r0:=[o 3 (.box 3 0),o 6 (.a9 (k 0))]
def r1:=[o 9 (.qa false 77 [3]),m 7 9]
def r2:=[m 10 7,m 11 1,o 12 (.bin .sub 11 (k 1)),o 13 (.n8 10 [12]),o 14 (.bin .shl 13 (.c (.int .u64 (32)))),m 15 7,m 16 1,o 17 (.bin .sub 16 (k 2)),
 o 18 (.n8 15 [17]),o 19 (.bin .or 14 18),m 20 2,o 21 (.bin .shl 19 20),m 8 21]
def r3:=[m 22 8,m 23 7,m 24 1,o 25 (.bin .sub 24 (k 3)),o 26 (.n8 23 [25]),m 27 2,o 28 (.bin .shl 26 27),o 29 (.bin .shr 28 (.c (.int .u64 (32)))),
 o 30 (.bin .or 22 29),m 8 30]
def r4:=[m 31 8,o 32 (.bin .shr 31 (.c (.int .u64 (2)))),o 33 (.conv .i64 32),m 6 33]
def c:=(s (d r0 [0,6]) (s (d r1 [3,9]) (s (d r2 [10,11,12,13,14,15,16,17,18,19,20,21]) (s (d r3 [1,2,7,22,23,24,25,26,27,28,29,30]) (s (d r4 [8,31,32,33]) .ret)))))
end LH
def LH:AFn:=⟨3,LH.c,[.tmp 6],false⟩
namespace LE
def r0:=[o 4 (.a9 (k 0)),o 5 (.a9 (k 0)),o 6 (.a9 (k 0)),o 7 (.a9 (k 0))]
def r1:=[o 4 (.a9 (k 1)),o 7 (.a9 (k 1))]
def r2:=[m 11 1,m 12 6,o 13 (.bin .add 11 12),o 14 (.bin .neq 13 (k 0)),m 15 14,g 16 15 true (.a9 1),g 17 15 true (.a9 7),g 18 15 true (.bin .add 16 17),
 g 19 15 true (.bin .neq 18 (k 0)),o 20 (.pick 15 19 (.c (.bool false)))]
def r3:=[m 21 0,m 22 4,o 23 (.bin .add 21 22),m 24 1,m 25 6,o 26 (.bin .add 24 25),o 27 (.bin .quo 23 26),m 8 27]
def r4:=[m 28 8,m 29 0,m 30 5,o 31 (.bin .add 29 30),m 32 1,m 33 7,o 34 (.bin .add 32 33),o 35 (.bin .quo 31 34),o 36 (.bin .neq 28 35),m 37 36,
 g 38 37 false (.a9 8),g 39 37 false (.bin .gtr 38 (k 2147483647)),o 40 (.pick 37 (.c (.bool true)) 39)]
def r5:=[m 41 4,m 42 8,m 43 6,o 44 (.bin .mul 42 43),o 45 (.bin .sub 41 44),m 46 5,m 47 8,m 48 7,o 49 (.bin .mul 47 48),o 50 (.bin .sub 46 49),m 9 45,m 10 50]
def r6:=[m 51 9,m 52 9,o 53 (.un .neg 52),m 54 10,m 55 10,o 56 (.un .neg 55),o 57 (.mm true [51,53,54,56]),o 58 (.bin .gtr 57 (k 2147483647))]
def r7:=[m 59 6,m 60 7,m 61 9,m 62 10,m 4 59,m 5 60,m 6 61,m 7 62]
def r8:=[m 63 1,m 64 0,m 65 8,m 66 1,o 67 (.bin .mul 65 66),o 68 (.bin .sub 64 67),m 0 63,m 1 68]
def r9:=[m 69 4,m 70 5,m 71 6,m 72 7,m 4 69,m 5 70,m 6 71,m 7 72]
def l1:=(s (s (d r2 [11,12,13,14,15,16,17,18,19]) (i 20 .skip (x 0))) (b 1 (s (d r3 [20,21,22,23,24,25,26,27]) (s (s (d r4 [28,29,30,31,32,33,34,35,36,37,38,39]) (i 40 (x 0) .skip)) (s (d r5 [40,41,42,43,44,45,46,47,48,49,50]) (s (s (d r6 [51,52,53,54,55,56,57]) (i 58 (x 0) .skip)) (s (d r7 [9,10,58,59,60,61,62]) (d r8 [8,63,64,65,66,67,68]))))))))
def c:=(s (d r0 [4,7]) (s (p r1) (s (b 0 (w l1)) (s (d r9 [0,1,8,9,10,20,40,58,69,70,71,72]) .ret))))
end LE
def LE:AFn:=⟨2,LE.c,[.tmp 4,.tmp 5,.tmp 6,.tmp 7],false⟩
namespace LF
def r0:=[o 8 (.a9 (.c .nil))]
def r1:=[m 14 0,o 15 (.len 14),o 16 (.mk 16 1 4 [(.int .u32 (0))] 15 15),m 9 16]
def r2:=[o 10 (.a9 (k 0))]
def r3:=[m 17 0,o 18 (.len 17),o 19 (.a9 (k 0))]
def r4:=[o 20 (.bin .lss 19 18)]
def r5:=[m 21 19,o 22 (.a5 none 1 17 19),o 23 (.ld false 1 22),m 11 21,m 12 23]
def r6:=[m 24 2,m 25 12,o 26 (.conv .i64 25),o 27 (.bin .mul 24 26),m 28 10,o 29 (.bin .add 27 28),m 13 29]
def r7:=[m 30 11,m 31 1,o 32 (.len 31),o 33 (.bin .lss 30 32)]
def r8:=[m 34 13,m 35 3,m 36 1,m 37 11,o 38 (.a5 none 1 36 37),o 39 (.ld false 1 38),o 40 (.conv .i64 39),o 41 (.bin .mul 35 40),o 42 (.bin .add 34 41),
 m 13 42]
def r9:=[m 43 9,m 44 11,m 45 13,o 46 (.conv .u32 45),o 47 (.a5 none 1 43 44),n (.st 1 47 46)]
def BX:=[m 48 13,o 49 (.bin .shr 48 (.c (.int .u64 (32)))),m 10 49]
def B7:=[o 50 (.bin .add 19 (k 1)),m 19 50]
def ah:=[m 51 9,o 52 (.e9 65 [51]),m 8 52]
def l1:=(s (p r4) (s (i 20 .skip (x 0)) (s (b 1 (s (d r5 [20,21,22,23]) (s (d r6 [10,12,24,25,26,27,28,29]) (s (s (d r7 [30,31,32]) (i 33 (d r8 [33,34,35,36,37,38,39,40,41,42]) .skip)) (s (d r9 [11,33,43,44,45,46,47]) (d BX [13,48,49])))))) (d B7 [50]))))
def c:=(s (d r0 [8]) (s (d r1 [14,15,16]) (s (p r2) (s (s (d r3 [0]) (b 0 (w l1))) (s (d ah [1,2,3,9,10,17,18,19,20,51,52]) .ret)))))
end LF
def LF:AFn:=⟨4,LF.c,[.tmp 8],false⟩
namespace LJ
def r0:=[o 4 (.a9 (.c .nil)),o 5 (.a9 (.c .nil))]
def r1:=[m 14 0,o 15 (.len 14),m 6 15]
def r2:=[m 16 0,m 17 6,o 18 (.bin .sub 17 (k 1)),o 19 (.a5 none 1 16 18),o 20 (.ld false 1 19),o 21 (.call 64 [20]),o 22 (.conv .u64 21),m 7 22]
def r3:=[m 24 0,m 25 6,m 26 7,o 27 (.call 78 [24,25,26]),m 28 1,m 29 6,m 30 7,o 31 (.call 78 [28,29,30]),o 32 (.call 79 [27,31]),m 23 32,o 33 (.ext 23 0),
 o 34 (.ext 23 1),o 35 (.ext 23 2),o 36 (.ext 23 3),m 8 33,m 9 34,m 10 35,m 11 36]
def r4:=[m 37 9,o 38 (.bin .eql 37 (k 0))]
def r5:=[m 40 0,m 41 1,o 42 (.call 74 [40,41]),m 39 42,o 43 (.ext 39 0),o 44 (.ext 39 1),m 12 43,m 13 44]
def r6:=[m 45 1,m 46 13,m 4 45,m 5 46]
def r7:=[m 47 0,m 48 1,m 49 8,m 50 9,o 51 (.call 80 [47,48,49,50]),m 52 0,m 53 1,m 54 10,m 55 11,o 56 (.call 80 [52,53,54,55]),m 4 51,m 5 56]
def c:=(s (d r0 [4,5]) (s (d r1 [14,15]) (s (d r2 [16,17,18,19,20,21,22]) (s (d r3 [6,7,23,24,25,26,27,28,29,30,31,32,33,34,35,36]) (s (s (d r4 [37]) (i 38 (s (d r5 [0,8,9,10,11,12,38,39,40,41,42,43,44]) (s (d r6 [1,13,45,46]) .ret)) .skip)) (s (d r7 [0,1,8,9,10,11,38,47,48,49,50,51,52,53,54,55,56]) .ret))))))
end LJ
def LJ:AFn:=⟨2,LJ.c,[.tmp 4,.tmp 5],false⟩
namespace F6
def r0:=[o 4 (.a9 (.c .nil))]
def r1:=[m 11 0,o 12 (.call 66 [11]),m 13 1,o 14 (.call 66 [13]),m 5 12,m 6 14]
def r2:=[m 15 5,m 16 6,o 17 (.call 67 [15,16]),o 18 (.bin .lss 17 (k 0))]
def r3:=[m 19 6,m 20 5,m 5 19,m 6 20]
def r4:=[m 21 6,o 22 (.len 21),o 23 (.bin .gtr 22 (k 2))]
def r5:=[m 25 5,m 26 6,o 27 (.call 81 [25,26]),m 24 27,o 28 (.ext 24 0),o 29 (.ext 24 1),m 5 28,m 6 29]
def r6:=[m 30 6,o 31 (.len 30),o 32 (.bin .eql 31 (k 0))]
def r7:=[m 33 5,m 4 33]
def r8:=[m 35 5,m 36 6,o 37 (.call 74 [35,36]),m 34 37,o 38 (.ext 34 0),o 39 (.ext 34 1),m 7 38,m 8 39]
def r9:=[m 40 6,o 41 (.call 76 [40]),m 42 8,o 43 (.call 76 [42]),m 9 41,m 10 43]
def BX:=[m 44 10,o 45 (.bin .neq 44 (.c (.int .u64 (0))))]
def B7:=[m 46 10,m 47 9,m 48 10,o 49 (.bin .rem 47 48),m 9 46,m 10 49]
def ah:=[m 50 9,o 51 (.conv .u32 50),m 52 9,o 53 (.bin .shr 52 (.c (.int .u64 (32)))),o 54 (.conv .u32 53),o 55 (.c9 55 1 [51,54]),o 56 (.e9 65 [55]),
 m 4 56]
def l1:=(s (s (d r4 [18,21,22]) (i 23 .skip (x 0))) (b 1 (d r5 [23,24,25,26,27,28,29])))
def l2:=(s (s (d BX [44]) (i 45 .skip (x 2))) (b 3 (e B7 [45,46,47,48,49])))
def c:=(s (d r0 [4]) (s (d r1 [0,1,11,12,13,14]) (s (s (d r2 [15,16,17]) (i 18 (d r3 [18,19,20]) .skip)) (s (b 0 (w l1)) (s (s (d r6 [23,30,31]) (i 32 (s (d r7 [5,6,32,33]) .ret) .skip)) (s (d r8 [5,7,32,34,35,36,37,38,39]) (s (d r9 [6,8,40,41,42,43]) (s (b 2 (w l2)) (s (d ah [9,10,45,50,51,52,53,54,55,56]) .ret)))))))))
end F6
def F6:AFn:=⟨2,F6.c,[.tmp 4],false⟩
structure e5 (L:Lib):Prop where
 KD:L 58=some F.KD
 KE:L 59=some F.KE
 KB:L 60=some F.KB
 KC:L 61=some F.KC
 G1:L 62=some F.G1
 K5:L 63=some F.K5
 K4:L 64=some F.K4
 FD:L 65=some F.FD
 LD:L 66=some F.LD
 K9:L 67=some F.K9
 K8:L 68=some F.K8
 LC:L 69=some F.LC
 LB:L 70=some F.LB
 I0:L 71=some F.I0
 LI:L 72=some F.LI
 FI:L 73=some F.FI
 LG:L 74=some F.LG
 LA:L 75=some F.LA
 LK:L 76=some F.LK
 HQ:L 77=some F.HQ
 LH:L 78=some F.LH
 LE:L 79=some F.LE
 LF:L 80=some F.LF
 LJ:L 81=some F.LJ
 F6:L 82=some F.F6
end Go.e8.F

namespace Go.e8.F
open C
namespace CY
def r0:=[o 4 (.alloc 83004 [(.bool false),.nil])]
def r1:=[m 5 0,m 6 5,g 7 6 true (.a9 1),g 8 6 true (.len 7),g 9 6 true (.bin .gtr 8 (k 0)),o 10 (.pick 6 9 (.c (.bool false))),m 11 1,
 o 12 (.build [(.bool false),.nil] [(0,1,10),(1,1,11)]),n (.st 2 4 12)]
def c:=(s (p r0) (s (d r1 [0,1,5,6,7,8,9,10,11,12]) .ret))
end CY
def CY:AFn:=⟨2,CY.c,[.cell 4 true 2],false⟩
namespace KQ
def r0:=[o 1 (.box 1 0),o 2 (.alloc 2 [(.bool false),.nil])]
def r1:=[o 3 (.a6 1 0),o 4 (.ld false 1 3),o 5 (.a6 1 1),o 6 (.ld false 1 5),o 7 (.call 66 [6]),o 8 (.e9 83 [4,7]),n (.st 2 2 8)]
def c:=(s (d r0 [0]) (s (e r1 [1,3,4,5,6,7,8]) .ret))
end KQ
def KQ:AFn:=⟨1,KQ.c,[.cell 2 true 2],false⟩
namespace KO
def r0:=[o 2 (.alloc 2 [(.bool false),.nil])]
def r1:=[m 4 0,o 5 (.conv .u64 4),m 3 5]
def r2:=[m 6 0,o 7 (.bin .lss 6 (k 0))]
def r3:=[m 8 3,o 9 (.un .neg 8),m 3 9]
def r4:=[m 10 0,o 11 (.bin .lss 10 (k 0)),m 12 3,o 13 (.conv .u32 12),m 14 3,o 15 (.bin .shr 14 (.c (.int .u64 (32)))),o 16 (.conv .u32 15),
 o 17 (.c9 17 1 [13,16]),o 18 (.call 66 [17]),o 19 (.e9 83 [11,18]),n (.st 2 2 19)]
def c:=(s (p r0) (s (d r1 [4,5]) (s (s (d r2 [6]) (i 7 (d r3 [7,8,9]) .skip)) (s (d r4 [0,3,7,10,11,12,13,14,15,16,17,18,19]) .ret))))
end KO
def KO:AFn:=⟨1,KO.c,[.cell 2 true 2],false⟩
namespace KP
def r0:=[o 1 (.box 1 0),o 2 (.a9 (k 0))]
def r1:=[o 4 (.a6 1 1),o 5 (.ld false 1 4),o 6 (.call 67 [5,(.c .nil)]),o 7 (.bin .eql 6 (k 0)),m 3 7]
def r2:=[o 2 (.a9 (k 0))]
def r3:=[o 9 (.a6 1 0),o 10 (.ld false 1 9),m 8 10]
def r4:=[o 2 (.a9 (k (-1)))]
def r5:=[o 2 (.a9 (k 1))]
def c:=(s (d r0 [0,2]) (s (b 0 (s (d r1 [4,5,6,7]) (i 3 (s (d r2 [1,3]) .ret) (s (d r3 [1,3,9,10]) (i 8 (s (d r4 [8]) .ret) .skip))))) (s (d r5 [8]) .ret)))
end KP
def KP:AFn:=⟨1,KP.c,[.tmp 2],false⟩
namespace KJ
def r0:=[o 2 (.box 2 0),o 3 (.box 3 1),o 4 (.alloc 4 [(.bool false),.nil])]
def r1:=[o 5 (.a6 2 0),o 6 (.ld false 1 5),o 7 (.a6 3 0),o 8 (.ld false 1 7),o 9 (.beq false 6 8)]
def r2:=[o 10 (.a6 2 0),o 11 (.ld false 1 10),o 12 (.a6 2 1),o 13 (.ld false 1 12),o 14 (.a6 3 1),o 15 (.ld false 1 14),o 16 (.call 68 [13,15]),
 o 17 (.e9 83 [11,16]),n (.st 2 4 17)]
def r3:=[o 18 (.a6 2 1),o 19 (.ld false 1 18),o 20 (.a6 3 1),o 21 (.ld false 1 20),o 22 (.call 67 [19,21]),o 23 (.bin .eql 22 (k (-1)))]
def r4:=[o 24 (.a6 3 0),o 25 (.ld false 1 24),o 26 (.a6 3 1),o 27 (.ld false 1 26),o 28 (.a6 2 1),o 29 (.ld false 1 28),o 30 (.call 69 [27,29]),
 o 31 (.e9 83 [25,30]),n (.st 2 4 31)]
def r5:=[o 32 (.a6 2 0),o 33 (.ld false 1 32),o 34 (.a6 2 1),o 35 (.ld false 1 34),o 36 (.a6 3 1),o 37 (.ld false 1 36),o 38 (.call 69 [35,37]),
 o 39 (.e9 83 [33,38]),n (.st 2 4 39)]
def c:=(s (d r0 [0,1]) (s (s (d r1 [5,6,7,8]) (i 9 (s (e r2 [2,3,9,10,11,12,13,14,15,16,17]) .ret) .skip)) (s (s (d r3 [9,18,19,20,21,22]) (i 23 (s (e r4 [2,3,23,24,25,26,27,28,29,30,31]) .ret) .skip)) (s (e r5 [2,3,23,32,33,34,35,36,37,38,39]) .ret))))
end KJ
def KJ:AFn:=⟨2,KJ.c,[.cell 4 true 2],false⟩
namespace KM
def r0:=[o 2 (.box 2 0),o 3 (.box 3 1),o 4 (.alloc 4 [(.bool false),.nil])]
def r1:=[o 5 (.a6 2 0),o 6 (.ld false 1 5),o 7 (.a6 3 0),o 8 (.ld false 1 7),o 9 (.beq true 6 8),o 10 (.a6 2 1),o 11 (.ld false 1 10),o 12 (.a6 3 1),
 o 13 (.ld false 1 12),o 14 (.call 70 [11,13]),o 15 (.e9 83 [9,14]),n (.st 2 4 15)]
def c:=(s (d r0 [0,1]) (s (e r1 [2,3,5,6,7,8,9,10,11,12,13,14,15]) .ret))
end KM
def KM:AFn:=⟨2,KM.c,[.cell 4 true 2],false⟩
namespace HW
def r0:=[o 1 (.box 1 0),o 2 (.alloc 2 [(.bool false),.nil,.nil,(.bool false)])]
def r1:=[o 3 (.a6 1 2),o 4 (.ld false 1 3),o 5 (.len 4),o 6 (.bin .eql 5 (k 1)),m 7 6,g 8 7 true (.a6 1 2),g 9 7 true (.ld false 1 8),
 g 10 7 true (.a5 none 1 9 (k 0)),g 11 7 true (.ld false 1 10),g 12 7 true (.bin .eql 11 (.c (.int .u32 (1)))),o 13 (.pick 7 12 (.c (.bool false)))]
def r2:=[o 14 (.a6 1 0),o 15 (.ld true 2 14),o 16 (.a6 1 2),o 17 (.ld false 1 16),o 18 (.build [(.bool false),.nil,.nil] [(0,2,15),(2,1,17)]),
 o 19 (.build [(.bool false),.nil,.nil,(.bool false)] [(0,3,18),(3,1,(.c (.bool true)))]),n (.st 4 2 19)]
def r3:=[o 20 (.a6 1 2),o 21 (.ld false 1 20),o 22 (.call 67 [21,(.c .nil)]),o 23 (.bin .eql 22 (k 0))]
def r4:=[o 24 (.build [(.bool false),.nil] []),o 25 (.c9 25 1 [(.c (.int .u32 (1)))]),o 26 (.build [(.bool false),.nil,.nil] [(0,2,24),(2,1,25)]),
 o 27 (.build [(.bool false),.nil,.nil,(.bool false)] [(0,3,26),(3,1,(.c (.bool true)))]),n (.st 4 2 27)]
def r5:=[o 28 (.a6 1 0),o 29 (.ld true 2 28),o 30 (.a6 1 2),o 31 (.ld false 1 30),o 32 (.build [(.bool false),.nil,.nil] [(0,2,29),(2,1,31)]),
 o 33 (.build [(.bool false),.nil,.nil,(.bool false)] [(0,3,32),(3,1,(.c (.bool false)))]),n (.st 4 2 33)]
def c:=(s (d r0 [0]) (s (s (d r1 [3,4,5,6,7,8,9,10,11,12]) (i 13 (s (d r2 [1,13,14,15,16,17,18,19]) .ret) .skip)) (s (s (d r3 [13,20,21,22]) (i 23 (s (d r4 [1,23,24,25,26,27]) .ret) .skip)) (s (d r5 [1,23,28,29,30,31,32,33]) .ret))))
end HW
def HW:AFn:=⟨1,HW.c,[.cell 2 true 4],false⟩
namespace LZ
def r0:=[o 2 (.a9 (.c (.bool false)))]
def r1:=[m 3 0,o 4 (.len 3),o 5 (.bin .eql 4 (k 1)),m 6 5,g 7 6 true (.a9 0),g 8 6 true (.a5 none 1 7 (k 0)),g 9 6 true (.ld false 1 8),
 g 10 6 true (.bin .eql 9 (.c (.int .u32 (1)))),o 11 (.pick 6 10 (.c (.bool false))),m 2 11]
def c:=(s (d r0 [2]) (s (d r1 [0,3,4,5,6,7,8,9,10,11]) .ret))
end LZ
def LZ:AFn:=⟨1,LZ.c,[.tmp 2],false⟩
namespace L0
def r0:=[o 2 (.alloc 2 [(.bool false),.nil])]
def r1:=[m 3 0,o 4 (.build [(.bool false),.nil] [(1,1,3)]),n (.st 2 2 4)]
def c:=(s (p r0) (s (d r1 [0,3,4]) .ret))
end L0
def L0:AFn:=⟨1,L0.c,[.cell 2 true 2],false⟩
namespace GY
def r0:=[o 1 (.box 92001 0),o 2 (.alloc 92002 [(.bool false),.nil,.nil])]
def r1:=[o 3 (.ld true 2 1),o 4 (.c9 92004 1 [(.c (.int .u32 (1)))]),o 5 (.build [(.bool false),.nil,.nil] [(0,2,3),(2,1,4)]),n (.st 3 2 5)]
def c:=(s (d r0 [0]) (s (d r1 [1,3,4,5]) .ret))
end GY
def GY:AFn:=⟨1,GY.c,[.cell 2 true 3],false⟩
namespace L2
def r0:=[o 2 (.box 93002 0),o 3 (.box 93003 1),o 4 (.alloc 93004 [(.bool false),.nil,.nil])]
def r1:=[o 5 (.a6 2 0),o 6 (.ld false 1 5),o 7 (.a6 3 0),o 8 (.ld false 1 7),o 9 (.beq true 6 8),o 10 (.a6 2 1),o 11 (.ld false 1 10),
 o 12 (.build [(.bool false),.nil] [(0,1,9),(1,1,11)]),o 13 (.a6 3 1),o 14 (.ld false 1 13),
 o 15 (.build [(.bool false),.nil,.nil] [(0,2,12),(2,1,14)]),n (.st 3 4 15)]
def c:=(s (d r0 [0,1]) (s (d r1 [2,3,5,6,7,8,9,10,11,12,13,14,15]) .ret))
end L2
def L2:AFn:=⟨2,L2.c,[.cell 4 true 3],false⟩
namespace L1
def r0:=[o 1 (.box 1 0),o 2 (.alloc 2 [(.bool false),.nil,.nil])]
def r1:=[o 14 (.a6 1 0),o 15 (.a6 14 1),o 16 (.ld false 1 15),o 17 (.a6 1 2),o 18 (.ld false 1 17),o 19 (.call 75 [16,18]),m 13 19,o 20 (.ext 13 0),
 o 21 (.ext 13 1),o 22 (.ext 13 2),m 3 20,m 4 21,m 5 22]
def r2:=[m 23 4,o 24 (.len 23),o 25 (.bin .eql 24 (k 0))]
def r3:=[o 26 (.a6 1 0),o 27 (.a6 26 0),o 28 (.ld false 1 27),m 29 3,o 30 (.build [(.bool false),.nil] [(0,1,28),(1,1,29)]),o 31 (.call 84 [30]),
 o 32 (.e9 92 [31]),n (.st 3 2 32)]
def r4:=[o 33 (.a6 1 2),o 34 (.ld false 1 33),m 35 4,o 36 (.call 82 [34,35]),m 6 36]
def r5:=[m 37 6,o 38 (.call 90 [37])]
def r6:=[o 39 (.a6 1 0),o 40 (.ld true 2 39),o 41 (.call 84 [40]),o 42 (.a6 1 2),o 43 (.ld false 1 42),o 44 (.call 66 [43]),
 o 45 (.build [(.bool false),.nil,.nil] [(0,2,41),(2,1,44)]),n (.st 3 2 45)]
def r7:=[o 47 (.a6 1 0),o 48 (.a6 47 1),o 49 (.ld false 1 48),m 50 6,o 51 (.call 75 [49,50]),m 46 51,o 52 (.ext 46 0),o 53 (.ext 46 1),o 54 (.ext 46 2),
 m 7 52,m 8 53,m 9 54]
def r8:=[o 56 (.a6 1 2),o 57 (.ld false 1 56),m 58 6,o 59 (.call 75 [57,58]),m 55 59,o 60 (.ext 55 0),o 61 (.ext 55 1),o 62 (.ext 55 2),m 10 60,m 11 61,
 m 12 62]
def r9:=[o 63 (.a6 1 0),o 64 (.a6 63 0),o 65 (.ld false 1 64),m 66 7,o 67 (.build [(.bool false),.nil] [(0,1,65),(1,1,66)]),m 68 10,
 o 69 (.build [(.bool false),.nil,.nil] [(0,2,67),(2,1,68)]),n (.st 3 2 69)]
def c:=(s (d r0 [0]) (s (d r1 [5,13,14,15,16,17,18,19,20,21,22]) (s (s (d r2 [23,24]) (i 25 (s (d r3 [1,3,4,25,26,27,28,29,30,31,32]) .ret) .skip)) (s (d r4 [3,4,25,33,34,35,36]) (s (s (d r5 [37]) (i 38 (s (e r6 [1,6,38,39,40,41,42,43,44,45]) .ret) .skip)) (s (d r7 [8,9,38,46,47,48,49,50,51,52,53,54]) (s (d r8 [6,11,12,55,56,57,58,59,60,61,62]) (s (d r9 [1,7,10,63,64,65,66,67,68,69]) .ret))))))))
end L1
def L1:AFn:=⟨1,L1.c,[.cell 2 true 3],false⟩
namespace LX
def r0:=[o 1 (.box 1 0),o 2 (.alloc 2 [(.bool false),.nil,.nil])]
def r1:=[o 3 (.ld true 3 1),o 4 (.o0 89 [3]),o 5 (.ox 4 0 3 true),o 6 (.call 94 [5]),n (.st 3 2 6)]
def c:=(s (d r0 [0]) (s (d r1 [1,3,4,5,6]) .ret))
end LX
def LX:AFn:=⟨1,LX.c,[.cell 2 true 3],false⟩
namespace LU
def r0:=[o 2 (.alloc 2 [(.bool false),.nil,.nil])]
def r1:=[m 3 0,o 4 (.call 85 [3]),o 5 (.e9 92 [4]),n (.st 3 2 5)]
def c:=(s (p r0) (s (d r1 [0,3,4,5]) .ret))
end LU
def LU:AFn:=⟨1,LU.c,[.cell 2 true 3],false⟩
namespace LV
def r0:=[o 1 (.box 1 0),o 2 (.a9 (k 0))]
def r1:=[o 3 (.ld true 3 1),o 4 (.o0 89 [3]),o 5 (.ox 4 0 3 true),o 6 (.ox 5 0 2 true),o 7 (.call 86 [6]),m 2 7]
def c:=(s (d r0 [0,2]) (s (d r1 [1,3,4,5,6,7]) .ret))
end LV
def LV:AFn:=⟨1,LV.c,[.tmp 2],false⟩
namespace HV
def r0:=[o 2 (.box 2 0),o 3 (.box 3 1),o 4 (.alloc 4 [(.bool false),.nil,.nil])]
def r1:=[q 8 [5,6] (.ld true 3 2),q 9 [5,6] (.o0 89 [8]),q 10 [5,6] (.ld true 3 3),q 11 [5,6] (.o0 89 [10]),
 o 5 (.alloc 5 [(.bool false),.nil,.nil,(.bool false)]),o 6 (.alloc 6 [(.bool false),.nil,.nil,(.bool false)]),n (.st 4 5 9),n (.st 4 6 11)]
def r2:=[o 12 (.a6 5 3),o 13 (.ld false 1 12),m 14 13,g 15 14 true (.a6 6 3),g 16 14 true (.ld false 1 15),o 17 (.pick 14 16 (.c (.bool false)))]
def r3:=[o 18 (.a6 5 0),o 19 (.a6 18 0),o 20 (.ld true 2 19),o 21 (.a6 6 0),o 22 (.a6 21 0),o 23 (.ld true 2 22),o 24 (.call 87 [20,23]),
 o 25 (.e9 92 [24]),n (.st 3 4 25)]
def r4:=[o 26 (.a6 5 0),o 27 (.a6 26 2),o 28 (.ld false 1 27),o 29 (.a6 6 0),o 30 (.a6 29 2),o 31 (.ld false 1 30),o 32 (.call 67 [28,31]),
 o 33 (.bin .eql 32 (k 0))]
def r5:=[o 34 (.a6 5 0),o 35 (.a6 34 0),o 36 (.ld true 2 35),o 37 (.a6 6 0),o 38 (.a6 37 0),o 39 (.ld true 2 38),o 40 (.call 87 [36,39]),
 o 41 (.a6 5 0),o 42 (.a6 41 2),o 43 (.ld false 1 42),o 44 (.build [(.bool false),.nil,.nil] [(0,2,40),(2,1,43)]),o 45 (.call 94 [44]),
 n (.st 3 4 45)]
def r6:=[o 46 (.a6 5 0),o 47 (.a6 46 0),q 48 [7] (.ld true 2 47),o 49 (.a6 6 0),o 50 (.a6 49 2),q 51 [7] (.ld false 1 50),
 q 52 [7] (.o0 91 [51]),q 53 [7] (.call 88 [48,52]),o 54 (.a6 6 0),o 55 (.a6 54 0),q 56 [7] (.ld true 2 55),
 o 57 (.a6 5 0),o 58 (.a6 57 2),q 59 [7] (.ld false 1 58),q 60 [7] (.o0 91 [59]),q 61 [7] (.call 88 [56,60]),
 q 62 [7] (.call 87 [53,61]),o 7 (.alloc 7 [(.bool false),.nil]),n (.st 2 7 62)]
def r7:=[o 63 (.ld true 2 7),o 64 (.a6 5 0),o 65 (.a6 64 2),o 66 (.ld false 1 65),o 67 (.a6 6 0),o 68 (.a6 67 2),o 69 (.ld false 1 68),
 o 70 (.call 70 [66,69]),o 71 (.build [(.bool false),.nil,.nil] [(0,2,63),(2,1,70)]),o 72 (.call 94 [71]),n (.st 3 4 72)]
def c:=(s (d r0 [0,1]) (s (e r1 [2,3,8,9,10,11]) (s (s (d r2 [12,13,14,15,16]) (i 17 (s (d r3 [5,6,17,18,19,20,21,22,23,24,25]) .ret) .skip)) (s (s (d r4 [17,26,27,28,29,30,31,32]) (i 33 (s (e r5 [5,6,33,34,35,36,37,38,39,40,41,42,43,44,45]) .ret) .skip)) (s (e r6 [33,46,47,48,49,50,51,52,53,54,55,56,57,58,59,60,61,62]) (s (e r7 [5,6,7,63,64,65,66,67,68,69,70,71,72]) .ret))))))
end HV
def HV:AFn:=⟨2,HV.c,[.cell 4 true 3],false⟩
namespace I2
def r0:=[o 2 (.box 2 0),o 3 (.box 3 1),o 4 (.alloc 4 [(.bool false),.nil,.nil])]
def r1:=[q 8 [5,6] (.ld true 3 2),q 9 [5,6] (.o0 89 [8]),q 10 [5,6] (.ld true 3 3),q 11 [5,6] (.o0 89 [10]),
 o 5 (.alloc 5 [(.bool false),.nil,.nil,(.bool false)]),o 6 (.alloc 6 [(.bool false),.nil,.nil,(.bool false)]),n (.st 4 5 9),n (.st 4 6 11)]
def r2:=[o 12 (.a6 5 0),o 13 (.a6 12 0),o 14 (.ld true 2 13),o 15 (.a6 6 0),o 16 (.a6 15 0),o 17 (.ld true 2 16),o 18 (.call 88 [14,17]),
 o 7 (.alloc 7 [(.bool false),.nil]),n (.st 2 7 18)]
def r3:=[o 19 (.a6 5 3),o 20 (.ld false 1 19),m 21 20,g 22 21 true (.a6 6 3),g 23 21 true (.ld false 1 22),o 24 (.pick 21 23 (.c (.bool false)))]
def r4:=[o 25 (.ld true 2 7),o 26 (.e9 92 [25]),n (.st 3 4 26)]
def r5:=[o 27 (.ld true 2 7),o 28 (.a6 5 0),o 29 (.a6 28 2),o 30 (.ld false 1 29),o 31 (.a6 6 0),o 32 (.a6 31 2),o 33 (.ld false 1 32),
 o 34 (.call 70 [30,33]),o 35 (.build [(.bool false),.nil,.nil] [(0,2,27),(2,1,34)]),o 36 (.call 94 [35]),n (.st 3 4 36)]
def c:=(s (d r0 [0,1]) (s (e r1 [2,3,8,9,10,11]) (s (d r2 [12,13,14,15,16,17,18]) (s (s (d r3 [19,20,21,22,23]) (i 24 (s (d r4 [5,6,7,24,25,26]) .ret) .skip)) (s (e r5 [5,6,7,24,27,28,29,30,31,32,33,34,35,36]) .ret)))))
end I2
def I2:AFn:=⟨2,I2.c,[.cell 4 true 3],false⟩
namespace LS
def r0:=[o 2 (.box 2 0),o 3 (.box 3 1),o 4 (.alloc 4 [(.bool false),.nil,.nil]),o 5 (.a9 (k 0))]
def r1:=[q 10 [6,7] (.ld true 3 2),q 11 [6,7] (.o0 89 [10]),q 12 [6,7] (.ld true 3 3),q 13 [6,7] (.o0 89 [12]),
 o 6 (.alloc 6 [(.bool false),.nil,.nil,(.bool false)]),o 7 (.alloc 7 [(.bool false),.nil,.nil,(.bool false)]),n (.st 4 6 11),n (.st 4 7 13)]
def r2:=[o 14 (.a6 7 0),o 15 (.a6 14 0),o 16 (.ld true 2 15),o 17 (.call 86 [16]),o 18 (.bin .eql 17 (k 0))]
def r3:=[o 19 (.build [(.bool false),.nil,.nil] []),n (.st 3 4 19),o 5 (.a9 (k 3))]
def r4:=[o 20 (.a6 6 0),o 21 (.a6 20 0),q 22 [8] (.ld true 2 21),o 23 (.a6 7 0),o 24 (.a6 23 2),q 25 [8] (.ld false 1 24),
 q 26 [8] (.o0 91 [25]),q 27 [8] (.call 88 [22,26]),o 8 (.alloc 8 [(.bool false),.nil]),n (.st 2 8 27)]
def r5:=[o 28 (.a6 6 0),o 29 (.a6 28 2),q 30 [9] (.ld false 1 29),q 31 [9] (.o0 91 [30]),o 32 (.a6 7 0),o 33 (.a6 32 0),
 q 34 [9] (.ld true 2 33),q 35 [9] (.call 88 [31,34]),o 9 (.alloc 9 [(.bool false),.nil]),n (.st 2 9 35)]
def r6:=[o 36 (.ld true 2 8),o 37 (.ld true 2 9),o 38 (.e9 93 [36,37]),o 39 (.call 94 [38]),n (.st 3 4 39),o 5 (.a9 (k 0))]
def c:=(s (d r0 [0,1,5]) (s (e r1 [2,3,10,11,12,13]) (s (s (d r2 [14,15,16,17]) (i 18 (s (d r3 [6,7,18,19]) .ret) .skip)) (s (e r4 [18,20,21,22,23,24,25,26,27]) (s (e r5 [6,7,28,29,30,31,32,33,34,35]) (s (d r6 [8,9,36,37,38,39]) .ret))))))
end LS
def LS:AFn:=⟨2,LS.c,[.cell 4 true 3,.tmp 5],false⟩
structure b8 (L:Lib):Prop extends e5 L where
 CY:L 83=some F.CY
 KQ:L 84=some F.KQ
 KO:L 85=some F.KO
 KP:L 86=some F.KP
 KJ:L 87=some F.KJ
 KM:L 88=some F.KM
 HW:L 89=some F.HW
 LZ:L 90=some F.LZ
 L0:L 91=some F.L0
 GY:L 92=some F.GY
 L2:L 93=some F.L2
 L1:L 94=some F.L1
 LX:L 95=some F.LX
 LU:L 96=some F.LU
 LV:L 97=some F.LV
 HV:L 98=some F.HV
 I2:L 99=some F.I2
 LS:L 100=some F.LS
end Go.e8.F

namespace Go.e8.F
open C
namespace GZ
def r0:=[o 2 (.a9 (.c .nil))]
def r1:=[m 4 0,o 5 (.len 4),m 3 5]
def r2:=[m 6 3,o 7 (.bin .gtr 6 (k 0)),m 8 7,g 9 8 true (.a9 0),g 10 8 true (.a9 3),g 11 8 true (.bin .sub 10 (k 1)),g 12 8 true (.a5 none 1 9 11),
 g 13 8 true (.ld false 1 12),g 14 8 true (.bin .eql 13 (.c (.int .u32 (0)))),o 15 (.pick 8 14 (.c (.bool false)))]
def r3:=[m 16 3,o 17 (.bin .sub 16 (k 1)),m 3 17]
def r4:=[m 18 0,m 19 3,o 20 (.gp 1 18 none (some 19)),o 21 (.app 101021 1 4 (.c .nil) 20),m 2 21]
def l1:=(s (s (d r2 [6,7,8,9,10,11,12,13,14]) (i 15 .skip (x 0))) (b 1 (d r3 [15,16,17])))
def c:=(s (d r0 [2]) (s (d r1 [4,5]) (s (b 0 (w l1)) (s (d r4 [0,3,15,18,19,20,21]) .ret))))
end GZ
def GZ:AFn:=⟨1,GZ.c,[.tmp 2],false⟩
namespace L5
def r0:=[o 4 (.a9 (k 0))]
def r1:=[m 6 0,o 7 (.call 101 [6]),m 8 1,o 9 (.call 101 [8]),m 0 7,m 1 9]
def r2:=[m 10 0,o 11 (.len 10),m 12 1,o 13 (.len 12),o 14 (.bin .neq 11 13)]
def r3:=[m 15 0,o 16 (.len 15),m 17 1,o 18 (.len 17),o 19 (.bin .lss 16 18)]
def r4:=[o 4 (.a9 (k (-1)))]
def r5:=[o 4 (.a9 (k 1))]
def r6:=[m 20 0,o 21 (.len 20),o 22 (.bin .sub 21 (k 1)),m 5 22]
def r7:=[m 23 5,o 24 (.bin .geq 23 (k 0))]
def r9:=[m 27 0,m 28 5,o 29 (.a5 none 1 27 28),o 30 (.ld false 1 29),m 31 1,m 32 5,o 33 (.a5 none 1 31 32),o 34 (.ld false 1 33),o 35 (.bin .lss 30 34)]
def BX:=[o 4 (.a9 (k (-1)))]
def B7:=[m 36 0,m 37 5,o 38 (.a5 none 1 36 37),o 39 (.ld false 1 38),m 40 1,m 41 5,o 42 (.a5 none 1 40 41),o 43 (.ld false 1 42),o 44 (.bin .gtr 39 43)]
def ah:=[o 4 (.a9 (k 1))]
def r8:=[m 25 5,o 26 (.bin .sub 25 (k 1)),m 5 26]
def CR:=[o 4 (.a9 (k 0))]
def l1:=(s (s (d r7 [23]) (i 24 .skip (x 0))) (s (b 1 (s (s (e r9 [24,27,28,29,30,31,32,33,34]) (i 35 (s (d BX [0,1,5,35]) .ret) .skip)) (s (e B7 [35,36,37,38,39,40,41,42,43]) (i 44 (s (d ah [0,1,5,44]) .ret) .skip)))) (d r8 [25,26,44])))
def c:=(s (d r0 [4]) (s (d r1 [6,7,8,9]) (s (s (d r2 [10,11,12,13]) (i 14 (s (s (d r3 [0,1,14,15,16,17,18]) (i 19 (s (d r4 [19]) .ret) .skip)) (s (d r5 [19]) .ret)) .skip)) (s (s (d r6 [14,20,21,22]) (b 0 (w l1))) (s (d CR [0,1,5,24]) .ret)))))
end L5
def L5:AFn:=⟨2,L5.c,[.tmp 4],false⟩
namespace L3
def r0:=[o 4 (.a9 (.c .nil))]
def r1:=[o 5 (.w9 5 1)]
def r2:=[o 6 (.a9 (.c (.int .u64 (0))))]
def r3:=[o 7 (.a9 (k 0))]
def r4:=[m 8 7,m 9 0,o 10 (.len 9),o 11 (.bin .lss 8 10),m 12 11,g 13 12 false (.a9 7),g 14 12 false (.a9 1),g 15 12 false (.len 14),
 g 16 12 false (.bin .lss 13 15),o 17 (.pick 12 (.c (.bool true)) 16)]
def r6:=[m 20 7,m 21 0,o 22 (.len 21),o 23 (.bin .lss 20 22)]
def r7:=[m 24 6,m 25 0,m 26 7,o 27 (.a5 none 1 25 26),o 28 (.ld false 1 27),o 29 (.conv .u64 28),o 30 (.bin .add 24 29),m 6 30]
def r8:=[m 31 7,m 32 1,o 33 (.len 32),o 34 (.bin .lss 31 33)]
def r9:=[m 35 6,m 36 1,m 37 7,o 38 (.a5 none 1 36 37),o 39 (.ld false 1 38),o 40 (.conv .u64 39),o 41 (.bin .add 35 40),m 6 41]
def BX:=[m 42 5,m 43 6,o 44 (.conv .u32 43),o 45 (.c9 45 1 [44]),o 46 (.app 46 1 4 42 45),m 5 46]
def B7:=[m 47 6,o 48 (.bin .shr 47 (.c (.int .u64 (32)))),m 6 48]
def r5:=[m 18 7,o 19 (.bin .add 18 (k 1)),m 7 19]
def ah:=[m 49 5,m 50 6,o 51 (.conv .u32 50),o 52 (.c9 52 1 [51]),o 53 (.app 53 1 4 49 52),o 54 (.call 101 [53]),m 4 54]
def l1:=(s (s (d r4 [8,9,10,11,12,13,14,15,16]) (i 17 .skip (x 0))) (s (b 1 (s (s (d r6 [17,20,21,22]) (i 23 (d r7 [23,24,25,26,27,28,29,30]) .skip)) (s (s (d r8 [23,31,32,33]) (i 34 (d r9 [34,35,36,37,38,39,40,41]) .skip)) (s (d BX [34,42,43,44,45,46]) (d B7 [47,48]))))) (d r5 [18,19])))
def c:=(s (d r0 [4]) (s (p r1) (s (p r2) (s (s (p r3) (b 0 (w l1))) (s (d ah [0,1,5,6,7,17,49,50,51,52,53,54]) .ret)))))
end L3
def L3:AFn:=⟨2,L3.c,[.tmp 4],false⟩
namespace II
def r0:=[o 4 (.a9 (.c .nil))]
def r1:=[m 10 0,m 11 1,o 12 (.call 102 [10,11]),o 13 (.bin .lss 12 (k 0))]
def r2:=[o 4 (.a9 (.c .nil))]
def r3:=[m 14 1,o 15 (.call 101 [14]),m 1 15]
def r4:=[m 16 0,o 17 (.e9 101 [16]),m 5 17]
def r5:=[o 6 (.a9 (.c (.int .u64 (0))))]
def r6:=[o 7 (.a9 (k 0))]
def r7:=[m 18 7,m 19 5,o 20 (.len 19),o 21 (.bin .lss 18 20)]
def r9:=[m 24 6,m 8 24]
def BX:=[m 25 7,m 26 1,o 27 (.len 26),o 28 (.bin .lss 25 27)]
def B7:=[m 29 8,m 30 1,m 31 7,o 32 (.a5 none 1 30 31),o 33 (.ld false 1 32),o 34 (.conv .u64 33),o 35 (.bin .add 29 34),m 8 35]
def ah:=[m 36 5,m 37 7,o 38 (.a5 none 1 36 37),o 39 (.ld false 1 38),o 40 (.conv .u64 39),m 9 40]
def CR:=[o 6 (.a9 (.c (.int .u64 (0))))]
def di:=[m 41 9,m 42 8,o 43 (.bin .lss 41 42)]
def dj:=[m 44 9,o 45 (.bin .add 44 (.c (.int .u64 (4294967296)))),m 9 45]
def fj:=[o 6 (.a9 (.c (.int .u64 (1))))]
def EO:=[m 46 5,m 47 7,m 48 9,m 49 8,o 50 (.bin .sub 48 49),o 51 (.conv .u32 50),o 52 (.a5 none 1 46 47),n (.st 1 52 51)]
def r8:=[m 22 7,o 23 (.bin .add 22 (k 1)),m 7 23]
def fk:=[m 53 5,o 54 (.call 101 [53]),m 4 54]
def l1:=(s (s (d r7 [18,19,20]) (i 21 .skip (x 0))) (s (b 1 (s (d r9 [6,21,24]) (s (s (d BX [25,26,27]) (i 28 (d B7 [28,29,30,31,32,33,34,35]) .skip)) (s (d ah [28,36,37,38,39,40]) (s (p CR) (s (s (d di [41,42]) (i 43 (s (d dj [6,43,44,45]) (p fj)) .skip)) (d EO [8,9,43,46,47,48,49,50,51,52]))))))) (d r8 [22,23])))
def c:=(s (d r0 [4]) (s (s (d r1 [10,11,12]) (i 13 (s (d r2 [0,1,13]) .ret) .skip)) (s (d r3 [13,14,15]) (s (d r4 [0,16,17]) (s (p r5) (s (s (p r6) (b 0 (w l1))) (s (d fk [1,5,6,7,21,53,54]) .ret)))))))
end II
def II:AFn:=⟨2,II.c,[.tmp 4],false⟩
namespace L7
def r0:=[o 4 (.a9 (.c .nil))]
def r1:=[m 9 0,o 10 (.len 9),m 11 1,o 12 (.len 11),o 13 (.bin .add 10 12),o 14 (.bin .add 13 (k 1)),o 15 (.mk 15 1 4 [(.int .u32 (0))] 14 14),m 5 15]
def r2:=[o 6 (.a9 (k 0))]
def r3:=[m 16 6,m 17 0,o 18 (.len 17),o 19 (.bin .lss 16 18)]
def r5:=[o 7 (.a9 (.c (.int .u64 (0))))]
def r6:=[o 8 (.a9 (k 0))]
def r7:=[m 22 8,m 23 1,o 24 (.len 23),o 25 (.bin .lss 22 24)]
def r9:=[m 28 7,m 29 0,m 30 6,o 31 (.a5 none 1 29 30),o 32 (.ld false 1 31),o 33 (.conv .u64 32),m 34 1,m 35 8,o 36 (.a5 none 1 34 35),
 o 37 (.ld false 1 36),o 38 (.conv .u64 37),o 39 (.bin .mul 33 38),m 40 5,m 41 6,m 42 8,o 43 (.bin .add 41 42),o 44 (.a5 none 1 40 43),
 o 45 (.ld false 1 44),o 46 (.conv .u64 45),o 47 (.bin .add 39 46),o 48 (.bin .add 28 47),m 7 48]
def BX:=[m 49 5,m 50 6,m 51 8,o 52 (.bin .add 50 51),m 53 7,o 54 (.conv .u32 53),o 55 (.a5 none 1 49 52),n (.st 1 55 54)]
def B7:=[m 56 7,o 57 (.bin .shr 56 (.c (.int .u64 (32)))),m 7 57]
def r8:=[m 26 8,o 27 (.bin .add 26 (k 1)),m 8 27]
def ah:=[m 58 5,m 59 6,m 60 1,o 61 (.len 60),o 62 (.bin .add 59 61),m 63 7,o 64 (.conv .u32 63),o 65 (.a5 none 1 58 62),n (.st 1 65 64)]
def r4:=[m 20 6,o 21 (.bin .add 20 (k 1)),m 6 21]
def CR:=[m 66 5,o 67 (.call 101 [66]),m 4 67]
def l2:=(s (s (d r7 [22,23,24]) (i 25 .skip (x 2))) (s (b 3 (s (e r9 [25,28,29,30,31,32,33,34,35,36,37,38,39,40,41,42,43,44,45,46,47,48]) (s (d BX [49,50,51,52,53,54,55]) (d B7 [56,57])))) (d r8 [26,27])))
def l1:=(s (s (d r3 [16,17,18]) (i 19 .skip (x 0))) (s (b 1 (s (d r5 [19]) (s (s (p r6) (b 2 (w l2))) (d ah [7,8,25,58,59,60,61,62,63,64,65])))) (d r4 [20,21])))
def c:=(s (d r0 [4]) (s (d r1 [9,10,11,12,13,14,15]) (s (s (p r2) (b 0 (w l1))) (s (d CR [0,1,5,6,19,66,67]) .ret))))
end L7
def L7:AFn:=⟨2,L7.c,[.tmp 4],false⟩
namespace L4
def r0:=[o 2 (.a9 (k 0))]
def r1:=[m 5 0,o 6 (.call 101 [5]),m 0 6]
def r2:=[m 7 0,o 8 (.len 7),o 9 (.bin .eql 8 (k 0))]
def r3:=[o 2 (.a9 (k 0))]
def r4:=[m 10 0,o 11 (.len 10),o 12 (.bin .sub 11 (k 1)),o 13 (.bin .mul (k 32) 12),m 3 13]
def r5:=[m 14 0,m 15 0,o 16 (.len 15),o 17 (.bin .sub 16 (k 1)),o 18 (.a5 none 1 14 17),o 19 (.ld false 1 18),m 4 19]
def r6:=[m 20 4,o 21 (.bin .gtr 20 (.c (.int .u32 (0))))]
def r8:=[m 24 3,o 25 (.bin .add 24 (k 1)),m 3 25]
def r7:=[m 22 4,o 23 (.bin .shr 22 (.c (.int .u64 (1)))),m 4 23]
def r9:=[m 26 3,m 2 26]
def l1:=(s (s (d r6 [20]) (i 21 .skip (x 0))) (s (b 1 (d r8 [21,24,25])) (d r7 [22,23])))
def c:=(s (d r0 [2]) (s (d r1 [5,6]) (s (s (d r2 [7,8]) (i 9 (s (d r3 [0,9]) .ret) .skip)) (s (d r4 [9,10,11,12,13]) (s (s (d r5 [0,14,15,16,17,18,19]) (b 0 (w l1))) (s (d r9 [3,4,21,26]) .ret))))))
end L4
def L4:AFn:=⟨1,L4.c,[.tmp 2],false⟩
namespace HX
def r0:=[o 4 (.a9 (.c .nil))]
def r1:=[m 11 0,o 12 (.call 101 [11]),m 0 12]
def r2:=[m 13 1,o 14 (.bin .gtr 13 (k 65536)),m 15 14,g 16 15 false (.a9 0),g 17 15 false (.len 16),g 18 15 false (.bin .eql 17 (k 0)),
 o 19 (.pick 15 (.c (.bool true)) 18)]
def r3:=[o 4 (.a9 (.c .nil))]
def r4:=[m 20 1,o 21 (.bin .lss 20 (k 0))]
def r5:=[m 22 1,m 23 0,o 24 (.len 23),o 25 (.bin .mul (k (-32)) 24),o 26 (.bin .lss 22 25)]
def r6:=[o 4 (.a9 (.c .nil))]
def r7:=[m 27 1,o 28 (.un .neg 27),m 1 28]
def r8:=[o 5 (.w9 107005 1)]
def r9:=[m 29 1,o 30 (.bin .quo 29 (k 32)),m 6 30]
def BX:=[m 31 6,m 32 0,o 33 (.len 32),o 34 (.bin .lss 31 33)]
def ah:=[m 37 0,m 38 6,o 39 (.a5 none 1 37 38),o 40 (.ld false 1 39),o 41 (.conv .u64 40),m 7 41]
def CR:=[m 42 6,o 43 (.bin .add 42 (k 1)),m 44 0,o 45 (.len 44),o 46 (.bin .lss 43 45)]
def di:=[m 47 7,m 48 0,m 49 6,o 50 (.bin .add 49 (k 1)),o 51 (.a5 none 1 48 50),o 52 (.ld false 1 51),o 53 (.conv .u64 52),
 o 54 (.bin .shl 53 (.c (.int .u64 (32)))),o 55 (.bin .or 47 54),m 7 55]
def dj:=[m 56 5,m 57 7,m 58 1,o 59 (.bin .rem 58 (k 32)),o 60 (.conv .u64 59),o 61 (.bin .shr 57 60),o 62 (.conv .u32 61),o 63 (.c9 107063 1 [62]),
 o 64 (.app 107064 1 4 56 63),m 5 64]
def B7:=[m 35 6,o 36 (.bin .add 35 (k 1)),m 6 36]
def fj:=[m 65 5,o 66 (.call 101 [65]),m 4 66]
def EO:=[m 67 1,o 68 (.bin .quo 67 (k 32)),o 69 (.mk 107069 1 4 [(.int .u32 (0))] 68 68),m 8 69]
def fk:=[o 9 (.a9 (.c (.int .u64 (0))))]
def gm:=[o 10 (.a9 (k 0))]
def jo:=[m 70 10,m 71 0,o 72 (.len 71),o 73 (.bin .lss 70 72)]
def oo:=[m 76 9,m 77 0,m 78 10,o 79 (.a5 none 1 77 78),o 80 (.ld false 1 79),o 81 (.conv .u64 80),m 82 1,o 83 (.bin .rem 82 (k 32)),o 84 (.conv .u64 83),
 o 85 (.bin .shl 81 84),o 86 (.bin .or 76 85),m 9 86]
def qz:=[m 87 8,m 88 9,o 89 (.conv .u32 88),o 90 (.c9 107090 1 [89]),o 91 (.app 107091 1 4 87 90),m 8 91]
def LR:=[m 92 9,o 93 (.bin .shr 92 (.c (.int .u64 (32)))),m 9 93]
def mr:=[m 74 10,o 75 (.bin .add 74 (k 1)),m 10 75]
def U8:=[m 94 8,m 95 9,o 96 (.conv .u32 95),o 97 (.c9 107097 1 [96]),o 98 (.app 107098 1 4 94 97),o 99 (.e9 101 [98]),m 4 99]
def l1:=(s (s (d BX [31,32,33]) (i 34 .skip (x 0))) (s (b 1 (s (d ah [34,37,38,39,40,41]) (s (s (d CR [42,43,44,45]) (i 46 (d di [46,47,48,49,50,51,52,53,54,55]) .skip)) (d dj [7,46,56,57,58,59,60,61,62,63,64])))) (d B7 [35,36])))
def l2:=(s (s (d jo [70,71,72]) (i 73 .skip (x 2))) (s (b 3 (s (d oo [73,76,77,78,79,80,81,82,83,84,85,86]) (s (d qz [87,88,89,90,91]) (d LR [92,93])))) (d mr [74,75])))
def c:=(s (d r0 [4]) (s (d r1 [11,12]) (s (s (d r2 [13,14,15,16,17,18]) (i 19 (s (d r3 [0,1,19]) .ret) .skip)) (s (s (d r4 [19,20]) (i 21 (s (s (d r5 [21,22,23,24,25]) (i 26 (s (d r6 [0,1,26]) .ret) .skip)) (s (d r7 [26,27,28]) (s (p r8) (s (s (d r9 [29,30]) (b 0 (w l1))) (s (d fj [0,1,5,6,34,65,66]) .ret))))) .skip)) (s (d EO [21,67,68,69]) (s (p fk) (s (s (p gm) (b 2 (w l2))) (s (d U8 [0,1,8,9,10,73,94,95,96,97,98,99]) .ret))))))))
end HX
def HX:AFn:=⟨2,HX.c,[.tmp 4],false⟩
namespace L8
def r0:=[o 4 (.a9 (.c .nil)),o 5 (.a9 (.c (.int .u32 (0))))]
def r1:=[m 9 0,o 10 (.len 9),o 11 (.mk 11 1 4 [(.int .u32 (0))] 10 10),m 6 11]
def r2:=[o 7 (.a9 (.c (.int .u64 (0))))]
def r3:=[m 12 0,o 13 (.len 12),o 14 (.bin .sub 13 (k 1)),m 8 14]
def r4:=[m 15 8,o 16 (.bin .geq 15 (k 0))]
def r6:=[m 19 7,o 20 (.bin .shl 19 (.c (.int .u64 (32)))),m 21 0,m 22 8,o 23 (.a5 none 1 21 22),o 24 (.ld false 1 23),o 25 (.conv .u64 24),
 o 26 (.bin .or 20 25),m 7 26]
def r7:=[m 27 6,m 28 8,m 29 7,m 30 1,o 31 (.conv .u64 30),o 32 (.bin .quo 29 31),o 33 (.conv .u32 32),o 34 (.a5 none 1 27 28),n (.st 1 34 33)]
def r8:=[m 35 7,m 36 1,o 37 (.conv .u64 36),o 38 (.bin .rem 35 37),m 7 38]
def r5:=[m 17 8,o 18 (.bin .sub 17 (k 1)),m 8 18]
def r9:=[m 39 6,o 40 (.call 101 [39]),m 41 7,o 42 (.conv .u32 41),m 4 40,m 5 42]
def l1:=(s (s (d r4 [15]) (i 16 .skip (x 0))) (s (b 1 (s (d r6 [16,19,20,21,22,23,24,25,26]) (s (d r7 [27,28,29,30,31,32,33,34]) (d r8 [35,36,37,38])))) (d r5 [17,18])))
def c:=(s (d r0 [4,5]) (s (d r1 [9,10,11]) (s (p r2) (s (s (d r3 [12,13,14]) (b 0 (w l1))) (s (d r9 [0,1,6,7,8,16,39,40,41,42]) .ret)))))
end L8
def L8:AFn:=⟨2,L8.c,[.tmp 4,.tmp 5],false⟩
namespace DB
def r0:=[o 4 (.a9 (.c .nil)),o 5 (.a9 (.c .nil)),o 6 (.a9 (k 0))]
def r1:=[m 27 0,o 28 (.call 101 [27]),m 29 1,o 30 (.call 101 [29]),m 0 28,m 1 30]
def r2:=[m 31 1,o 32 (.len 31),o 33 (.bin .eql 32 (k 0))]
def r3:=[o 4 (.a9 (.c .nil)),o 5 (.a9 (.c .nil)),o 6 (.a9 (k 3))]
def r4:=[m 34 1,o 35 (.len 34),o 36 (.bin .eql 35 (k 1))]
def r5:=[m 38 0,m 39 1,o 40 (.a5 none 1 39 (k 0)),o 41 (.ld false 1 40),o 42 (.call 108 [38,41]),m 37 42,o 43 (.ext 37 0),o 44 (.ext 37 1),m 7 43,m 8 44]
def r6:=[m 45 7,m 46 8,o 47 (.c9 47 1 [46]),o 48 (.call 101 [47]),m 4 45,m 5 48,o 6 (.a9 (k 0))]
def r7:=[m 49 0,m 50 1,o 51 (.call 102 [49,50]),o 52 (.bin .lss 51 (k 0))]
def r8:=[m 53 0,o 4 (.a9 (.c .nil)),m 5 53,o 6 (.a9 (k 0))]
def r9:=[m 54 1,m 55 1,o 56 (.len 55),o 57 (.bin .sub 56 (k 1)),o 58 (.gp 1 54 (some 57) none),o 59 (.call 106 [58]),o 60 (.bin .sub (k 32) 59),m 9 60]
def BX:=[m 61 0,m 62 9,o 63 (.e9 107 [61,62]),m 64 1,m 65 9,o 66 (.call 107 [64,65]),m 10 63,m 11 66]
def B7:=[m 67 10,o 68 (.c9 68 1 [(.c (.int .u32 (0)))]),o 69 (.app 69 1 4 67 68),m 10 69]
def ah:=[m 70 10,o 71 (.len 70),m 72 0,o 73 (.len 72),o 74 (.bin .add 73 (k 1)),o 75 (.bin .lss 71 74)]
def CR:=[m 76 10,o 77 (.c9 77 1 [(.c (.int .u32 (0)))]),o 78 (.app 78 1 4 76 77),m 10 78]
def di:=[m 79 11,o 80 (.len 79),m 12 80]
def dj:=[m 81 10,o 82 (.len 81),m 83 12,o 84 (.bin .sub 82 83),o 85 (.mk 85 1 4 [(.int .u32 (0))] 84 84),m 13 85]
def fj:=[m 86 10,o 87 (.len 86),m 88 12,o 89 (.bin .sub 87 88),o 90 (.bin .sub 89 (k 1)),m 14 90]
def EO:=[m 91 14,o 92 (.bin .geq 91 (k 0))]
def gm:=[m 95 10,m 96 14,m 97 12,o 98 (.bin .add 96 97),o 99 (.a5 none 1 95 98),o 100 (.ld false 1 99),o 101 (.conv .u64 100),
 o 102 (.bin .shl 101 (.c (.int .u64 (32)))),m 103 10,m 104 14,m 105 12,o 106 (.bin .add 104 105),o 107 (.bin .sub 106 (k 1)),
 o 108 (.a5 none 1 103 107),o 109 (.ld false 1 108),o 110 (.conv .u64 109),o 111 (.bin .or 102 110),m 15 111]
def jo:=[m 112 15,m 113 11,m 114 12,o 115 (.bin .sub 114 (k 1)),o 116 (.a5 none 1 113 115),o 117 (.ld false 1 116),o 118 (.conv .u64 117),
 o 119 (.bin .quo 112 118),m 16 119]
def mr:=[m 120 15,m 121 11,m 122 12,o 123 (.bin .sub 122 (k 1)),o 124 (.a5 none 1 121 123),o 125 (.ld false 1 124),o 126 (.conv .u64 125),
 o 127 (.bin .rem 120 126),m 17 127]
def oo:=[m 128 16,o 129 (.bin .geq 128 (.c (.int .u64 (4294967296)))),m 130 129,g 131 130 false (.a9 16),g 132 130 false (.a9 11),g 133 130 false (.a9 12),
 g 134 130 false (.bin .sub 133 (k 2)),g 135 130 false (.a5 none 1 132 134),g 136 130 false (.ld false 1 135),g 137 130 false (.conv .u64 136),
 g 138 130 false (.bin .mul 131 137),g 139 130 false (.a9 17),g 140 130 false (.bin .shl 139 (.c (.int .u64 (32)))),g 141 130 false (.a9 10),
 g 142 130 false (.a9 14),g 143 130 false (.a9 12),g 144 130 false (.bin .add 142 143),g 145 130 false (.bin .sub 144 (k 2)),
 g 146 130 false (.a5 none 1 141 145),g 147 130 false (.ld false 1 146),g 148 130 false (.conv .u64 147),g 149 130 false (.bin .or 140 148),
 g 150 130 false (.bin .gtr 138 149),o 151 (.pick 130 (.c (.bool true)) 150)]
def qz:=[m 152 16,o 153 (.bin .sub 152 (.c (.int .u64 (1)))),m 16 153]
def LR:=[m 154 17,m 155 11,m 156 12,o 157 (.bin .sub 156 (k 1)),o 158 (.a5 none 1 155 157),o 159 (.ld false 1 158),o 160 (.conv .u64 159),
 o 161 (.bin .add 154 160),m 17 161]
def U8:=[m 162 17,o 163 (.bin .geq 162 (.c (.int .u64 (4294967296))))]
def Y9:=[o 18 (.a9 (.c (.int .u64 (0)))),o 19 (.a9 (.c (.int .u64 (0))))]
def ZA:=[o 20 (.a9 (k 0))]
def ZB:=[m 164 20,m 165 12,o 166 (.bin .lss 164 165)]
def Bq:=[m 169 19,m 170 16,m 171 11,m 172 20,o 173 (.a5 none 1 171 172),o 174 (.ld false 1 173),o 175 (.conv .u64 174),o 176 (.bin .mul 170 175),
 o 177 (.bin .add 169 176),m 19 177]
def Cz:=[m 178 19,o 179 (.bin .and 178 (.c (.int .u64 (4294967295)))),m 180 18,o 181 (.bin .add 179 180),m 21 181]
def r32:=[m 182 19,o 183 (.bin .shr 182 (.c (.int .u64 (32)))),m 19 183]
def r33:=[m 184 10,m 185 20,m 186 14,o 187 (.bin .add 185 186),o 188 (.a5 none 1 184 187),o 189 (.ld false 1 188),o 190 (.conv .u64 189),m 22 190]
def r34:=[o 18 (.a9 (.c (.int .u64 (0))))]
def r35:=[m 191 22,m 192 21,o 193 (.bin .lss 191 192)]
def r36:=[m 194 22,o 195 (.bin .add 194 (.c (.int .u64 (4294967296)))),m 22 195]
def r37:=[o 18 (.a9 (.c (.int .u64 (1))))]
def r38:=[m 196 10,m 197 20,m 198 14,o 199 (.bin .add 197 198),m 200 22,m 201 21,o 202 (.bin .sub 200 201),o 203 (.conv .u32 202),o 204 (.a5 none 1 196 199),
 n (.st 1 204 203)]
def ZC:=[m 167 20,o 168 (.bin .add 167 (k 1)),m 20 168]
def Pk:=[m 205 19,m 206 18,o 207 (.bin .add 205 206),m 23 207]
def Pl:=[m 208 10,m 209 14,m 210 12,o 211 (.bin .add 209 210),o 212 (.a5 none 1 208 211),o 213 (.ld false 1 212),o 214 (.conv .u64 213),m 24 214]
def Pm:=[o 18 (.a9 (.c (.int .u64 (0))))]
def Pn:=[m 215 24,m 216 23,o 217 (.bin .lss 215 216)]
def Po:=[m 218 24,o 219 (.bin .add 218 (.c (.int .u64 (4294967296)))),m 24 219]
def Pp:=[o 18 (.a9 (.c (.int .u64 (1))))]
def Pq:=[m 220 10,m 221 14,m 222 12,o 223 (.bin .add 221 222),m 224 24,m 225 23,o 226 (.bin .sub 224 225),o 227 (.conv .u32 226),o 228 (.a5 none 1 220 223),
 n (.st 1 228 227)]
def Pr:=[m 229 18,o 230 (.bin .eql 229 (.c (.int .u64 (1))))]
def Ps:=[m 231 16,o 232 (.bin .sub 231 (.c (.int .u64 (1)))),m 16 232]
def Pu:=[o 25 (.a9 (.c (.int .u64 (0))))]
def Pv:=[o 26 (.a9 (k 0))]
def r50:=[m 233 26,m 234 12,o 235 (.bin .lss 233 234)]
def r52:=[m 238 25,m 239 10,m 240 26,m 241 14,o 242 (.bin .add 240 241),o 243 (.a5 none 1 239 242),o 244 (.ld false 1 243),o 245 (.conv .u64 244),m 246 11,
 m 247 26,o 248 (.a5 none 1 246 247),o 249 (.ld false 1 248),o 250 (.conv .u64 249),o 251 (.bin .add 245 250),o 252 (.bin .add 238 251),m 25 252]
def r53:=[m 253 10,m 254 26,m 255 14,o 256 (.bin .add 254 255),m 257 25,o 258 (.conv .u32 257),o 259 (.a5 none 1 253 256),n (.st 1 259 258)]
def r54:=[m 260 25,o 261 (.bin .shr 260 (.c (.int .u64 (32)))),m 25 261]
def r51:=[m 236 26,o 237 (.bin .add 236 (k 1)),m 26 237]
def Pw:=[m 262 10,m 263 14,m 264 12,o 265 (.bin .add 263 264),o 266 (.a5 none 1 262 265),o 267 (.ld false 1 266),m 268 25,o 269 (.conv .u32 268),
 o 270 (.bin .add 267 269),o 271 (.a5 none 1 262 265),n (.st 1 271 270)]
def Px:=[m 272 13,m 273 14,m 274 16,o 275 (.conv .u32 274),o 276 (.a5 none 1 272 273),n (.st 1 276 275)]
def fk:=[m 93 14,o 94 (.bin .sub 93 (k 1)),m 14 94]
def Mh:=[m 277 13,o 278 (.call 101 [277]),m 279 10,m 280 12,o 281 (.gp 1 279 none (some 280)),m 282 9,o 283 (.un .neg 282),o 284 (.call 107 [281,283]),m 4 278,
 m 5 284,o 6 (.a9 (k 0))]
def l1:=(s (s (d ah [70,71,72,73,74]) (i 75 .skip (x 0))) (b 1 (d CR [75,76,77,78])))
def l3:=(s (s (e oo [128,129,130,131,132,133,134,135,136,137,138,139,140,141,142,143,144,145,146,147,148,149,150,163]) (i 151 .skip (x 4))) (b 5 (s (d qz [151,152,153]) (s (d LR [154,155,156,157,158,159,160,161]) (s (d U8 [162]) (i 163 (x 4) .skip))))))
def l4:=(s (s (d ZB [164,165]) (i 166 .skip (x 6))) (s (b 7 (s (d Bq [166,169,170,171,172,173,174,175,176,177]) (s (d Cz [18,178,179,180,181]) (s (d r32 [182,183]) (s (d r33 [184,185,186,187,188,189,190]) (s (p r34) (s (s (d r35 [191,192]) (i 193 (s (d r36 [18,193,194,195]) (p r37)) .skip)) (d r38 [21,22,193,196,197,198,199,200,201,202,203,204])))))))) (d ZC [167,168])))
def l5:=(s (s (d r50 [233,234]) (i 235 .skip (x 8))) (s (b 9 (s (e r52 [235,238,239,240,241,242,243,244,245,246,247,248,249,250,251,252]) (s (d r53 [253,254,255,256,257,258,259]) (d r54 [260,261])))) (d r51 [236,237])))
def l2:=(s (s (d EO [91]) (i 92 .skip (x 2))) (s (b 3 (s (e gm [92,95,96,97,98,99,100,101,102,103,104,105,106,107,108,109,110,111]) (s (d jo [112,113,114,115,116,117,118,119]) (s (d mr [15,120,121,122,123,124,125,126,127]) (s (b 4 (w l3)) (s (d Y9 [17,151,163]) (s (s (p ZA) (b 6 (w l4))) (s (d Pk [18,19,20,166,205,206,207]) (s (d Pl [208,209,210,211,212,213,214]) (s (p Pm) (s (s (d Pn [215,216]) (i 217 (s (d Po [18,217,218,219]) (p Pp)) .skip)) (s (d Pq [23,24,217,220,221,222,223,224,225,226,227,228]) (s (s (d Pr [18,229]) (i 230 (s (d Ps [230,231,232]) (s (p Pu) (s (s (p Pv) (b 8 (w l5))) (d Pw [25,26,235,262,263,264,265,266,267,268,269,270,271])))) .skip)) (d Px [16,230,272,273,274,275,276])))))))))))))) (d fk [93,94])))
def c:=(s (d r0 [4,5,6]) (s (d r1 [27,28,29,30]) (s (s (d r2 [31,32]) (i 33 (s (d r3 [0,1,33]) .ret) .skip)) (s (s (d r4 [33,34,35]) (i 36 (s (d r5 [0,1,36,37,38,39,40,41,42,43,44]) (s (d r6 [7,8,45,46,47,48]) .ret)) .skip)) (s (s (d r7 [36,49,50,51]) (i 52 (s (d r8 [0,1,52,53]) .ret) .skip)) (s (d r9 [52,54,55,56,57,58,59,60]) (s (d BX [1,61,62,63,64,65,66]) (s (d B7 [67,68,69]) (s (b 0 (w l1)) (s (d di [0,75,79,80]) (s (d dj [81,82,83,84,85]) (s (s (d fj [86,87,88,89,90]) (b 2 (w l2))) (s (e Mh [9,10,11,12,13,14,92,277,278,279,280,281,282,283,284]) .ret)))))))))))))
end DB
def DB:AFn:=⟨2,DB.c,[.tmp 4,.tmp 5,.tmp 6],false⟩
namespace L6
def r0:=[o 4 (.a9 (.c .nil))]
def r1:=[m 8 0,o 9 (.call 101 [8]),m 10 1,o 11 (.call 101 [10]),m 0 9,m 1 11]
def r2:=[m 12 1,o 13 (.len 12),o 14 (.bin .gtr 13 (k 0))]
def r3:=[m 16 0,m 17 1,o 18 (.call 109 [16,17]),m 15 18,o 19 (.ext 15 0),o 20 (.ext 15 1),o 21 (.ext 15 2),m 5 19,m 6 20,m 7 21]
def r4:=[m 22 1,m 23 6,m 0 22,m 1 23]
def r5:=[m 24 0,m 4 24]
def l1:=(s (s (d r2 [12,13]) (i 14 .skip (x 0))) (b 1 (s (d r3 [0,5,7,14,15,16,17,18,19,20,21]) (d r4 [6,22,23]))))
def c:=(s (d r0 [4]) (s (d r1 [8,9,10,11]) (s (b 0 (w l1)) (s (d r5 [0,1,14,24]) .ret))))
end L6
def L6:AFn:=⟨2,L6.c,[.tmp 4],false⟩
namespace MI
def r0:=[o 1 (.box 1 0),o 2 (.alloc 2 [(.bool false),.nil])]
def r1:=[o 4 (.a6 1 1),o 5 (.ld false 1 4),o 6 (.call 101 [5]),m 3 6]
def r2:=[o 7 (.a6 1 0),o 8 (.ld false 1 7),m 9 8,g 10 9 true (.a9 3),g 11 9 true (.len 10),g 12 9 true (.bin .gtr 11 (k 0)),
 o 13 (.pick 9 12 (.c (.bool false))),m 14 3,o 15 (.build [(.bool false),.nil] [(0,1,13),(1,1,14)]),n (.st 2 2 15)]
def c:=(s (d r0 [0]) (s (d r1 [4,5,6]) (s (d r2 [1,3,7,8,9,10,11,12,13,14,15]) .ret)))
end MI
def MI:AFn:=⟨1,MI.c,[.cell 2 true 2],false⟩
namespace MF
def r0:=[o 2 (.alloc 2 [(.bool false),.nil])]
def r1:=[m 4 0,o 5 (.bin .lss 4 (k 0))]
def r2:=[m 6 0,o 7 (.bin .add 6 (k 1)),o 8 (.un .neg 7),o 9 (.conv .u64 8),o 10 (.bin .add 9 (.c (.int .u64 (1)))),m 3 10]
def r3:=[m 11 3,o 12 (.conv .u32 11),m 13 3,o 14 (.bin .shr 13 (.c (.int .u64 (32)))),o 15 (.conv .u32 14),o 16 (.c9 16 1 [12,15]),
 o 17 (.build [(.bool false),.nil] [(0,1,(.c (.bool true))),(1,1,16)]),o 18 (.call 111 [17]),n (.st 2 2 18)]
def r4:=[m 19 0,o 20 (.conv .u32 19),m 21 0,o 22 (.conv .u64 21),o 23 (.bin .shr 22 (.c (.int .u64 (32)))),o 24 (.conv .u32 23),o 25 (.c9 25 1 [20,24]),
 o 26 (.build [(.bool false),.nil] [(1,1,25)]),o 27 (.call 111 [26]),n (.st 2 2 27)]
def c:=(s (p r0) (s (s (d r1 [4]) (i 5 (s (d r2 [0,5,6,7,8,9,10]) (s (d r3 [3,11,12,13,14,15,16,17,18]) .ret)) .skip)) (s (d r4 [0,5,19,20,21,22,23,24,25,26,27]) .ret)))
end MF
def MF:AFn:=⟨1,MF.c,[.cell 2 true 2],false⟩
namespace MG
def r0:=[o 1 (.box 1 0),o 2 (.a9 (k 0))]
def r1:=[o 3 (.ld true 2 1),o 4 (.call 111 [3]),n (.st 2 1 4)]
def r2:=[o 6 (.a6 1 1),o 7 (.ld false 1 6),o 8 (.len 7),o 9 (.bin .eql 8 (k 0)),m 5 9]
def r3:=[o 2 (.a9 (k 0))]
def r4:=[o 11 (.a6 1 0),o 12 (.ld false 1 11),m 10 12]
def r5:=[o 2 (.a9 (k (-1)))]
def r6:=[o 2 (.a9 (k 1))]
def c:=(s (d r0 [0,2]) (s (d r1 [3,4]) (s (b 0 (s (d r2 [6,7,8,9]) (i 5 (s (d r3 [1,5]) .ret) (s (d r4 [1,5,11,12]) (i 10 (s (d r5 [10]) .ret) .skip))))) (s (d r6 [10]) .ret))))
end MG
def MG:AFn:=⟨1,MG.c,[.tmp 2],false⟩
namespace ME
def r0:=[o 1 (.box 1 0),o 2 (.alloc 2 [(.bool false),.nil])]
def r1:=[o 3 (.ld true 2 1),o 4 (.call 111 [3]),n (.st 2 1 4)]
def r2:=[o 5 (.a6 1 0),o 6 (.ld false 1 5),o 7 (.un .not 6),m 8 7,g 9 8 true (.a6 1 1),g 10 8 true (.ld false 1 9),g 11 8 true (.len 10),
 g 12 8 true (.bin .gtr 11 (k 0)),o 13 (.pick 8 12 (.c (.bool false))),o 14 (.a6 1 0),n (.st 1 14 13)]
def r3:=[o 15 (.ld true 2 1),n (.st 2 2 15)]
def c:=(s (d r0 [0]) (s (d r1 [3,4]) (s (d r2 [5,6,7,8,9,10,11,12,13,14]) (s (d r3 [1,15]) .ret))))
end ME
def ME:AFn:=⟨1,ME.c,[.cell 2 true 2],false⟩
namespace L9
def r0:=[o 2 (.box 2 0),o 3 (.box 3 1),o 4 (.alloc 4 [(.bool false),.nil])]
def r1:=[o 5 (.ld true 2 2),o 6 (.call 111 [5]),o 7 (.ld true 2 3),o 8 (.call 111 [7]),n (.st 2 2 6),n (.st 2 3 8)]
def r2:=[o 9 (.a6 2 0),o 10 (.ld false 1 9),o 11 (.a6 3 0),o 12 (.ld false 1 11),o 13 (.beq false 10 12)]
def r3:=[o 14 (.a6 2 0),o 15 (.ld false 1 14),o 16 (.a6 2 1),o 17 (.ld false 1 16),o 18 (.a6 3 1),o 19 (.ld false 1 18),o 20 (.call 103 [17,19]),
 o 21 (.build [(.bool false),.nil] [(0,1,15),(1,1,20)]),o 22 (.call 111 [21]),n (.st 2 4 22)]
def r4:=[o 23 (.a6 2 1),o 24 (.ld false 1 23),o 25 (.a6 3 1),o 26 (.ld false 1 25),o 27 (.call 102 [24,26]),o 28 (.bin .geq 27 (k 0))]
def r5:=[o 29 (.a6 2 0),o 30 (.ld false 1 29),o 31 (.a6 2 1),o 32 (.ld false 1 31),o 33 (.a6 3 1),o 34 (.ld false 1 33),o 35 (.call 104 [32,34]),
 o 36 (.build [(.bool false),.nil] [(0,1,30),(1,1,35)]),o 37 (.call 111 [36]),n (.st 2 4 37)]
def r6:=[o 38 (.a6 3 0),o 39 (.ld false 1 38),o 40 (.a6 3 1),o 41 (.ld false 1 40),o 42 (.a6 2 1),o 43 (.ld false 1 42),o 44 (.call 104 [41,43]),
 o 45 (.build [(.bool false),.nil] [(0,1,39),(1,1,44)]),o 46 (.call 111 [45]),n (.st 2 4 46)]
def c:=(s (d r0 [0,1]) (s (e r1 [5,6,7,8]) (s (s (d r2 [9,10,11,12]) (i 13 (s (e r3 [2,3,13,14,15,16,17,18,19,20,21,22]) .ret) .skip)) (s (s (d r4 [13,23,24,25,26,27]) (i 28 (s (e r5 [2,3,28,29,30,31,32,33,34,35,36,37]) .ret) .skip)) (s (e r6 [2,3,28,38,39,40,41,42,43,44,45,46]) .ret)))))
end L9
def L9:AFn:=⟨2,L9.c,[.cell 4 true 2],false⟩
namespace MH
def r0:=[o 2 (.box 2 0),o 3 (.box 3 1),o 4 (.alloc 4 [(.bool false),.nil])]
def r1:=[o 5 (.ld true 2 2),o 6 (.ld true 2 3),o 7 (.call 114 [6]),o 8 (.call 115 [5,7]),n (.st 2 4 8)]
def c:=(s (d r0 [0,1]) (s (e r1 [2,3,5,6,7,8]) .ret))
end MH
def MH:AFn:=⟨2,MH.c,[.cell 4 true 2],false⟩
namespace MA
def r0:=[o 2 (.box 2 0),o 3 (.box 3 1),o 4 (.a9 (k 0))]
def r1:=[o 5 (.ld true 2 2),o 6 (.ld true 2 3),o 7 (.call 116 [5,6]),o 8 (.call 113 [7]),m 4 8]
def c:=(s (d r0 [0,1,4]) (s (d r1 [2,3,5,6,7,8]) .ret))
end MA
def MA:AFn:=⟨2,MA.c,[.tmp 4],false⟩
namespace MD
def r0:=[o 2 (.box 2 0),o 3 (.box 3 1),o 4 (.alloc 4 [(.bool false),.nil])]
def r1:=[o 5 (.a6 2 0),o 6 (.ld false 1 5),o 7 (.a6 3 0),o 8 (.ld false 1 7),o 9 (.beq true 6 8),o 10 (.a6 2 1),o 11 (.ld false 1 10),o 12 (.a6 3 1),
 o 13 (.ld false 1 12),o 14 (.call 105 [11,13]),o 15 (.build [(.bool false),.nil] [(0,1,9),(1,1,14)]),o 16 (.call 111 [15]),n (.st 2 4 16)]
def c:=(s (d r0 [0,1]) (s (e r1 [2,3,5,6,7,8,9,10,11,12,13,14,15,16]) .ret))
end MD
def MD:AFn:=⟨2,MD.c,[.cell 4 true 2],false⟩
namespace MB
def r0:=[o 2 (.box 2 0),o 3 (.box 3 1),o 4 (.alloc 4 [(.bool false),.nil]),o 5 (.alloc 5 [(.bool false),.nil]),o 6 (.a9 (k 0))]
def r1:=[o 10 (.ld true 2 2),o 11 (.call 111 [10]),o 12 (.ld true 2 3),o 13 (.call 111 [12]),n (.st 2 2 11),n (.st 2 3 13)]
def r2:=[o 15 (.a6 2 1),o 16 (.ld false 1 15),o 17 (.a6 3 1),o 18 (.ld false 1 17),o 19 (.call 109 [16,18]),m 14 19,o 20 (.ext 14 0),o 21 (.ext 14 1),
 o 22 (.ext 14 2),m 7 20,m 8 21,m 9 22]
def r3:=[m 23 9,o 24 (.bin .neq 23 (k 0))]
def r4:=[o 25 (.build [(.bool false),.nil] []),o 26 (.build [(.bool false),.nil] []),m 27 9,n (.st 2 4 25),n (.st 2 5 26),m 6 27]
def r5:=[o 28 (.a6 2 0),o 29 (.ld false 1 28),m 30 29,g 31 30 true (.a9 8),g 32 30 true (.len 31),g 33 30 true (.bin .gtr 32 (k 0)),
 o 34 (.pick 30 33 (.c (.bool false)))]
def r6:=[m 35 7,o 36 (.c9 36 1 [(.c (.int .u32 (1)))]),o 37 (.call 103 [35,36]),o 38 (.a6 3 1),q 39 [36] (.ld false 1 38),m 40 8,
 o 41 (.call 104 [39,40]),m 7 37,m 8 41]
def r7:=[o 42 (.a6 2 0),o 43 (.ld false 1 42),o 44 (.a6 3 0),o 45 (.ld false 1 44),o 46 (.beq true 43 45),m 47 7,
 o 48 (.build [(.bool false),.nil] [(0,1,46),(1,1,47)]),o 49 (.call 111 [48]),m 50 8,o 51 (.build [(.bool false),.nil] [(1,1,50)]),n (.st 2 4 49),
 n (.st 2 5 51),o 6 (.a9 (k 0))]
def c:=(s (d r0 [0,1,6]) (s (e r1 [10,11,12,13]) (s (d r2 [14,15,16,17,18,19,20,21,22]) (s (s (d r3 [23]) (i 24 (s (d r4 [2,3,7,8,9,24,25,26,27]) .ret) .skip)) (s (s (d r5 [9,24,28,29,30,31,32,33]) (i 34 (e r6 [34,35,36,37,38,39,40,41]) .skip)) (s (d r7 [2,3,7,8,34,42,43,44,45,46,47,48,49,50,51]) .ret))))))
end MB
def MB:AFn:=⟨2,MB.c,[.cell 4 true 2,.cell 5 true 2,.tmp 6],false⟩
namespace MC
def r0:=[o 2 (.box 2 0),o 3 (.box 3 1),o 4 (.alloc 4 [(.bool false),.nil])]
def r1:=[o 5 (.a6 2 1),o 6 (.ld false 1 5),o 7 (.a6 3 1),o 8 (.ld false 1 7),o 9 (.call 110 [6,8]),o 10 (.build [(.bool false),.nil] [(1,1,9)]),
 n (.st 2 4 10)]
def c:=(s (d r0 [0,1]) (s (d r1 [2,3,5,6,7,8,9,10]) .ret))
end MC
def MC:AFn:=⟨2,MC.c,[.cell 4 true 2],false⟩
namespace HY
def r0:=[o 2 (.box 2 0),o 3 (.box 3 1),o 4 (.alloc 4 [(.bool false),.nil,.nil])]
def r1:=[o 12 (.ld true 2 2),o 13 (.call 113 [12]),o 14 (.bin .eql 13 (k 0)),m 15 14,g 16 15 false (.ld true 2 3),g 17 15 false (.call 113 [16]),
 g 18 15 false (.bin .eql 17 (k 0)),o 19 (.pick 15 (.c (.bool true)) 18)]
def r2:=[o 20 (.c9 20 1 [(.c (.int .u32 (1)))]),o 21 (.build [(.bool false),.nil,.nil] [(2,1,20)]),n (.st 3 4 21)]
def r3:=[o 22 (.ld true 2 2),o 23 (.ld true 2 3),o 24 (.call 120 [22,23]),o 5 (.alloc 5 [(.bool false),.nil]),n (.st 2 5 24)]
def r4:=[o 26 (.ld true 2 2),o 27 (.ld true 2 5),o 28 (.call 119 [26,27]),m 25 28,o 29 (.ext 25 0),o 30 (.ext 25 1),o 31 (.ext 25 2),
 o 6 (.alloc 6 [(.bool false),.nil]),o 7 (.alloc 7 [(.bool false),.nil]),n (.st 2 6 29),n (.st 2 7 30),m 8 31]
def r5:=[o 33 (.ld true 2 3),o 34 (.ld true 2 5),o 35 (.call 119 [33,34]),m 32 35,o 36 (.ext 32 0),o 37 (.ext 32 1),o 38 (.ext 32 2),
 o 9 (.alloc 9 [(.bool false),.nil]),o 10 (.alloc 10 [(.bool false),.nil]),n (.st 2 9 36),n (.st 2 10 37),m 11 38]
def r6:=[o 39 (.a6 9 0),o 40 (.ld false 1 39)]
def r7:=[o 41 (.ld true 2 6),o 42 (.call 114 [41]),n (.st 2 6 42)]
def r8:=[o 43 (.ld true 2 6),o 44 (.a6 9 1),o 45 (.ld false 1 44),o 46 (.build [(.bool false),.nil,.nil] [(0,2,43),(2,1,45)]),n (.st 3 4 46)]
def c:=(s (d r0 [0,1]) (s (s (d r1 [12,13,14,15,16,17,18]) (i 19 (s (d r2 [2,3,19,20,21]) .ret) .skip)) (s (d r3 [19,22,23,24]) (s (d r4 [2,7,8,25,26,27,28,29,30,31]) (s (d r5 [3,5,10,11,32,33,34,35,36,37,38]) (s (s (d r6 [39]) (i 40 (d r7 [40,41,42]) .skip)) (s (d r8 [6,9,40,43,44,45,46]) .ret)))))))
end HY
def HY:AFn:=⟨2,HY.c,[.cell 4 true 3],false⟩
namespace I5
def r0:=[o 1 (.box 1 0),o 2 (.alloc 2 [(.bool false),.nil]),o 3 (.alloc 3 [(.bool false),.nil])]
def r1:=[o 5 (.a6 1 2),o 6 (.ld false 1 5),o 7 (.call 101 [6]),o 8 (.build [(.bool false),.nil] [(1,1,7)]),o 4 (.alloc 4 [(.bool false),.nil]),n (.st 2 4 8)]
def r2:=[o 9 (.a6 4 1),o 10 (.ld false 1 9),o 11 (.len 10),o 12 (.bin .eql 11 (k 0))]
def r3:=[o 13 (.build [(.bool false),.nil] []),o 14 (.c9 14 1 [(.c (.int .u32 (1)))]),o 15 (.build [(.bool false),.nil] [(1,1,14)]),n (.st 2 2 13),
 n (.st 2 3 15)]
def r4:=[o 16 (.a6 1 0),o 17 (.ld true 2 16),q 18 [2] (.ld true 2 4),n (.nv 2 2 2 17),n (.st 2 3 18)]
def c:=(s (d r0 [0]) (s (d r1 [5,6,7,8]) (s (s (d r2 [9,10,11]) (i 12 (s (d r3 [1,4,12,13,14,15]) .ret) .skip)) (s (e r4 [1,4,12,16,17,18]) .ret))))
end I5
def I5:AFn:=⟨1,I5.c,[.cell 2 true 2,.cell 3 true 2],false⟩
namespace MS
def r0:=[o 1 (.box 1 0),o 2 (.alloc 2 [(.bool false),.nil,.nil])]
def r1:=[o 6 (.ld true 3 1),o 7 (.call 122 [6]),m 5 7,o 8 (.ext 5 0),o 9 (.ext 5 1),o 3 (.alloc 3 [(.bool false),.nil]),o 4 (.alloc 4 [(.bool false),.nil]),
 n (.st 2 3 8),n (.st 2 4 9)]
def r2:=[o 10 (.ld true 2 3),o 11 (.ld true 2 4),o 12 (.call 121 [10,11]),n (.st 3 2 12)]
def c:=(s (d r0 [0]) (s (d r1 [1,5,6,7,8,9]) (s (d r2 [3,4,10,11,12]) .ret)))
end MS
def MS:AFn:=⟨1,MS.c,[.cell 2 true 3],false⟩
namespace MP
def r0:=[o 2 (.alloc 2 [(.bool false),.nil,.nil])]
def r1:=[m 3 0,o 4 (.call 112 [3]),o 5 (.c9 5 1 [(.c (.int .u32 (1)))]),o 6 (.build [(.bool false),.nil,.nil] [(0,2,4),(2,1,5)]),n (.st 3 2 6)]
def c:=(s (p r0) (s (d r1 [0,3,4,5,6]) .ret))
end MP
def MP:AFn:=⟨1,MP.c,[.cell 2 true 3],false⟩
namespace MM
def r0:=[o 4 (.alloc 4 [(.bool false),.nil,.nil])]
def r1:=[m 5 0,o 6 (.call 112 [5]),m 7 1,o 8 (.call 112 [7]),o 9 (.call 121 [6,8]),n (.st 3 4 9)]
def c:=(s (p r0) (s (d r1 [0,1,5,6,7,8,9]) .ret))
end MM
def MM:AFn:=⟨2,MM.c,[.cell 4 true 3],false⟩
namespace MJ
def r0:=[o 2 (.box 2 0),o 3 (.box 3 1),o 4 (.alloc 4 [(.bool false),.nil,.nil])]
def r1:=[o 10 (.ld true 3 2),o 11 (.call 122 [10]),m 9 11,o 12 (.ext 9 0),o 13 (.ext 9 1),o 5 (.alloc 5 [(.bool false),.nil]),
 o 6 (.alloc 6 [(.bool false),.nil]),n (.st 2 5 12),n (.st 2 6 13)]
def r2:=[o 15 (.ld true 3 3),o 16 (.call 122 [15]),m 14 16,o 17 (.ext 14 0),o 18 (.ext 14 1),o 7 (.alloc 7 [(.bool false),.nil]),
 o 8 (.alloc 8 [(.bool false),.nil]),n (.st 2 7 17),n (.st 2 8 18)]
def r3:=[o 19 (.ld true 2 5),o 20 (.ld true 2 8),o 21 (.call 118 [19,20]),o 22 (.ld true 2 7),o 23 (.ld true 2 6),o 24 (.call 118 [22,23]),
 o 25 (.call 115 [21,24]),o 26 (.ld true 2 6),o 27 (.ld true 2 8),o 28 (.call 118 [26,27]),o 29 (.call 121 [25,28]),n (.st 3 4 29)]
def c:=(s (d r0 [0,1]) (s (d r1 [2,9,10,11,12,13]) (s (d r2 [3,14,15,16,17,18]) (s (e r3 [5,6,7,8,19,20,21,22,23,24,25,26,27,28,29]) .ret))))
end MJ
def MJ:AFn:=⟨2,MJ.c,[.cell 4 true 3],false⟩
namespace MK
def r0:=[o 2 (.box 2 0),o 3 (.box 3 1),o 4 (.a9 (k 0))]
def r1:=[o 10 (.ld true 3 2),o 11 (.call 122 [10]),m 9 11,o 12 (.ext 9 0),o 13 (.ext 9 1),o 5 (.alloc 5 [(.bool false),.nil]),
 o 6 (.alloc 6 [(.bool false),.nil]),n (.st 2 5 12),n (.st 2 6 13)]
def r2:=[o 15 (.ld true 3 3),o 16 (.call 122 [15]),m 14 16,o 17 (.ext 14 0),o 18 (.ext 14 1),o 7 (.alloc 7 [(.bool false),.nil]),
 o 8 (.alloc 8 [(.bool false),.nil]),n (.st 2 7 17),n (.st 2 8 18)]
def r3:=[o 19 (.ld true 2 5),o 20 (.ld true 2 8),o 21 (.call 118 [19,20]),o 22 (.ld true 2 7),o 23 (.ld true 2 6),o 24 (.call 118 [22,23]),
 o 25 (.call 117 [21,24]),m 4 25]
def c:=(s (d r0 [0,1,4]) (s (d r1 [2,9,10,11,12,13]) (s (d r2 [3,14,15,16,17,18]) (s (e r3 [5,6,7,8,19,20,21,22,23,24,25]) .ret))))
end MK
def MK:AFn:=⟨2,MK.c,[.tmp 4],false⟩
namespace MN
def r0:=[o 2 (.box 2 0),o 3 (.box 3 1),o 4 (.alloc 4 [(.bool false),.nil,.nil])]
def r1:=[o 10 (.ld true 3 2),o 11 (.call 122 [10]),m 9 11,o 12 (.ext 9 0),o 13 (.ext 9 1),o 5 (.alloc 5 [(.bool false),.nil]),
 o 6 (.alloc 6 [(.bool false),.nil]),n (.st 2 5 12),n (.st 2 6 13)]
def r2:=[o 15 (.ld true 3 3),o 16 (.call 122 [15]),m 14 16,o 17 (.ext 14 0),o 18 (.ext 14 1),o 7 (.alloc 7 [(.bool false),.nil]),
 o 8 (.alloc 8 [(.bool false),.nil]),n (.st 2 7 17),n (.st 2 8 18)]
def r3:=[o 19 (.ld true 2 5),o 20 (.ld true 2 7),o 21 (.call 118 [19,20]),o 22 (.ld true 2 6),o 23 (.ld true 2 8),o 24 (.call 118 [22,23]),
 o 25 (.call 121 [21,24]),n (.st 3 4 25)]
def c:=(s (d r0 [0,1]) (s (d r1 [2,9,10,11,12,13]) (s (d r2 [3,14,15,16,17,18]) (s (e r3 [5,6,7,8,19,20,21,22,23,24,25]) .ret))))
end MN
def MN:AFn:=⟨2,MN.c,[.cell 4 true 3],false⟩
namespace M5
def r0:=[o 4 (.a9 (.c (.bool false)))]
def r1:=[m 6 0,o 7 (.len 6),m 8 1,o 9 (.len 8),o 10 (.bin .neq 7 9)]
def r2:=[o 4 (.a9 (.c (.bool false)))]
def r3:=[o 5 (.a9 (k 0))]
def r4:=[m 11 5,m 12 0,o 13 (.len 12),o 14 (.bin .lss 11 13)]
def r6:=[m 17 0,m 18 5,o 19 (.a5 none 3 17 18),o 20 (.ld true 3 19),m 21 1,m 22 5,o 23 (.a5 none 3 21 22),o 24 (.ld true 3 23),o 25 (.call 127 [20,24]),
 o 26 (.bin .neq 25 (k 0))]
def r7:=[o 4 (.a9 (.c (.bool false)))]
def r5:=[m 15 5,o 16 (.bin .add 15 (k 1)),m 5 16]
def r8:=[o 4 (.a9 (.c (.bool true)))]
def l1:=(s (s (d r4 [11,12,13]) (i 14 .skip (x 0))) (s (b 1 (s (e r6 [14,17,18,19,20,21,22,23,24,25]) (i 26 (s (d r7 [0,1,5,26]) .ret) .skip))) (d r5 [15,16,26])))
def c:=(s (d r0 [4]) (s (s (d r1 [6,7,8,9]) (i 10 (s (d r2 [0,1,10]) .ret) .skip)) (s (s (d r3 [10]) (b 0 (w l1))) (s (d r8 [0,1,5,14]) .ret))))
end M5
def M5:AFn:=⟨2,M5.c,[.tmp 4],false⟩
structure a7 (L:Lib):Prop where
 GZ:L 101=some F.GZ
 L5:L 102=some F.L5
 L3:L 103=some F.L3
 II:L 104=some F.II
 L7:L 105=some F.L7
 L4:L 106=some F.L4
 HX:L 107=some F.HX
 L8:L 108=some F.L8
 DB:L 109=some F.DB
 L6:L 110=some F.L6
 MI:L 111=some F.MI
 MF:L 112=some F.MF
 MG:L 113=some F.MG
 ME:L 114=some F.ME
 L9:L 115=some F.L9
 MH:L 116=some F.MH
 MA:L 117=some F.MA
 MD:L 118=some F.MD
 MB:L 119=some F.MB
 MC:L 120=some F.MC
 HY:L 121=some F.HY
 I5:L 122=some F.I5
 MS:L 123=some F.MS
 MP:L 124=some F.MP
 MM:L 125=some F.MM
 MJ:L 126=some F.MJ
 MK:L 127=some F.MK
 MN:L 128=some F.MN
 M5:L 129=some F.M5
end Go.e8.F

namespace Go.e8.F
open C
namespace LL
def r0:=[o 1 (.box 1 0),o 2 (.a9 (.c (.bool false)))]
def r1:=[o 6 (.a6 1 0),o 7 (.ld false 1 6),o 8 (.len 7),m 3 8]
def r2:=[m 9 3,o 10 (.bin .gtr 9 (k 64)),m 11 10,g 12 11 false (.a6 1 1),g 13 11 false (.ld false 1 12),g 14 11 false (.len 13),g 15 11 false (.a9 3),
 g 16 11 false (.bin .neq 14 15),o 17 (.pick 11 (.c (.bool true)) 16),m 18 17,g 19 18 false (.a6 1 2),g 20 18 false (.ld false 1 19),
 g 21 18 false (.len 20),g 22 18 false (.a9 3),g 23 18 false (.bin .neq 21 22),o 24 (.pick 18 (.c (.bool true)) 23)]
def r3:=[o 2 (.a9 (.c (.bool false)))]
def r4:=[o 25 (.a6 1 0),o 26 (.ld false 1 25),o 27 (.len 26),o 28 (.a9 (k 0))]
def r5:=[o 29 (.bin .lss 28 27)]
def r6:=[o 30 (.a5 none 1 26 28),o 31 (.ld false 1 30),m 5 31]
def r7:=[m 32 5,o 33 (.len 32),m 34 3,o 35 (.bin .neq 33 34)]
def r8:=[o 2 (.a9 (.c (.bool false)))]
def r9:=[o 36 (.bin .add 28 (k 1)),m 28 36]
def BX:=[o 2 (.a9 (.c (.bool true)))]
def l1:=(s (p r5) (s (i 29 .skip (x 0)) (s (b 1 (s (d r6 [29,30,31]) (s (d r7 [5,32,33,34]) (i 35 (s (d r8 [3,26,27,28,35]) .ret) .skip)))) (d r9 [35,36]))))
def c:=(s (d r0 [0,2]) (s (d r1 [6,7,8]) (s (s (d r2 [9,10,11,12,13,14,15,16,17,18,19,20,21,22,23]) (i 24 (s (d r3 [1,3,24]) .ret) .skip)) (s (s (d r4 [1,24,25]) (b 0 (w l1))) (s (d BX [3,26,27,28,29]) .ret)))))
end LL
def LL:AFn:=⟨1,LL.c,[.tmp 2],false⟩
namespace M8
def r0:=[o 1 (.box 1 0),o 2 (.a9 (.c (.bool false)))]
def r1:=[o 5 (.a6 1 0),o 6 (.ld false 1 5),o 7 (.len 6),m 3 7]
def r2:=[m 8 3,o 9 (.bin .gtr 8 (k 64)),m 10 9,g 11 10 false (.a6 1 1),g 12 10 false (.ld false 1 11),g 13 10 false (.len 12),g 14 10 false (.a9 3),
 g 15 10 false (.bin .neq 13 14),o 16 (.pick 10 (.c (.bool true)) 15),m 17 16,g 18 17 false (.a6 1 2),g 19 17 false (.ld false 1 18),
 g 20 17 false (.len 19),g 21 17 false (.a9 3),g 22 17 false (.bin .neq 20 21),o 23 (.pick 17 (.c (.bool true)) 22)]
def r3:=[o 2 (.a9 (.c (.bool false)))]
def r4:=[o 4 (.a9 (k 0))]
def r5:=[m 24 4,m 25 3,o 26 (.bin .lss 24 25)]
def r7:=[o 29 (.a6 1 0),o 30 (.ld false 1 29),m 31 4,o 32 (.a5 none 1 30 31),o 33 (.ld false 1 32),o 34 (.len 33),m 35 3,o 36 (.bin .neq 34 35)]
def r8:=[o 2 (.a9 (.c (.bool false)))]
def r6:=[m 27 4,o 28 (.bin .add 27 (k 1)),m 4 28]
def r9:=[o 2 (.a9 (.c (.bool true)))]
def l1:=(s (s (d r5 [24,25]) (i 26 .skip (x 0))) (s (b 1 (s (d r7 [26,29,30,31,32,33,34,35]) (i 36 (s (d r8 [1,3,4,36]) .ret) .skip))) (d r6 [27,28,36])))
def c:=(s (d r0 [0,2]) (s (d r1 [5,6,7]) (s (s (d r2 [8,9,10,11,12,13,14,15,16,17,18,19,20,21,22]) (i 23 (s (d r3 [1,3,23]) .ret) .skip)) (s (s (d r4 [23]) (b 0 (w l1))) (s (d r9 [1,3,4,26]) .ret)))))
end M8
def M8:AFn:=⟨1,M8.c,[.tmp 2],false⟩
namespace M6
def r0:=[o 4 (.alloc 4 [(.bool false),.nil,.nil])]
def r1:=[o 7 (.call 124 [(k 0)]),o 5 (.alloc 5 [(.bool false),.nil,.nil]),n (.st 3 5 7)]
def r2:=[o 6 (.a9 (k 0))]
def r3:=[m 8 6,m 9 0,o 10 (.len 9),o 11 (.bin .lss 8 10)]
def r5:=[o 14 (.ld true 3 5),m 15 0,m 16 6,o 17 (.a5 none 3 15 16),o 18 (.ld true 3 17),m 19 1,m 20 6,o 21 (.a5 none 3 19 20),o 22 (.ld true 3 21),
 o 23 (.call 128 [18,22]),o 24 (.call 126 [14,23]),n (.st 3 5 24)]
def r4:=[m 12 6,o 13 (.bin .add 12 (k 1)),m 6 13]
def r6:=[o 25 (.ld true 3 5),n (.st 3 4 25)]
def l1:=(s (s (d r3 [8,9,10]) (i 11 .skip (x 0))) (s (b 1 (e r5 [11,14,15,16,17,18,19,20,21,22,23,24])) (d r4 [12,13])))
def c:=(s (p r0) (s (d r1 [7]) (s (s (p r2) (b 0 (w l1))) (s (d r6 [0,1,5,6,11,25]) .ret))))
end M6
def M6:AFn:=⟨2,M6.c,[.cell 4 true 3],false⟩
namespace M9
def r0:=[o 4 (.a9 (.c .nil))]
def r1:=[o 5 (.w9 138005 3)]
def r2:=[o 6 (.a9 (k 0))]
def r3:=[m 7 6,m 8 0,o 9 (.len 8),o 10 (.bin .lss 7 9)]
def r5:=[m 13 5,m 14 0,m 15 6,o 16 (.a5 none 1 14 15),o 17 (.ld false 1 16),m 18 1,o 19 (.call 137 [17,18]),o 20 (.c9 138020 3 [19]),
 o 21 (.app 138021 3 56 13 20),m 5 21]
def r4:=[m 11 6,o 12 (.bin .add 11 (k 1)),m 6 12]
def r6:=[m 22 5,m 4 22]
def l1:=(s (s (d r3 [7,8,9]) (i 10 .skip (x 0))) (s (b 1 (d r5 [10,13,14,15,16,17,18,19,20,21])) (d r4 [11,12])))
def c:=(s (d r0 [4]) (s (p r1) (s (s (p r2) (b 0 (w l1))) (s (d r6 [0,1,5,6,10,22]) .ret))))
end M9
def M9:AFn:=⟨2,M9.c,[.tmp 4],false⟩
structure z8 (L:Lib):Prop extends b8 L,a7 L where
 LL:L 130=some F.LL
 M8:L 136=some F.M8
 M6:L 137=some F.M6
 M9:L 138=some F.M9
end Go.e8.F

namespace Go.e8.F
open C
structure iq (L:Lib):Prop where
structure ou (L:Lib):Prop extends iq L where
structure kv (L:Lib):Prop extends z8 L,ou L where
end Go.e8.F

namespace Go.e8.F
open C
namespace LY
def r0:=[o 1 (.box 1 0),o 2 (.alloc 2 [(.bool false),.nil,.nil])]
def r1:=[o 3 (.a6 1 0),o 4 (.a6 3 0),o 5 (.ld false 1 4),o 6 (.un .not 5),o 7 (.a6 1 0),o 8 (.a6 7 1),o 9 (.ld false 1 8),
 o 10 (.build [(.bool false),.nil] [(0,1,6),(1,1,9)]),o 11 (.a6 1 2),o 12 (.ld false 1 11),
 o 13 (.build [(.bool false),.nil,.nil] [(0,2,10),(2,1,12)]),n (.st 3 2 13)]
def c:=(s (d r0 [0]) (s (d r1 [1,3,4,5,6,7,8,9,10,11,12,13]) .ret))
end LY
def LY:AFn:=⟨1,LY.c,[.cell 2 true 3],false⟩
namespace LW
def r0:=[o 2 (.box 2 0),o 3 (.box 3 1),o 4 (.alloc 4 [(.bool false),.nil,.nil])]
def r1:=[o 5 (.ld true 3 2),o 6 (.ld true 3 3),o 7 (.o0 149 [6]),o 8 (.call 98 [5,7]),n (.st 3 4 8)]
def c:=(s (d r0 [0,1]) (s (e r1 [2,3,5,6,7,8]) .ret))
end LW
def LW:AFn:=⟨2,LW.c,[.cell 4 true 3],false⟩
structure z7 (L:Lib):Prop extends b8 L where
 LY:L 149=some F.LY
 LW:L 150=some F.LW
end Go.e8.F

namespace Go.e8.F
open C
namespace LQ
def r0:=[o 2 (.a9 (.c .nil))]
def r1:=[m 4 0,o 5 (.len 4),m 3 5]
def r2:=[m 6 3,o 7 (.bin .gtr 6 (k 0)),m 8 7,g 9 8 true (.a9 0),g 10 8 true (.a9 3),g 11 8 true (.bin .sub 10 (k 1)),g 12 8 true (.a5 none 3 9 11),
 g 13 8 true (.ld true 3 12),g 14 8 true (.call 97 [13]),g 15 8 true (.bin .eql 14 (k 0)),o 16 (.pick 8 15 (.c (.bool false)))]
def r3:=[m 17 3,o 18 (.bin .sub 17 (k 1)),m 3 18]
def r4:=[m 19 0,m 20 3,o 21 (.gp 3 19 none (some 20)),m 2 21]
def l1:=(s (s (d r2 [6,7,8,9,10,11,12,13,14,15]) (i 16 .skip (x 0))) (b 1 (d r3 [16,17,18])))
def c:=(s (d r0 [2]) (s (d r1 [4,5]) (s (b 0 (w l1)) (s (d r4 [0,3,16,19,20,21]) .ret))))
end LQ
def LQ:AFn:=⟨1,LQ.c,[.tmp 2],false⟩
structure iu (L:Lib):Prop extends b8 L where
 LQ:L 169=some F.LQ
end Go.e8.F

namespace Go.e8.F
open C
namespace MO
def r0:=[o 1 (.box 1 0),o 2 (.alloc 2 [(.bool false),.nil,.nil])]
def r1:=[o 3 (.ld true 3 1),o 4 (.call 123 [3]),n (.st 3 1 4)]
def r2:=[o 5 (.a6 1 0),o 6 (.ld true 2 5),o 7 (.call 114 [6]),o 8 (.a6 1 0),n (.st 2 8 7)]
def r3:=[o 9 (.ld true 3 1),n (.st 3 2 9)]
def c:=(s (d r0 [0]) (s (d r1 [3,4]) (s (d r2 [5,6,7,8]) (s (d r3 [1,9]) .ret))))
end MO
def MO:AFn:=⟨1,MO.c,[.cell 2 true 3],false⟩
namespace MR
def r0:=[o 2 (.box 2 0),o 3 (.box 3 1),o 4 (.alloc 4 [(.bool false),.nil,.nil])]
def r1:=[o 5 (.ld true 3 2),o 6 (.ld true 3 3),o 7 (.call 152 [6]),o 8 (.call 126 [5,7]),n (.st 3 4 8)]
def c:=(s (d r0 [0,1]) (s (e r1 [2,3,5,6,7,8]) .ret))
end MR
def MR:AFn:=⟨2,MR.c,[.cell 4 true 3],false⟩
namespace ML
def r0:=[o 2 (.box 2 0),o 3 (.box 3 1),o 4 (.alloc 4 [(.bool false),.nil,.nil]),o 5 (.a9 (k 0))]
def r1:=[o 11 (.ld true 3 2),o 12 (.call 122 [11]),m 10 12,o 13 (.ext 10 0),o 14 (.ext 10 1),o 6 (.alloc 6 [(.bool false),.nil]),
 o 7 (.alloc 7 [(.bool false),.nil]),n (.st 2 6 13),n (.st 2 7 14)]
def r2:=[o 16 (.ld true 3 3),o 17 (.call 122 [16]),m 15 17,o 18 (.ext 15 0),o 19 (.ext 15 1),o 8 (.alloc 8 [(.bool false),.nil]),
 o 9 (.alloc 9 [(.bool false),.nil]),n (.st 2 8 18),n (.st 2 9 19)]
def r3:=[o 20 (.ld true 2 8),o 21 (.call 113 [20]),o 22 (.bin .eql 21 (k 0))]
def r4:=[o 23 (.build [(.bool false),.nil,.nil] []),n (.st 3 4 23),o 5 (.a9 (k 3))]
def r5:=[o 24 (.ld true 2 6),o 25 (.ld true 2 9),o 26 (.call 118 [24,25]),o 27 (.ld true 2 7),o 28 (.ld true 2 8),o 29 (.call 118 [27,28]),
 o 30 (.call 121 [26,29]),n (.st 3 4 30),o 5 (.a9 (k 0))]
def c:=(s (d r0 [0,1,5]) (s (d r1 [2,10,11,12,13,14]) (s (d r2 [3,15,16,17,18,19]) (s (s (d r3 [20,21]) (i 22 (s (d r4 [6,7,8,9,22,23]) .ret) .skip)) (s (e r5 [6,7,8,9,22,24,25,26,27,28,29,30]) .ret)))))
end ML
def ML:AFn:=⟨2,ML.c,[.cell 4 true 3,.tmp 5],false⟩
namespace I3
def r0:=[o 1 (.box 1 0),o 2 (.a9 (k 0))]
def r1:=[o 6 (.ld true 3 1),o 7 (.call 122 [6]),m 5 7,o 8 (.ext 5 0),o 9 (.ext 5 1),o 3 (.alloc 3 [(.bool false),.nil]),o 4 (.alloc 4 [(.bool false),.nil]),
 n (.st 2 3 8),n (.st 2 4 9)]
def r2:=[o 10 (.ld true 2 3),o 11 (.call 113 [10]),m 2 11]
def c:=(s (d r0 [0,2]) (s (d r1 [1,4,5,6,7,8,9]) (s (d r2 [3,10,11]) .ret)))
end I3
def I3:AFn:=⟨1,I3.c,[.tmp 2],false⟩
structure n7 (L:Lib):Prop extends a7 L where
 MO:L 152=some F.MO
 MR:L 153=some F.MR
 ML:L 154=some F.ML
 I3:L 155=some F.I3
end Go.e8.F

namespace Go.e8.F
open C
namespace I7
def r0:=[o 2 (.a9 (.c .nil))]
def r1:=[m 7 0,o 8 (.len 7),m 3 8]
def r2:=[m 9 3,o 10 (.bin .gtr 9 (k 0)),m 11 10,g 12 11 true (.a9 0),g 13 11 true (.a9 3),g 14 11 true (.bin .sub 13 (k 1)),g 15 11 true (.a5 none 3 12 14),
 g 16 11 true (.ld true 3 15),g 17 11 true (.call 155 [16]),g 18 11 true (.bin .eql 17 (k 0)),o 19 (.pick 11 18 (.c (.bool false)))]
def r3:=[m 20 3,o 21 (.bin .sub 20 (k 1)),m 3 21]
def r4:=[o 4 (.w9 171004 3)]
def r5:=[m 22 0,m 23 3,o 24 (.gp 3 22 none (some 23)),o 25 (.len 24),o 26 (.a9 (k 0))]
def r6:=[o 27 (.bin .lss 26 25)]
def r7:=[o 28 (.a5 none 3 24 26),o 29 (.ld true 3 28),o 6 (.alloc 171006 [(.bool false),.nil,.nil]),n (.st 3 6 29)]
def r8:=[m 30 4,o 31 (.ld true 3 6),o 32 (.call 123 [31]),o 33 (.c9 171033 3 [32]),o 34 (.app 171034 3 56 30 33),m 4 34]
def r9:=[o 35 (.bin .add 26 (k 1)),m 26 35]
def BX:=[m 36 4,m 2 36]
def l1:=(s (s (d r2 [9,10,11,12,13,14,15,16,17,18]) (i 19 .skip (x 0))) (b 1 (d r3 [19,20,21])))
def l2:=(s (p r6) (s (i 27 .skip (x 2)) (s (b 3 (s (d r7 [27,28,29]) (d r8 [6,30,31,32,33,34]))) (d r9 [35]))))
def c:=(s (d r0 [2]) (s (d r1 [7,8]) (s (b 0 (w l1)) (s (d r4 [19]) (s (s (d r5 [0,3,22,23]) (b 2 (w l2))) (s (d BX [4,24,25,26,27,36]) .ret))))))
end I7
def I7:AFn:=⟨1,I7.c,[.tmp 2],false⟩
structure u5 (L:Lib):Prop extends n7 L where
 I7:L 171=some F.I7
end Go.e8.F

namespace Go.e8.F
open C
namespace MW
def r0:=[o 3 (.box 3 1),o 4 (.a9 (.c .nil))]
def r1:=[o 5 (.w9 5 3)]
def r2:=[m 8 0,o 9 (.len 8),o 10 (.a9 (k 0))]
def r3:=[o 11 (.bin .lss 10 9)]
def r4:=[o 12 (.a5 none 3 8 10),o 13 (.ld true 3 12),o 7 (.alloc 7 [(.bool false),.nil,.nil]),n (.st 3 7 13)]
def r5:=[m 14 5,o 15 (.ld true 3 7),o 16 (.ld true 3 3),o 17 (.call 128 [15,16]),o 18 (.c9 18 3 [17]),o 19 (.app 19 3 56 14 18),m 5 19]
def r6:=[o 20 (.bin .add 10 (k 1)),m 10 20]
def r7:=[m 21 5,o 22 (.call 171 [21]),m 4 22]
def l1:=(s (p r3) (s (i 11 .skip (x 0)) (s (b 1 (s (d r4 [11,12,13]) (d r5 [7,14,15,16,17,18,19]))) (d r6 [20]))))
def c:=(s (d r0 [1,4]) (s (p r1) (s (s (d r2 [0]) (b 0 (w l1))) (s (d r7 [3,5,8,9,10,11,21,22]) .ret))))
end MW
def MW:AFn:=⟨2,MW.c,[.tmp 4],false⟩
structure iv (L:Lib):Prop extends kv L,z7 L,iu L,u5 L where
 MW:L 194=some F.MW
end Go.e8.F

namespace Go.e8.F
open C
namespace KL
def r0:=[o 2 (.box 2 0),o 3 (.box 3 1),o 4 (.a9 (k 0))]
def r1:=[o 7 (.ld true 2 2),o 8 (.call 86 [7]),o 9 (.ld true 2 3),o 10 (.call 86 [9]),m 5 8,m 6 10]
def r2:=[m 12 5,m 13 6,o 14 (.bin .lss 12 13),m 11 14]
def r3:=[o 4 (.a9 (k (-1)))]
def r4:=[m 16 5,m 17 6,o 18 (.bin .gtr 16 17),m 15 18]
def r5:=[o 4 (.a9 (k 1))]
def r6:=[m 20 5,o 21 (.bin .eql 20 (k (-1))),m 19 21]
def r7:=[o 22 (.a6 3 1),o 23 (.ld false 1 22),o 24 (.a6 2 1),o 25 (.ld false 1 24),o 26 (.call 67 [23,25]),m 4 26]
def r8:=[o 27 (.a6 2 1),o 28 (.ld false 1 27),o 29 (.a6 3 1),o 30 (.ld false 1 29),o 31 (.call 67 [28,30]),m 4 31]
def c:=(s (d r0 [0,1,4]) (s (e r1 [7,8,9,10]) (s (b 0 (s (d r2 [12,13,14]) (i 11 (s (d r3 [2,3,5,6,11]) .ret) (s (d r4 [6,11,16,17,18]) (i 15 (s (d r5 [2,3,5,15]) .ret) (s (d r6 [5,15,20,21]) (i 19 (s (d r7 [2,3,19,22,23,24,25,26]) .ret) .skip))))))) (s (d r8 [2,3,19,27,28,29,30,31]) .ret))))
end KL
def KL:AFn:=⟨2,KL.c,[.tmp 4],false⟩
namespace I1
def r0:=[o 2 (.box 2 0),o 3 (.box 3 1),o 4 (.a9 (k 0))]
def r1:=[q 7 [5,6] (.ld true 3 2),q 8 [5,6] (.o0 89 [7]),q 9 [5,6] (.ld true 3 3),q 10 [5,6] (.o0 89 [9]),
 o 5 (.alloc 5 [(.bool false),.nil,.nil,(.bool false)]),o 6 (.alloc 6 [(.bool false),.nil,.nil,(.bool false)]),n (.st 4 5 8),n (.st 4 6 10)]
def r2:=[o 11 (.a6 5 3),o 12 (.ld false 1 11),m 13 12,g 14 13 true (.a6 6 3),g 15 13 true (.ld false 1 14),o 16 (.pick 13 15 (.c (.bool false)))]
def r3:=[o 17 (.a6 5 0),o 18 (.a6 17 0),o 19 (.ld true 2 18),o 20 (.a6 6 0),o 21 (.a6 20 0),o 22 (.ld true 2 21),o 23 (.call 197 [19,22]),m 4 23]
def r4:=[o 24 (.a6 5 0),o 25 (.a6 24 0),o 26 (.ld true 2 25),o 27 (.a6 6 0),o 28 (.a6 27 2),o 29 (.ld false 1 28),o 30 (.o0 91 [29]),
 o 31 (.call 88 [26,30]),o 32 (.a6 6 0),o 33 (.a6 32 0),o 34 (.ld true 2 33),o 35 (.a6 5 0),o 36 (.a6 35 2),o 37 (.ld false 1 36),
 o 38 (.o0 91 [37]),o 39 (.call 88 [34,38]),o 40 (.call 197 [31,39]),m 4 40]
def c:=(s (d r0 [0,1,4]) (s (e r1 [2,3,7,8,9,10]) (s (s (d r2 [11,12,13,14,15]) (i 16 (s (d r3 [5,6,16,17,18,19,20,21,22,23]) .ret) .skip)) (s (e r4 [5,6,16,24,25,26,27,28,29,30,31,32,33,34,35,36,37,38,39,40]) .ret))))
end I1
def I1:AFn:=⟨2,I1.c,[.tmp 4],false⟩
namespace LT
def r0:=[o 1 (.box 1 0),o 2 (.alloc 2 [(.bool false),.nil,.nil])]
def r1:=[o 3 (.ld true 3 1),o 4 (.o0 149 [3]),o 5 (.call 95 [4]),n (.st 3 2 5)]
def c:=(s (d r0 [0]) (s (d r1 [1,3,4,5]) .ret))
end LT
def LT:AFn:=⟨1,LT.c,[.cell 2 true 3],false⟩
namespace LP
def r0:=[o 2 (.a9 (k 0))]
def r1:=[m 3 0,o 4 (.e9 169 [3]),o 5 (.len 4),o 6 (.bin .sub 5 (k 1)),m 2 6]
def c:=(s (d r0 [2]) (s (d r1 [0,3,4,5,6]) .ret))
end LP
def LP:AFn:=⟨1,LP.c,[.tmp 2],false⟩
namespace ND
def r0:=[o 1 (.box 1 0),o 2 (.a9 (.c (.bool false)))]
def r1:=[o 3 (.a6 1 0),o 4 (.ld false 1 3),o 5 (.call 200 [4]),o 6 (.bin .gtr 5 (k 48)),m 7 6,g 8 7 false (.a6 1 1),g 9 7 false (.ld false 1 8),
 g 10 7 false (.call 200 [9]),g 11 7 false (.bin .gtr 10 (k 48)),o 12 (.pick 7 (.c (.bool true)) 11)]
def r2:=[o 2 (.a9 (.c (.bool false)))]
def r3:=[o 13 (.a6 1 1),o 14 (.ld false 1 13),o 15 (.len 14),o 16 (.bin .gtr 15 (k 0)),m 17 16,g 18 17 true (.a6 1 1),g 19 17 true (.ld false 1 18),
 g 20 17 true (.a5 none 3 19 (k 0)),g 21 17 true (.ld true 3 20),g 22 17 true (.call 96 [(k 1)]),g 23 17 true (.call 198 [21,22]),
 g 24 17 true (.bin .eql 23 (k 0)),o 25 (.pick 17 24 (.c (.bool false))),m 2 25]
def c:=(s (d r0 [0,2]) (s (s (d r1 [3,4,5,6,7,8,9,10,11]) (i 12 (s (d r2 [1,12]) .ret) .skip)) (s (e r3 [1,12,13,14,15,16,17,18,19,20,21,22,23,24,25]) .ret)))
end ND
def ND:AFn:=⟨1,ND.c,[.tmp 2],false⟩
namespace MT
def r0:=[o 2 (.a9 (k 0))]
def r1:=[m 3 0,o 4 (.call 171 [3]),o 5 (.len 4),o 6 (.bin .sub 5 (k 1)),m 2 6]
def c:=(s (d r0 [2]) (s (d r1 [0,3,4,5,6]) .ret))
end MT
def MT:AFn:=⟨1,MT.c,[.tmp 2],false⟩
namespace NL
def r0:=[o 2 (.a9 (k 0))]
def r1:=[m 4 0,o 5 (.len 4),o 6 (.bin .sub 5 (k 1)),m 3 6]
def r2:=[m 7 3,o 8 (.bin .gtr 7 (k 0))]
def r4:=[m 11 0,m 12 3,o 13 (.a5 none 3 11 12),o 14 (.ld true 3 13),o 15 (.call 97 [14]),o 16 (.bin .neq 15 (k 0))]
def r5:=[m 17 3,m 2 17]
def r3:=[m 9 3,o 10 (.bin .sub 9 (k 1)),m 3 10]
def r6:=[o 2 (.a9 (k 0))]
def l1:=(s (s (d r2 [7]) (i 8 .skip (x 0))) (s (b 1 (s (d r4 [8,11,12,13,14,15]) (i 16 (s (d r5 [0,3,16,17]) .ret) .skip))) (d r3 [9,10,16])))
def c:=(s (d r0 [2]) (s (s (d r1 [4,5,6]) (b 0 (w l1))) (s (d r6 [0,3,8]) .ret)))
end NL
def NL:AFn:=⟨1,NL.c,[.tmp 2],false⟩
namespace NI
def r0:=[o 4 (.alloc 4 [(.bool false),.nil,.nil])]
def r1:=[m 5 1,m 6 0,o 7 (.len 6),o 8 (.bin .lss 5 7)]
def r2:=[m 9 0,m 10 1,o 11 (.a5 none 3 9 10),o 12 (.ld true 3 11),o 13 (.call 95 [12]),n (.st 3 4 13)]
def r3:=[o 14 (.call 96 [(k 0)]),n (.st 3 4 14)]
def c:=(s (p r0) (s (s (d r1 [5,6,7]) (i 8 (s (d r2 [0,1,8,9,10,11,12,13]) .ret) .skip)) (s (d r3 [0,1,8,14]) .ret)))
end NI
def NI:AFn:=⟨2,NI.c,[.cell 4 true 3],false⟩
namespace NV
def r0:=[o 2 (.a9 (.c .nil))]
def r1:=[m 5 0,o 6 (.mk 6 3 56 [(.bool false),.nil,.nil] 5 5),m 3 6]
def r2:=[m 7 0,o 8 (.a9 (k 0))]
def r3:=[o 9 (.bin .lss 8 7)]
def r4:=[m 10 8,m 4 10]
def r5:=[m 11 3,m 12 4,o 13 (.call 96 [(k 0)]),o 14 (.a5 none 3 11 12),n (.st 3 14 13)]
def r6:=[o 15 (.bin .add 8 (k 1)),m 8 15]
def r7:=[m 16 3,m 2 16]
def l1:=(s (p r3) (s (i 9 .skip (x 0)) (s (b 1 (s (d r4 [9,10]) (d r5 [4,11,12,13,14]))) (d r6 [15]))))
def c:=(s (d r0 [2]) (s (d r1 [5,6]) (s (s (d r2 [0]) (b 0 (w l1))) (s (d r7 [3,7,8,9,16]) .ret))))
end NV
def NV:AFn:=⟨1,NV.c,[.tmp 2],false⟩
namespace JC
def r0:=[o 1 (.box 1 0),o 2 (.alloc 2 [.nil,.nil,.nil,(.bool false),.nil,.nil]),o 3 (.a9 (k 0))]
def r1:=[o 10 (.ld true 2 1),o 11 (.call 201 [10]),o 12 (.un .not 11)]
def r2:=[o 13 (.build [.nil,.nil,.nil,(.bool false),.nil,.nil] []),n (.st 6 2 13),o 3 (.a9 (k 2))]
def r3:=[o 14 (.a6 1 0),o 15 (.ld false 1 14),o 16 (.call 204 [15]),o 17 (.a6 1 1),o 18 (.ld false 1 17),o 19 (.call 204 [18]),o 20 (.mm true [16,19]),
 m 4 20]
def r4:=[m 21 4,o 22 (.bin .gtr 21 (k 16))]
def r5:=[o 23 (.build [.nil,.nil,.nil,(.bool false),.nil,.nil] []),n (.st 6 2 23),o 3 (.a9 (k 12))]
def r6:=[o 24 (.a6 1 0),o 25 (.ld false 1 24),o 26 (.call 205 [25,(k 0)]),m 27 4,o 28 (.u9 28 206 [27]),
 o 29 (.build [.nil,.nil,.nil,(.bool false),.nil,.nil] [(3,3,26),(1,1,28)]),o 5 (.alloc 5 [.nil,.nil,.nil,(.bool false),.nil,.nil]),
 n (.st 6 5 29)]
def r7:=[m 30 4,o 31 (.bin .gtr 30 (k 0))]
def r8:=[o 32 (.a6 5 1),o 33 (.ld false 1 32),o 34 (.call 96 [(k 1)]),o 35 (.a5 none 3 33 (k 0)),n (.st 3 35 34)]
def r9:=[m 36 4,o 37 (.a9 (k 0))]
def BX:=[o 38 (.bin .lss 37 36)]
def B7:=[m 39 37,m 6 39]
def ah:=[m 40 4,o 41 (.u9 41 206 [40]),m 7 41]
def CR:=[m 42 6,o 43 (.bin .gtr 42 (k 0))]
def di:=[m 44 7,m 45 6,o 46 (.bin .sub 45 (k 1)),o 47 (.call 96 [(k 1)]),o 48 (.a5 none 3 44 46),n (.st 3 48 47)]
def dj:=[m 49 4,o 50 (.a9 (k 0))]
def fj:=[o 51 (.bin .lss 50 49)]
def EO:=[m 52 50,m 8 52]
def fk:=[m 53 7,m 54 8,o 55 (.a6 1 1),o 56 (.ld false 1 55),m 57 8,o 58 (.bin .add 57 (k 1)),o 59 (.call 205 [56,58]),o 60 (.call 199 [59]),
 o 61 (.a5 none 3 53 54),n (.st 3 61 60)]
def gm:=[o 62 (.bin .add 50 (k 1)),m 50 62]
def jo:=[o 63 (.a6 5 0),o 64 (.ld false 1 63),m 65 7,o 66 (.c9 66 1 [65]),o 67 (.app 67 1 24 64 66),o 68 (.a6 5 0),n (.st 1 68 67)]
def mr:=[o 69 (.a6 1 0),q 70 [9] (.ld false 1 69),q 71 [9] (.call 205 [70,(k 0)]),o 72 (.a6 1 1),q 73 [9] (.ld false 1 72),
 m 74 6,o 75 (.bin .add 74 (k 1)),q 76 [9] (.call 205 [73,75]),q 77 [9] (.call 99 [71,76]),
 o 9 (.alloc 9 [(.bool false),.nil,.nil]),n (.st 3 9 77)]
def oo:=[o 78 (.a6 5 2),q 79 [87] (.ld false 1 78),o 80 (.a6 1 0),o 81 (.ld false 1 80),m 82 6,o 83 (.bin .add 82 (k 1)),o 84 (.call 205 [81,83]),
 o 85 (.ld true 3 9),o 86 (.call 150 [84,85]),o 87 (.c9 87 3 [86]),o 88 (.app 88 3 56 79 87),o 89 (.a6 5 2),n (.st 1 89 88)]
def qz:=[o 90 (.bin .add 37 (k 1)),m 37 90]
def LR:=[o 91 (.ld true 6 5),n (.st 6 2 91),o 3 (.a9 (k 0))]
def l2:=(s (p fj) (s (i 51 .skip (x 2)) (s (b 3 (s (d EO [51,52]) (d fk [8,53,54,55,56,57,58,59,60,61]))) (d gm [62]))))
def l1:=(s (p BX) (s (i 38 .skip (x 0)) (s (b 1 (s (d B7 [38,39]) (s (d ah [40,41]) (s (s (d CR [42]) (i 43 (d di [43,44,45,46,47,48]) (s (d dj [43]) (b 2 (w l2))))) (s (d jo [7,49,50,51,63,64,65,66,67,68]) (s (e mr [69,70,71,72,73,74,75,76,77]) (e oo [6,9,78,79,80,81,82,83,84,85,86,87,88,89]))))))) (d qz [90]))))
def c:=(s (d r0 [0,3]) (s (s (d r1 [10,11]) (i 12 (s (d r2 [1,12,13]) .ret) .skip)) (s (e r3 [12,14,15,16,17,18,19,20]) (s (s (d r4 [21]) (i 22 (s (d r5 [1,4,22,23]) .ret) .skip)) (s (d r6 [22,24,25,26,27,28,29]) (s (s (d r7 [30]) (i 31 (e r8 [31,32,33,34,35]) .skip)) (s (s (d r9 [31]) (b 0 (w l1))) (s (d LR [1,4,5,36,37,38,91]) .ret))))))))
end JC
def JC:AFn:=⟨1,JC.c,[.cell 2 true 6,.tmp 3],false⟩
namespace NC
def r0:=[o 2 (.a9 (.c .nil))]
def r1:=[m 6 0,o 7 (.len 6),o 8 (.mk 8 1 24 [.nil] 7 7),m 3 8]
def r2:=[o 4 (.a9 (k 0))]
def r3:=[m 9 4,m 10 0,o 11 (.len 10),o 12 (.bin .lss 9 11)]
def r5:=[o 5 (.a9 (k 0))]
def r6:=[m 15 5,m 16 0,o 17 (.len 16),o 18 (.bin .lss 15 17)]
def r8:=[m 21 3,m 22 4,m 23 3,m 24 4,o 25 (.a5 none 1 23 24),q 26 [34] (.ld false 1 25),m 27 0,m 28 5,o 29 (.a5 none 1 27 28),
 o 30 (.ld false 1 29),m 31 4,o 32 (.a5 none 3 30 31),o 33 (.ld true 3 32),o 34 (.c9 34 3 [33]),o 35 (.app 35 3 56 26 34),o 36 (.a5 none 1 21 22),
 n (.st 1 36 35)]
def r7:=[m 19 5,o 20 (.bin .add 19 (k 1)),m 5 20]
def r4:=[m 13 4,o 14 (.bin .add 13 (k 1)),m 4 14]
def r9:=[m 37 3,m 2 37]
def l2:=(s (s (d r6 [15,16,17]) (i 18 .skip (x 2))) (s (b 3 (e r8 [18,21,22,23,24,25,26,27,28,29,30,31,32,33,34,35,36])) (d r7 [19,20])))
def l1:=(s (s (d r3 [9,10,11]) (i 12 .skip (x 0))) (s (b 1 (s (d r5 [12]) (b 2 (w l2)))) (d r4 [5,13,14,18])))
def c:=(s (d r0 [2]) (s (d r1 [6,7,8]) (s (s (p r2) (b 0 (w l1))) (s (d r9 [0,3,4,12,37]) .ret))))
end NC
def NC:AFn:=⟨1,NC.c,[.tmp 2],false⟩
structure o5 (L:Lib):Prop extends iv L where
 KL:L 197=some F.KL
 I1:L 198=some F.I1
 LT:L 199=some F.LT
 LP:L 200=some F.LP
 ND:L 201=some F.ND
 MT:L 202=some F.MT
 NL:L 204=some F.NL
 NI:L 205=some F.NI
 NV:L 206=some F.NV
 JC:L 207=some F.JC
 NC:L 212=some F.NC
end Go.e8.F

namespace Go.e8.F
open C
structure qg (L:Lib):Prop extends o5 L where
structure lf (L:Lib):Prop extends qg L where
end Go.e8.F
