/-
  The abstract machine: data without memory. AV: a value; slices that are only read are lists ('sl'), rows and boxes of the call's own are named by a site and a stamp.
  Nothing here speaks of a program; EngSound ties it to the model.
-/
import Derived.Calls
import Derived.Below
import Derived.Laws.CopyRow
import Derived.Laws.Cells
import Derived.Laws.MakeOwn
import Derived.Laws.AppendOwn
import Derived.Deep.AppendSrc
import Derived.Deep.Draws
import Derived.ArgAppend
import Derived.Laws.StructEq
import Derived.ChangeKeysEq
set_option linter.unusedSimpArgs false
set_option linter.unusedVariables false
set_option linter.unnecessarySimpa false
namespace Go.e9
theorem zE {α : Type} {l : List α} {i : Nat} (h : i < l.length) : l[i]? = some l[i] :=
 List.getElem?_eq_getElem h
theorem zS {α : Type} {l : List α} {i : Nat} {a : α} (h : l[i]? = some a) : ∃ h : i < l.length, l[i] = a :=
 List.getElem?_eq_some_iff.1 h
theorem zM {α : Type} {l : List α} {i : Nat} {a : α} (h : l[i]? = some a) : a ∈ l :=
 List.mem_of_getElem? h
end Go.e9
namespace Go.e9
inductive AV where
 | int (k:IntKind) (n:Int)
 | bool (b:Bool)
 | sl (l:Bool) (es:List (List AV))
 | row (s t z off len:Nat)
 | nil
 | ptr (s t i j:Nat)
 | bu (cs:List AV)
 | agg (cs:List AV)
 | m9 (vs:List AV)
 | ib (v:Value)
 | fn (p:Bool) (f g:Nat) (cs:List AV)
 | any
 deriving Inhabited
inductive AP where
 | t (n:Nat)
 | c (v:AV)
 deriving Inhabited
structure ED where
 c7:Nat
 es:List (List AV)
structure CH where
 n6:Nat
 m5:Nat->Option ED
def AH:=Nat->CH
def AH.emp:AH:=λ_=>⟨0,λ_=>none⟩
def AH.put (o:AH) (s:Nat) (x:CH):AH:=λ s'=>if s'=s then x else o s'
def AH.get (o:AH) (s t:Nat):Option ED:=(o s).m5 t
def AH.n6 (o:AH) (s:Nat):Nat:=(o s).n6
def CH.bg (x:CH) (t:Nat) (b:Option ED):CH:=⟨x.n6,λ t'=>if t'=t then b else x.m5 t'⟩
def CH.new (x:CH) (b:ED):CH:=⟨x.n6+1,λ t'=>if t'=x.n6 then some b else x.m5 t'⟩
theorem AH.o4 (o:AH) (s:Nat) (x:CH):o.put s x s=x:=by simp [AH.put]
theorem AH.lq (o:AH) (s s':Nat) (x:CH) (h:s'≠s):o.put s x s'=o s':=by simp [AH.put,h]
theorem AH.px (o:AH) (s:Nat) (x y:CH):(o.put s x).put s y=o.put s y:=by
 funext s';by_cases h:s'=s<;>simp [AH.put,h]
inductive D8 where
 | c6 (x:AP)
 | ff (s c7:Nat)
 | pick (c a b:AP)
 | bin (op:BinOp) (x y:AP)
 | beq (ne:Bool) (x y:AP)
 | un (op:UnOp) (x:AP)
 | conv (k:IntKind) (x:AP)
 | box (s:Nat) (x:AP)
 | alloc (s:Nat) (zero:List AV)
 | build (zero:List AV) (parts:List (Nat × Nat × AP))
 | m4 (s c7:Nat) (parts:List AP)
 | a7 (x:AP) (off:Nat)
 | ry (x:AP) (off n:Nat) (agg:Bool)
 | b9 (arr:Option Nat) (c7:Nat) (x i:AP)
 | ld (agg:Bool) (n:Nat) (x:AP)
 | st (n:Nat) (x v:AP)
 | mk (s c7 bytes:Nat) (zero:List AV) (l c:AP)
 | ke (c7:Nat) (x:AP) (lo hi:Option AP)
 | ext (x:AP) (i:Nat)
 | len (x:AP)
 | mm (max:Bool) (xs:List AP)
 | app (s c7 bytes:Nat) (x y:AP)
 | call (f:Nat) (xs:List AP)
 | m7 (f:Nat) (xs:List AP)
 | xm (ne:Bool) (x:AP)
 | lu (tb:List Nat) (x:AP)
 | um (p:Bool) (f:Nat) (xs:List AP)
 | y7 (x:AP) (xs:List AP)
 | wi (f:Nat) (x:AP)
 | w9 (f:Nat) (xs:List AP)
 | rm (s n:Nat) (x v:AP)
 | bm (s f:Nat) (xs:List AP)
 | wk (ne:Bool) (n:Nat) (x y:AP)
 | ju (x:AP)
 | ru (s c7 bytes:Nat) (x y:AP)
 | gj (s f:Nat) (xs:List AP)
 | bad
 deriving Inhabited
structure AI where
 dst:Option Nat
 op:D8
 guard:Option (Nat × Bool):=none
 g9:List Nat:=[]
 deriving Inhabited
inductive BJ where
 | skip
 | ops (l:List AI) (draw:Bool)
 | dr (c:BJ) (ts ss:List Nat)
 | scope (c:BJ)
 | seq (a b:BJ)
 | cond (c:AP) (a b:BJ)
 | block (id:Nat) (c:BJ)
 | loop (c:BJ)
 | exit (id:Nat)
 | ret
 deriving Inhabited
inductive O3 where
 | tmp (t:Nat)
 | cell (t:Nat) (agg:Bool) (n:Nat)
 deriving Inhabited
structure AFn where
 fo:Nat
 body:BJ
 res:List O3
 uq:Bool
abbrev Tm:=List (Nat × AV)
def m8:Tm->Nat->AV
 | [],_ => .any
 | (i,v)::r,j=>if j=i then v else m8 r j
def nn:Tm->Nat->AV->Tm
 | [],j,u=>[(j,u)]
 | (i,v)::r,j,u=>if j=i then (i,u)::r else if j<i then (j,u)::(i,v)::r else (i,v)::nn r j u
def fe:Tm->List Nat->Tm
 | [],_=>[]
 | (i,v)::r,l=>if l.contains i then fe r l else (i,v)::fe r l
theorem oN (m:Tm) (i:Nat) (v:AV) (j:Nat):m8 (nn m i v) j=if j=i then v else m8 m j:=by
 induction m with
 | nil=>by_cases h:j=i<;>simp [nn,m8,h]
 | cons x r ih =>
  obtain ⟨a,u⟩:=x;by_cases h:i=a
  ·subst h
   by_cases h2:j=i<;>simp [nn,m8,h2]
  ·by_cases v9:i<a
   ·by_cases h2:j=i<;>simp [nn,m8,h,v9,h2]
   ·by_cases h2:j=a
    ·subst h2
     have : ¬ j=i:=λ e=>h e.symm
     simp [nn,m8,h,v9,this]
    ·simp [nn,m8,h,v9,h2,ih]
structure St where
 tm:Tm
 own:AH
def St.ev (st:St):AP->AV
 | .t n=>m8 st.tm n
 | .c v=>v
inductive CG where
 | val (v:AV)
 | new (s:Nat) (b:ED) (v:Nat->AV)
 | Cm (s:Nat) (b:ED) (v:Nat->AV)
 | jc (v:AV) (own:AH)
 | bg (s:Nat) (x:CH)
 | Aw (s:Nat) (x:CH) (v:AV)
def cellsOf:AV->Option (List AV)
 | .agg cs=>some cs
 | .fn _ _ _ _=>none
 | .m9 _=>none
 | .any=>none
 | v=>some [v]
def W9 (agg:Bool) (cs:List AV):Option AV :=
 if agg then some (.agg cs) else match cs with|[c]=>some c|_=>none
def part (cs:List AV) (off n:Nat):Option (List AV) :=
 if off+n<=cs.length then some ((cs.drop off).take n) else none
def splice (cs:List AV) (off:Nat) (vs:List AV):List AV:=cs.take off++vs++cs.drop (off+vs.length)
def fill (cells:List AV):List (Nat × Nat × AV)->Option (List AV)
 | []=>some cells
 | (off,n,v)::r=>match cellsOf v with
  | some vs=>if vs.length=n/\off+n<=cells.length then fill (splice cells off vs) r else none
  | none=>none
def DW (op:BinOp) (k:IntKind) (a:Int) (k':IntKind) (b:Int):Option AV :=
 match op with
 | .shl=>if b<0 then none else some (.int k (k.wrap (a*2^(min b.toNat k.bits))))
 | .shr=>if b<0 then none else some (.int k (a.fdiv (2^(min b.toNat k.bits))))
 | .add=>if k=k' then some (.int k (k.wrap (a+b))) else none
 | .sub=>if k=k' then some (.int k (k.wrap (a-b))) else none
 | .mul=>if k=k' then some (.int k (k.wrap (a*b))) else none
 | .quo=>if k=k'/\b≠0 then some (.int k (k.wrap (a.tdiv b))) else none
 | .rem=>if k=k'/\b≠0 then some (.int k (a.tmod b)) else none
 | .and=>if k=k' then some (.int k (k.wrap (BitVec.ofInt k.bits a &&& BitVec.ofInt k.bits b).toNat)) else none
 | .or=>if k=k' then some (.int k (k.wrap (BitVec.ofInt k.bits a ||| BitVec.ofInt k.bits b).toNat)) else none
 | .xor=>if k=k' then some (.int k (k.wrap (BitVec.ofInt k.bits a ^^^ BitVec.ofInt k.bits b).toNat)) else none
 | .andNot=>if k=k' then some (.int k (k.wrap (BitVec.ofInt k.bits a &&& ~~~ BitVec.ofInt k.bits b).toNat)) else none
 | .eql=>if k=k' then some (.bool (a == b)) else none
 | .neq=>if k=k' then some (.bool (a != b)) else none
 | .lss=>if k=k' then some (.bool (decide (a<b))) else none
 | .leq=>if k=k' then some (.bool (decide (a<=b))) else none
 | .gtr=>if k=k' then some (.bool (decide (a>b))) else none
 | .geq=>if k=k' then some (.bool (decide (a≥b))) else none
def fQ (op:UnOp):AV->Option AV
 | .int k n=>match op with
  | .neg=>some (.int k (k.wrap (0-n)))
  | .xor=>some (.int k (k.wrap (BitVec.ofInt k.bits (if k.signed then -1 else k.max) ^^^ BitVec.ofInt k.bits n).toNat))
  | _=>none
 | .bool b=>match op with
  | .not=>some (.bool (!b))
  | _=>none
 | _=>none
def dH (max:Bool):AV->AV->Option AV
 | .int k a,.int _ b=>some (.int k (if max then (if b>a then b else a) else (if b<a then b else a)))
 | _,_=>none
def WN (max:Bool):AV->List AV->Option AV
 | v,[]=>some v
 | v,u::r=>match dH max v u with|some x=>WN max x r|none=>none
def AH.z0 (o:AH):List Nat->AH
 | []=>o
 | s::r=>λ s'=>if s'=s then ⟨0,λ_=>none⟩ else o.z0 r s'
def AH.uj (own:AH) (s t i j n:Nat):Option (List AV) :=
 match own.get s t with
 | some b=>match b.es[i]? with
  | some cs=>part cs j n
  | none=>none
 | none=>none
def AH.pz (own:AH) (s t i j:Nat) (vs:List AV):Option AH :=
 match own.get s t with
 | some b=>match b.es[i]? with
  | some cs=>if j+vs.length<=cs.length then some (own.put s ((own s).bg t (some ⟨b.c7,b.es.set i (splice cs j vs)⟩))) else none
  | none=>none
 | none=>none
def ET (own:AH):AV->Option (List (List AV))
 | .sl _ es=>some es
 | .nil=>some []
 | .ib (.bool _)=>some []
 | .row s t z off len=>match own.get s t with
  | some b=>if off+len<=b.es.length/\b.c7=z then some ((b.es.drop off).take len) else none
  | none=>none
 | _=>none
def dD:AV->Option Nat
 | .sl _ es=>some es.length
 | .nil=>some 0
 | .row _ _ _ _ len=>some len
 | _=>none
def snap (own:AH) (l:Bool):Nat->AV->Option AV
 | _,.int k n=>some (.int k n)
 | _,.bool b=>some (.bool b)
 | _,.sl l' es=>some (.sl l' es)
 | _,.nil=>some (.sl false [])
 | _,.ib v=>some (.ib v)
 | d+1,.row s t z off len=>match ET own (.row s t z off len) with
  | some es=>(es.mapM (λ cs:List AV=>cs.mapM (snap own l d))).map (AV.sl l)
  | none=>none
 | _,_=>none
def C8 (own:AH) (l:Bool):AV->Option AV
 | .agg cs=>(cs.mapM (snap own l 6)).map AV.agg
 | v=>snap own l 6 v
def bZ (own:AH) (l:Bool):AV->Option AV
 | .nil=>some .nil
 | v=>C8 own l v
def fO (own:AH) (l:Bool):AV->Option AV
 | .m9 cs=>(cs.mapM (C8 own l)).map AV.m9
 | v=>C8 own l v
mutual
def A6:AV->Prop
 | .int _ _=>True
 | .bool _=>True
 | .ib _=>True
 | .sl l es=>l=false/\F2 es
 | .agg cs=>CW cs
 | .m9 cs=>CW cs
 | _=>False
def CW:List AV->Prop
 | []=>True
 | c::r=>A6 c/\CW r
def F2:List (List AV)->Prop
 | []=>True
 | c::r=>CW c/\F2 r
end
def DX:Nat:=140737488355328
structure Cl where
 pure:Nat->List AV->Option AV
 mh:Nat->List AV->AH->Option (AV × AH)
 num:Nat->Nat
noncomputable def pZ (C:Cl) (f:Nat) (vs:List AV) (s:Nat) (q:CH):Option (AV × CH) :=
 open Classical in if h : ∃ p : AV × CH, ∀ o : AH, o s = q -> C.mh f vs o = some (p.1, o.put s p.2) then some h.choose else none
theorem qA {C:Cl} {f:Nat} {vs:List AV} {s:Nat} {q:CH} {p:AV × CH}:pZ C f vs s q=some p ↔ ∀ o:AH,o s=q->C.mh f vs o=some (p.1,o.put s p.2):=by
 unfold pZ;constructor
 ·intro h
  split at h
  ·rename_i hx
   obtain rfl:=Option.some.inj h;exact hx.choose_spec
  ·cases h
 ·intro h
  rw[dif_pos ⟨p,h⟩];have h1:=(⟨p,h⟩ : ∃ p:AV × CH,∀ o:AH,o s=q->C.mh f vs o=some (p.1,o.put s p.2)).choose_spec (λ_=>q) rfl;have h2:=h (λ_=>q) rfl;have h3:=Option.some.inj (h2.symm.trans h1);refine congrArg some ?_;generalize (Exists.choose _:AV × CH)=p' at h3;obtain ⟨a,b⟩:=p;obtain ⟨a',b'⟩:=p';simp only[Prod.mk.injEq]at h3;obtain ⟨h4,h5⟩:=h3;have h6:b=b':=by
   have:=congrFun h5 s
   simpa [AH.put] using this
  rw[h4,h6]
def kY:AV->AV
 | .sl _ es => .sl false es
 | .nil => .sl false []
 | v=>v
def Av:AV->AV
 | .agg cs => .agg (cs.map kY)
 | v=>kY v
def nG:AV->AV
 | .sl _ es => .sl true es
 | v=>v
def Ch:AV->AV
 | .agg cs => .agg (cs.map nG)
 | v=>nG v
mutual
def IL:AV->AV
 | .sl _ es => .sl true (nE es)
 | v=>v
def YC:List AV->List AV
 | []=>[]
 | c::r=>IL c::YC r
def nE:List (List AV)->List (List AV)
 | []=>[]
 | c::r=>YC c::nE r
end
def bW:AV->AV
 | .agg cs => .agg (YC cs)
 | v=>IL v
def iY:AV->Prop
 | .m9 _=>False
 | .fn _ _ _ _=>False
 | _=>True
def GZ:AV->Bool
 | .int _ _=>true | .bool _=>true | .sl _ _=>true | .nil=>true
 | _=>false
def dq:AV->Bool
 | .agg cs=>cs.all GZ
 | v=>GZ v
def AeR:AV->Bool
 | .int _ _=>true | .bool _=>true
 | _=>false
def lH:AV->Prop
 | .int _ _=>True
 | .bool _=>True
 | .sl _ es => ∀ e∈es,∀ c∈e,AeR c=true
 | _=>False
def TT:AV->Prop
 | .agg cs => ∀ c∈cs,lH c
 | v=>lH v
open Classical in
noncomputable def YD (r:AV):AV:=if TT r then Ch r else bW r
theorem yX {r:AV} (h:TT r):YD r=Ch r:=if_pos h
theorem Aev {r:AV} (h : ¬ TT r):YD r=bW r:=if_neg h
def I1:List AV->Option (List Int)
 | []=>some []
 | .int .i64 n::r=>(I1 r).map (n :: ·)
 | _=>none
def G4:AV->Option AV
 | .agg _=>none
 | .fn _ _ _ _=>none
 | .m9 _=>none
 | .any=>none
 | v=>some v
open Classical in
noncomputable def bL (x:Option (AV × AH)):Option (Nat × List (List AV)):=match x with
 | some (.row s t z 0 n,o)=>match o.get s t with
  | some b=>if b.es.length=n/\F2 b.es then some (z,b.es) else none
  | none=>none
 | _=>none
theorem Aiz {x:Option (AV × AH)} {z:Nat} {es:List (List AV)} (h:bL x=some (z,es)) : ∃ s t o b,x=some (.row s t z 0 es.length,o)/\o.get s t=some b/\b.es=es/\F2 es:=by
 unfold bL at h;split at h
 ·split at h
  ·rename_i s t z' n o b hb
   split at h
   ·rename_i hc
    obtain ⟨rfl,hc⟩:=hc;simp only[Option.some.injEq,Prod.mk.injEq]at h;obtain ⟨rfl,rfl⟩:=h;exact ⟨_,_,_,_,rfl,hb,rfl,hc⟩
   ·cases h
  ·cases h
 ·cases h
open Classical in
noncomputable def m6 (C:Cl) (g9:List Nat) (ρ:AP->AV) (own:AH):D8->Option CG
 | .c6 x=>some (.val (ρ x))
 | .ff s c7=>some (.Cm s ⟨c7,[]⟩ (λ t => .row s t c7 0 0))
 | .pick c a b=>match ρ c with
  | .bool true=>some (.val (ρ a))
  | .bool false=>some (.val (ρ b))
  | _=>none
 | .bin op x y=>match ρ x,ρ y with
  | .int k a,.int k' b=>(DW op k a k' b).map .val
  | _,_=>none
 | .beq ne x y=>match ρ x,ρ y with
  | .bool a,.bool b=>some (.val (.bool (if ne then !(a == b) else a == b)))
  | _,_=>none
 | .un op x=>(fQ op (ρ x)).map .val
 | .conv k x=>match ρ x with
  | .int _ n=>some (.val (.int k (k.wrap n)))
  | _=>none
 | .box s x=>match cellsOf (ρ x) with
  | some cs=>some (.new s ⟨cs.length,[cs]⟩ (λ t => .ptr s t 0 0))
  | none=>none
 | .alloc s zero=>some (.new s ⟨zero.length,[zero]⟩ (λ t => .ptr s t 0 0))
 | .build zero parts=>(fill zero (parts.map λ p=>(p.1,p.2.1,ρ p.2.2))).map (λ cs => .val (.agg cs))
 | .m4 s c7 parts=>match parts.mapM (λ x=>cellsOf (ρ x)) with
  | some es=>if ∀ e∈es,e.length=c7 then some (.new s ⟨c7,es⟩ (λ t => .row s t c7 0 es.length)) else none
  | none=>none
 | .a7 x off=>match ρ x with
  | .ptr s t i j=>some (.val (.ptr s t i (j+off)))
  | .bu cs=>some (.val (.bu (cs.drop off)))
  | _=>none
 | .ry x off n agg=>match ρ x with
  | .agg cs=>match part cs off n with
   | some ds=>(W9 agg ds).map .val
   | none=>none
  | _=>none
 | .b9 arr c7 x i=>match ρ i with
  | .int _ n=>match arr,ρ x with
   | some len,.ptr s t i' j=>if 0<=n/\n<len then some (.val (.ptr s t i' (j+n.toNat*c7))) else none
   | some len,.bu cs=>if 0<=n/\n<len then some (.val (.bu (cs.drop (n.toNat*c7)))) else none
   | none,.row s t z off len=>if 0<=n/\n<len/\z=c7 then some (.val (.ptr s t (off+n.toNat) 0)) else none
   | none,.sl _ es=>if 0<=n then match es[n.toNat]? with
     | some cs=>if cs.length=c7 then some (.val (.bu cs)) else none
     | none=>none
    else none
   | _,_=>none
  | _=>none
 | .ld agg n x=>match ρ x with
  | .ptr s t i j=>match (own.z0 g9).uj s t i j n with
   | some cs=>(W9 agg cs).map .val
   | none=>none
  | .bu cs=>match part cs 0 n with
   | some ds=>(W9 agg ds).map .val
   | none=>none
  | _=>none
 | .st n x v=>match ρ x,cellsOf (ρ v) with
  | .ptr s t i j,some vs=>if vs.length=n then (own.pz s t i j vs).map (CG.jc (.m9 [])) else none
  | _,_=>none
 | .mk s c7 bytes zero l c=>match ρ l,ρ c with
  | .int _ a,.int _ b=>if 0<=a/\a<=b/\b*bytes<=DX/\b<=9223372036854775807/\zero.length=c7 then some (.new s ⟨c7,List.replicate a.toNat zero⟩ (λ t => .row s t c7 0 a.toNat)) else none
  | _,_=>none
 | .ke c7 x lo hi=>match ρ x with
  | .sl l es =>
   let h:Option Nat:=match hi with|none=>some es.length|some o=>match ρ o with | .int _ n=>if 0<=n/\n<=es.length then some n.toNat else none|_=>none
   let a:Option Nat:=match lo with|none=>some 0|some o=>match ρ o with | .int _ n=>if 0<=n then some n.toNat else none|_=>none
   match a,h with
   | some a,some h=>if a<=h /\ ∀ e∈es,e.length=c7 then some (.val (.sl l ((es.take h).drop a))) else none
   | _,_=>none
  | .nil =>
   let h:Option Nat:=match hi with|none=>some 0|some o=>match ρ o with | .int _ n=>if n=0 then some 0 else none|_=>none
   let a:Option Nat:=match lo with|none=>some 0|some o=>match ρ o with | .int _ n=>if n=0 then some 0 else none|_=>none
   match a,h with
   | some _,some _=>some (.val .nil)
   | _,_=>none
  | .row s t z off len =>
   let h:Option Nat:=match hi with|none=>some len|some o=>match ρ o with | .int _ n=>if 0<=n/\n<=len then some n.toNat else none|_=>none
   let a:Option Nat:=match lo with|none=>some 0|some o=>match ρ o with | .int _ n=>if 0<=n then some n.toNat else none|_=>none
   match a,h with
   | some a,some h=>if a<=h/\z=c7 then some (.val (.row s t z (off+a) (h-a))) else none
   | _,_=>none
  | _=>none
 | .ext x i=>match ρ x with
  | .m9 vs=>(vs[i]?).map .val
  | _=>none
 | .len x=>match dD (ρ x) with
  | some n=>some (.val (.int .i64 (n:Int)))
  | none=>none
 | .mm max xs=>match xs.map ρ with
  | []=>none
  | v::r=>(WN max v r).map .val
 | .app s c7 bytes x y=>match ET own (ρ y) with
  | some ys=>if ∀ e∈ys,e.length=c7 then match ρ x with
    | .row s' t z 0 len=>match own.get s' t with
     | some b=>if b.c7=c7/\z=c7/\len<=b.es.length/\(len+ys.length)*bytes<=DX/\len+ys.length<=9223372036854775807 then
       some (.jc (.row s' (own.n6 s') c7 0 (len+ys.length)) (own.put s' (((own s').bg t none).new ⟨c7,b.es.take len++ys⟩)))
      else none
     | none=>none
    | .nil=>if ys.length*bytes<=DX/\ys.length<=9223372036854775807 then
       some (.jc (.row s (own.n6 s) c7 0 ys.length) (own.put s ((own s).new ⟨c7,ys⟩))) else none
    | _=>none
   else none
  | none=>none
 | .call f xs=>match (xs.map ρ).mapM (C8 (own.z0 g9) true) with
  | some vs=>(C.pure f vs).map .val
  | none=>none
 | .m7 f xs=>(C.mh f (xs.map ρ) own).map (λ r => .jc r.1 r.2)
 | .xm ne x=>match ρ x with
  | .nil=>some (.val (.bool (xor true ne)))
  | .ib (.bool b)=>some (.val (.bool (xor b ne)))
  | .sl _ (_::_)=>some (.val (.bool (xor false ne)))
  | .row _ _ _ _ (_+1)=>some (.val (.bool (xor false ne)))
  | _=>none
 | .bad=>none
 | .ju x=>match ρ x with
  | .nil=>some (.val (.int .i64 0))
  | _=>none
 | .ru s c7 bytes x y=>match ρ x,ρ y with
  | .nil,.int _ n=>if 0<n/\n*bytes<=DX/\n<=9223372036854775807 then some (.new s ⟨c7,[]⟩ (λ t => .row s t c7 0 n.toNat)) else none
  | _,_=>none
 | .gj s f xs=>(pZ C f (xs.map ρ) s (own s)).map λ p => .Aw s p.2 p.1
 | .lu tb x=>match ρ x with
  | .int _ n=>if 0<=n then (match tb[n.toNat]? with
   | some v=>some (.val (.int .u8 v))
   | none=>none) else none
  | _=>none
 | .um p f xs=>(xs.mapM (λ x=>G4 (ρ x))).map (λ cs => .val (.fn (p&&cs.isEmpty) f (C.num f) cs))
 | .wi f x=>match ρ x with
  | .agg (c::cs)=>some (.val (.fn true f (C.num f) (c::cs)))
  | _=>none
 | .w9 f xs=>if (xs.map ρ).all dq=true then (match C.pure f ((xs.map ρ).map Av) with
   | some r=>if TT r\/iY r then some (.val (YD r)) else none
   | none=>none) else none
 | .rm s n x v=>match ρ x,cellsOf (ρ v) with
  | .ptr s' t i j,some vs=>if s'=s/\vs.length=n then (own.pz s t i j vs).map (λ o'=>CG.bg s (o' s)) else none
  | _,_=>none
 | .wk ne n x y=>match ρ x,ρ y with
  | .agg cs,.agg ds=>match I1 cs,I1 ds with
   | some a,some b=>if a.length=n/\b.length=n then some (.val (.bool (if ne then !(decide (a=b)) else decide (a=b)))) else none
   | _,_=>none
  | _,_=>none
 | .bm s f xs=>match (xs.map ρ).mapM (bZ (own.z0 g9) true) with
  | some vs=>(bL (C.mh f vs AH.emp)).map (λ r => .new s ⟨r.1,r.2⟩ (λ t => .row s t r.1 0 r.2.length))
  | none=>none
 | .y7 x xs=>match ρ x with
  | .fn p f g cs=>if g=C.num f then (match p,cs with
   | true,[]=>(match (xs.map ρ).mapM (C8 own true) with
    | some vs=>(C.pure f vs).map .val
    | none=>none)
   | false,cs=>(C.mh f (xs.map ρ++cs) own).map (λ r => .jc r.1 r.2)
   | true,c::cs=>(match (AV.agg (c::cs)::xs.map ρ).mapM (C8 own true) with
    | some vs=>(C.pure f vs).map .val
    | none=>none)) else none
  | _=>none
def St.dst (st:St) (d:Option Nat) (v:AV):St :=
 match d with
 | some d=>{ st with tm:=nn st.tm d v }
 | none=>st
def St.app (st:St) (d:Option Nat):CG->St
 | .val v=>st.dst d v
 | .new s b v=>{ (st.dst d (v (st.own.n6 s))) with own:=st.own.put s ((st.own s).new b) }
 | .Cm s b v=>{ (st.dst d (v (st.own.n6 s))) with own:=st.own.put s ((st.own s).new b) }
 | .jc v o=>{ (st.dst d v) with own:=o }
 | .bg s x=>{ (st.dst d (.m9 [])) with own:=st.own.put s x }
 | .Aw s x v=>{ (st.dst d v) with own:=st.own.put s x }
def FX (st:St):Option (Nat × Bool)->Option Bool
 | none=>some true
 | some (g,want)=>match m8 st.tm g with
  | .bool b=>some (b == want)
  | .m9 []=>some false
  | _=>none
noncomputable def C9 (C:Cl) (o:AI) (st:St):Option St :=
 match FX st o.guard with
 | some true=>(m6 C o.g9 st.ev st.own o.op).map (st.app o.dst)
 | some false=>some (st.dst o.dst (.m9 []))
 | none=>none
noncomputable def DE (C:Cl):List AI->St->Option St
 | [],st=>some st
 | o::r,st=>match C9 C o st with
  | some o7=>DE C r o7
  | none=>none
def EV:D8->Option Nat
 | .ff s _=>some s
 | .box s _=>some s
 | .alloc s _=>some s
 | .m4 s _ _=>some s
 | .mk s _ _ _ _ _=>some s
 | .rm s _ _ _=>some s
 | .bm s _ _=>some s
 | .ru s _ _ _ _=>some s
 | .gj s _ _=>some s
 | _=>none
inductive It where
 | code (c:BJ)
 | oc (ts ss:List Nat)
 | m5 (id:Nat)
 | lp (c:BJ)
def D6 (id:Nat):List It->Option (List It)
 | .m5 Me::k=>if Me=id then some k else D6 id k
 | _::k=>D6 id k
 | []=>none
def AH.drop (o:AH):List Nat->AH
 | []=>o
 | s::r=>(o.drop r).put s ⟨(o s).n6,λ_=>none⟩
noncomputable def run (C:Cl):Nat->List It->St->Option St
 | 0,_,_=>none
 | _+1,[],st=>some st
 | n+1,.m5 _::k,st=>run C n k st
 | n+1,.oc ts ss::k,st=>run C n k ⟨fe st.tm ts,st.own.drop ss⟩
 | n+1,.lp c::k,st=>run C n (.code c :: .lp c::k) st
 | n+1,.code c::k,st=>match c with
  | .skip=>run C n k st
  | .ops l _=>match DE C l st with
   | some o7=>run C n k o7
   | none=>none
  | .dr c ts ss=>run C n (.code c :: .oc ts ss::k) st
  | .scope c=>run C n (.code c::k) st
  | .seq a b=>run C n (.code a :: .code b::k) st
  | .cond c a b=>match st.ev c with
   | .bool true=>run C n (.code a::k) st
   | .bool false=>run C n (.code b::k) st
   | _=>none
  | .block id c=>run C n (.code c :: .m5 id::k) st
  | .loop c=>run C n (.code c :: .lp c::k) st
  | .exit id=>match D6 id k with
   | some k'=>run C n k' st
   | none=>none
  | .ret=>some st
def C0 (i:Nat):List AV->Tm
 | []=>[]
 | v::r=>(i,v)::C0 (i+1) r
def K7:AV->Option AV
 | .any=>none
 | .m9 _=>none
 | v=>some v
def FG (st:St):O3->Option AV
 | .tmp t=>K7 (m8 st.tm t)
 | .cell t agg n=>match m8 st.tm t with
  | .ptr s u i j=>match st.own.uj s u i j n with
   | some cs=>W9 agg cs
   | none=>none
  | _=>none
def I2:List AV->AV
 | [v]=>v
 | vs => .m9 vs
structure Lib where
 fn:Nat->Option AFn
 num:Nat->Nat
instance : CoeFun Lib (λ_ => Nat -> Option AFn) := ⟨Lib.fn⟩
open Classical in
noncomputable def KD (I:List AV->Option (AV × AH)) (vs:List AV):Option AV :=
 match I vs with
 | some (r,o)=>match fO o false r with
  | some r'=>if A6 r' then some r' else none
  | none=>none
 | none=>none
def Lib.uq (L:Lib) (f:Nat):Bool:=match L f with
 | some fn=>fn.uq
 | none=>false
open Classical in
noncomputable def XA (b:Bool) (I:List AV->Option (AV × AH)) (vs:List AV):Option AV:=match b,vs with
 | true,.sl _ []::vs=>match KD I (.ib (.bool true)::vs),KD I (.ib (.bool false)::vs) with
  | some r,some r'=>if r=r' then some r else none
  | _,_=>none
 | _,vs=>KD I vs
noncomputable def DZ (L:Lib):Nat->Nat->List AV->AH->Option (AV × AH)
 | 0,_,_,_=>none
 | n+1,f,args,own=>match L f with
  | none=>none
  | some fn=>if args.length=fn.fo then
    match run ⟨λ f vs=>XA (L.uq f) (λ vs=>DZ L n f vs AH.emp) vs,DZ L n,L.num⟩ n [.code fn.body] ⟨C0 0 args,own⟩ with
    | some st=>match fn.res.mapM (FG st) with
     | some vs=>some (I2 vs,st.own)
     | none=>none
    | none=>none
   else none
noncomputable def HK (L:Lib) (n f:Nat) (vs:List AV):Option AV:=XA (L.uq f) (λ vs=>DZ L n f vs AH.emp) vs
noncomputable def C6 (L:Lib) (n:Nat):Cl:=⟨HK L n,DZ L n,L.num⟩
theorem mL (L:Lib) (n f:Nat) (args:List AV) (own:AH):DZ L (n+1) f args own =
  match L f with
  | none=>none
  | some fn=>if args.length=fn.fo then
    match run (C6 L n) n [.code fn.body] ⟨C0 0 args,own⟩ with
    | some st=>match fn.res.mapM (FG st) with
     | some vs=>some (I2 vs,st.own)
     | none=>none
    | none=>none
   else none:=rfl
namespace C
abbrev o (d:Nat) (op:D8):AI:=⟨some d,op,none,[]⟩
abbrev n (op:D8):AI:=⟨none,op,none,[]⟩
abbrev g (d i:Nat) (b:Bool) (op:D8):AI:=⟨some d,op,some (i,b),[]⟩
abbrev m (d s:Nat):AI:=⟨some d,.c6 (.t s),none,[]⟩
abbrev k (v:Int):AP := .c (.int .i64 v)
abbrev z:AV := .int .i64 0
abbrev q (d:Nat) (g9:List Nat) (op:D8):AI:=⟨some d,op,none,g9⟩
abbrev u (g9:List Nat) (op:D8):AI:=⟨none,op,none,g9⟩
abbrev v (d i:Nat) (b:Bool) (g9:List Nat) (op:D8):AI:=⟨some d,op,some (i,b),g9⟩
abbrev p (l:List AI):BJ := .ops l false
abbrev P (l:List AI):BJ := .ops l true
abbrev d (l:List AI) (ts:List Nat):BJ := .dr (.ops l false) ts []
abbrev e (l:List AI) (ts:List Nat):BJ := .dr (.ops l true) ts []
abbrev s (a b:BJ):BJ := .seq a b
abbrev i (c:AP) (a b:BJ):BJ := .cond c a b
abbrev b (id:Nat) (c:BJ):BJ := .block id c
abbrev w (c:BJ):BJ := .loop c
abbrev x (id:Nat):BJ := .exit id
instance (i : Nat) : OfNat AP i := ⟨.t i⟩
end C
end Go.e9
namespace Go.e9
def qW:Value->AV->Bool
 | .int k n,.int k' n'=>k == k'&&n == n'
 | .bool b,.bool b'=>b == b'
 | .slice none 0 0,.nil=>true
 | .string s,.ib (.string s')=>s.data.toList == s'.data.toList
 | _,_=>false
def cV:List Value->List AV->Bool
 | [],[]=>true
 | v::r,a::l=>qW v a&&cV r l
 | _,_=>false
def wN:Value->AV->Bool
 | .agg cs,.agg l=>cV cs.toList l
 | v,a=>qW v a
def B1:Operand->AP->Bool
 | .tmp t,.t n=>t == n
 | .const v,.c a=>wN v a
 | .func g,.c (.fn _ _ g' [])=>g == g'
 | _,_=>false
def EI:List Operand->List AP->Bool
 | [],[]=>true
 | v::r,a::l=>B1 v a&&EI r l
 | _,_=>false
def bU:Option Operand->Option AP->Bool
 | none,none=>true
 | some x,some y=>B1 x y
 | _,_=>false
section
variable (P:Program)
def jH (t:TypeId):Option Bool :=
 match P.underlying t with
 | some (.struct _)=>some true
 | some (.array _ _)=>some true
 | some _=>some false
 | none=>none
def O2 (t:TypeId) (n:Nat):Bool:=match P.info? t with|some i=>i.size == n|none=>false
def lS (t:TypeId) (n:Nat):Bool:=match P.info? t with|some i=>i.bytes == n|none=>false
def iW (t:TypeId) (l:List AV):Bool:=match P.info? t with|some i=>(match i.zero with|some z=>cV z.cells.toList l|none=>false)|none=>false
def SP (t:TypeId) (f:TypeId->Bool):Bool:=match P.underlying t with|some (.slice e)=>f e|_=>false
def Adm (t:TypeId) (i off n:Nat):Bool:=match P.underlying t with
 | some (.struct fs)=>(match fs[i]? with|some f=>f.offset == off&&O2 P f.type n&&n != 0|none=>false)
 | _=>false
def Adn (t:TypeId) (i:Nat) (agg:Bool):Bool:=match P.underlying t with
 | some (.struct fs)=>(match fs[i]? with|some f=>jH P f.type == some agg|none=>false)
 | _=>false
def iF (place:Nat->Option (Nat × Nat)):List (Nat × Operand)->List (Nat × Nat × AP)->Bool
 | [],[]=>true
 | (i,x)::r,(off,n,y)::l=>place i == some (off,n)&&B1 x y&&iF place r l
 | _,_=>false
def uX (t:TypeId) (ps:List (Nat × Operand)) (jo:List (Nat × Nat × AP)):Bool:=match P.underlying t with
 | some (.struct fs)=>(match fs.toList.mapM (λ f=>(P.info? f.type).map λ i=>(f.offset,i.size)) with|some places=>iF (places.toArray[·]?) ps jo|none=>false)
 | some (.array _ e)=>(match P.info? e with|some ie=>iF (λ i=>some (i*ie.size,ie.size)) ps jo|none=>false)
 | _=>false
def gO (k:Nat):List (Nat × Operand)->List AP->Bool
 | [],[]=>true
 | (i,x)::r,y::l=>i == k&&B1 x y&&gO (k+1) r l
 | _,_=>false
def fieldsI:Nat->List Field->Nat->Bool
 | k,[],n=>k == n
 | k, f :: fs, n => f.name != "_" && f.offset == k && (match P.underlying f.type with | some (.int _) => true | _ => false) && fieldsI (k + 1) fs n
def xR (t:TypeId) (n:Nat):Bool:=(match P.underlying t with|some (.struct fs)=>fieldsI P 0 fs.toList n|_=>false) && !P.stoodInHeld t && !P.eqGuardType P.depth t
def BG (num:Nat->Nat) (op:Op):D8->Bool
 | .c6 y=>match op with | .move x=>B1 x y | .assign x=>B1 x y|_=>false
 | .ff _ z=>z != 0&&(match op with | .move (.const (.slice none 0 0))=>true | .assign (.const (.slice none 0 0))=>true|_=>false)
 | .pick c' a' b'=>match op with | .pick c a b=>B1 c c'&&B1 a a'&&B1 b b'|_=>false
 | .bin Fu x' y'=>match op with | .binOp op _ x y _=>op == Fu&&B1 x x'&&B1 y y'|_=>false
 | .beq ne x' y'=>match op with | .binOp op t x y _=>(if ne then op == .neq else op == .eql)&&(match P.underlying t with|some .bool=>true|_=>false)&&B1 x x'&&B1 y y'|_=>false
 | .un Fu x'=>match op with | .unOp op _ x=>op == Fu&&B1 x x'|_=>false
 | .conv k x'=>match op with | .convert s d x=>(P.underlying s).isSome&&(match P.underlying d with|some (.int k')=>k == k'|_=>false)&&B1 x x'|_=>false
 | .box _ x'=>match op with | .box _ x=>B1 x x'|_=>false
 | .alloc _ z=>match op with | .alloc t=>iW P t z|_=>false
 | .build z jo=>match op with | .build t ps=>iW P t z&&uX P t ps.toList jo|_=>false
 | .m4 _ c7 jo=>match op with
  | .buildSlice t n ps=>SP P t (λ e=>O2 P e c7)&&c7 != 0&&n == jo.length&&decide (n*c7<=16777216)&&gO 0 ps.toList jo&&(n == 0||SP P t (λ e=>match P.info? e with|some i=>(match i.zero with|some z=>z.cells.size == c7|none=>false)|none=>false))
  | _=>false
 | .a7 x' off=>match op with
  | .fieldAddr s x f=>B1 x x'&&(match P.underlying s with|some (.struct fs)=>(match fs[f]? with|some fd=>fd.offset == off&&(match P.info? fd.type with|some i=>i.size != 0|none=>false)|none=>false)|_=>false)
  | _=>false
 | .ry x' off n agg=>match op with | .field t x f=>B1 x x'&&Adm P t f off n&&Adn P t f agg|_=>false
 | .b9 arr c7 x' i'=>match op with
  | .indexAddr t x i=>B1 x x'&&B1 i i'&&(match P.underlying t,arr with|some (.array len e),some xn=>len == xn&&O2 P e c7&&decide (1<len)|some (.slice e),none=>O2 P e c7&&c7 != 0|_,_=>false)
  | _=>false
 | .ld agg n x'=>match op with | .load t x=>B1 x x'&&jH P t == some agg&&(if agg then O2 P t n else n == 1)|_=>false
 | .st n x' v'=>match op with | .store t x v=>B1 x x'&&B1 v v'&&O2 P t n|_=>false
 | .mk _ c7 bytes z l' c'=>match op with
  | .makeSlice t l c=>B1 l l'&&B1 c c'&&SP P t (λ e=>O2 P e c7&&lS P e bytes&&iW P e z)&&c7 != 0
  | _=>false
 | .ke c7 x' tj ay=>match op with
  | .slice t x lo hi none=>B1 x x'&&bU lo tj&&bU hi ay&&SP P t (λ e=>O2 P e c7)&&c7 != 0
  | _=>false
 | .ext x' i'=>match op with | .extract x i=>B1 x x'&&i == i'|_=>false
 | .len x'=>match op with
  | .call ⟨.builtin .len,xs,ts⟩=>(match xs.toList,ts.toList with|[x],[t]=>B1 x x'&&SP P t (λ_=>true)|_,_=>false)
  | _=>false
 | .mm max ag=>match op with
  | .call ⟨.builtin .min,xs,_⟩ => !max&&EI xs.toList ag
  | .call ⟨.builtin .max,xs,_⟩=>max&&EI xs.toList ag
  | _=>false
 | .app _ c7 bytes x' y'=>match op with
  | .call ⟨.builtin .append,xs,ts⟩=>(match xs.toList,ts.toList with
   | [x,y],[t,u]=>B1 x x'&&B1 y y'&&SP P t (λ e=>O2 P e c7&&lS P e bytes&&(match P.info? e with|some i=>(match i.zero with|some z=>z.cells.size == c7|none=>false)|none=>false))&&c7 != 0&&SP P u (λ_=>true)
   | _,_=>false)
  | _=>false
 | .call f' ag=>match op with
  | .call ⟨.value (.func f),xs,_⟩=>f == num f'&&EI xs.toList ag
  | _=>false
 | .m7 f' ag=>match op with
  | .call ⟨.value (.func f),xs,_⟩=>f == num f'&&EI xs.toList ag
  | _=>false
 | .gj _ f' ag=>match op with
  | .call ⟨.value (.func f),xs,_⟩=>f == num f'&&EI xs.toList ag
  | _=>false
 | .xm ne x'=>match op with
  | .binOp op t x (.const (.slice none 0 0)) _=>(if ne then op == .neq else op == .eql)&&SP P t (λ_=>true)&&B1 x x'
  | _=>false
 | .bad=>true
 | .ju x'=>match op with
  | .call ⟨.builtin .cap,xs,ts⟩=>(match xs.toList,ts.toList with|[x],[t]=>B1 x x'&&SP P t (λ_=>true)|_,_=>false)
  | _=>false
 | .ru _ c7 bytes x' y'=>match op with
  | .call ⟨.builtin .append,xs,ts⟩=>(match xs.toList,ts.toList with
   | [x,y],[t,u]=>B1 x x'&&B1 y y'&&SP P t (λ e=>O2 P e c7&&lS P e bytes&&(match P.info? e with|some i=>(match i.zero with|some z=>z.cells.size == c7|none=>false)|none=>false))&&c7 != 0&&(match P.underlying u with|some (.int _)=>true|_=>false)
   | _,_=>false)
  | _=>false
 | .lu tb i'=>match op with
  | .index t (.const (.string s)) i=>(match P.underlying t with|some .string=>true|_=>false)&&s.data.toList.map (λ b=>b.toNat) == tb&&B1 i i'
  | _=>false
 | .um _ f' ag=>match op with
  | .makeFunc (.func f) first xs=>f == num f'&&first.toList.isEmpty&&EI xs.toList ag
  | _=>false
 | .wi f' x'=>match op with
  | .makeFunc (.func f) first xs=>f == num f'&&(match first.toList with|[x]=>B1 x x'|_=>false)&&xs.toList.isEmpty
  | _=>false
 | .w9 f' ag=>match op with
  | .call ⟨.value (.func f),xs,_⟩=>f == num f'&&EI xs.toList ag
  | _=>false
 | .wk ne n x' y'=>match op with | .binOp op t x y _=>(if ne then op == .neq else op == .eql)&&xR P t n&&B1 x x'&&B1 y y'|_=>false
 | .bm _ f' ag=>match op with
  | .call ⟨.value (.func f),xs,_⟩=>f == num f'&&EI xs.toList ag
  | _=>false
 | .rm _ n x' v'=>match op with | .store t x v=>B1 x x'&&B1 v v'&&O2 P t n|_=>false
 | .y7 x' ag=>match op with
  | .call ⟨.value x,xs,_⟩=>B1 x x'&&EI xs.toList ag
  | _=>false
def nK (ops:Array Oper):Option (Nat × Bool)->Option (Nat × Bool)->Bool
 | none,none=>true
 | some (j,b),some (t,b')=>b == b'&&(match ops[j]? with|some o=>o.dst == some t|none=>false)
 | _,_=>false
def rW (num:Nat->Nat) (N:Nat) (ops:Array Oper) (o:Oper) (a:AI):Bool :=
 o.dst == a.dst&&(match a.dst with|some d=>decide (d<N)|none=>true)&&nK ops o.guard a.guard&&BG P num o.op a.op
def dI (num:Nat->Nat) (N:Nat) (ops:Array Oper):List Oper->List AI->Bool
 | [],[]=>true
 | o::r,a::l=>rW P num N ops o a&&dI num N ops r l
 | _,_=>false
def G7:D8->Bool
 | .st .. | .app .. | .m7 .. | .y7 .. => true
 | _=>false
def nW:D8->Bool
 | .ld .. | .call .. | .bm .. => true
 | _=>false
def WM (a:D8):Bool:=G7 a||nW a||(EV a).isSome
def C4:AP->List Nat
 | .t n=>[n]
 | .c _=>[]
def zY:Option AP->List Nat
 | some x=>C4 x
 | none=>[]
def HS:D8->List Nat
 | .c6 x=>C4 x
 | .ff _ _=>[]
 | .pick c a b=>C4 c++C4 a++C4 b
 | .bin _ x y=>C4 x++C4 y
 | .beq _ x y=>C4 x++C4 y
 | .un _ x=>C4 x
 | .conv _ x=>C4 x
 | .box _ x=>C4 x
 | .alloc _ _=>[]
 | .build _ ps=>ps.flatMap (λ p=>C4 p.2.2)
 | .m4 _ _ ps=>ps.flatMap C4
 | .a7 x _=>C4 x
 | .ry x _ _ _=>C4 x
 | .b9 _ _ x i=>C4 x++C4 i
 | .ld _ _ x=>C4 x
 | .st _ x v=>C4 x++C4 v
 | .mk _ _ _ _ l c=>C4 l++C4 c
 | .ke _ x lo hi=>C4 x++zY lo++zY hi
 | .ext x _=>C4 x
 | .len x=>C4 x
 | .mm _ xs=>xs.flatMap C4
 | .app _ _ _ x y=>C4 x++C4 y
 | .call _ xs=>xs.flatMap C4
 | .m7 _ xs=>xs.flatMap C4
 | .xm _ x=>C4 x
 | .lu _ x=>C4 x
 | .um _ _ xs=>xs.flatMap C4
 | .wi _ x=>C4 x
 | .y7 x xs=>C4 x++xs.flatMap C4
 | .w9 _ xs=>xs.flatMap C4
 | .rm _ _ x v=>C4 x++C4 v
 | .bm _ _ xs=>xs.flatMap C4
 | .gj _ _ xs=>xs.flatMap C4
 | .wk _ _ x y=>C4 x++C4 y
 | .bad=>[]
 | .ju x=>C4 x
 | .ru _ _ _ x y=>C4 x++C4 y
def kB (x:AI):List Nat:=HS x.op++(match x.guard with|some (g,_)=>[g]|none=>[])++x.dst.toList
def J8 (b:Array Nat) (i j:Nat):Bool:=(b.getD (max i j) 0).testBit (min i j)
def Ae8 (b:Array Nat) (x:AI) (i:Nat) (y:AI) (j:Nat):Bool :=
 i == j||J8 b i j ||
  ((match y.dst with|some t => !(kB x).contains t|none=>true) &&
   (!G7 x.op || !WM y.op) &&
   (!nW x.op||(match EV y.op with|some s=>x.g9.contains s|none=>true)) )
def gL (ops:Array Oper) (l:List AI):Bool :=
 let b:=Region.before ops
 (l.zipIdx.all λ(x,i)=>l.zipIdx.all λ(y,j)=>Ae8 b x i y j&&(i == j||J8 b i j||(match EV x.op,EV y.op with|some s,some s'=>s != s'|_,_=>true))) &&
 (ops.toList.zipIdx.all λ(o,i)=>o.after.all λ e=>decide (e.on<i)||(match e.ground with | .gcOnly _=>true|_=>false)) &&
 (!Region.departs ops||(List.range ops.size).all (λ i=>(Region.linearise .gc ops 0).contains i))
def E4 (num:Nat->Nat) (N:Nat):Code->BJ->Bool
 | c,.dr a _ _=>E4 num N c a
 | c',.skip=>match c' with | .skip=>true | .label _=>true|_=>false
 | c',.scope a=>match c' with | .scope c=>E4 num N c a|_=>false
 | c',.ops l vd=>match c' with | .region _ ops draw=>draw == vd&&dI P num N ops ops.toList l&&(!draw||gL ops l)|_=>false
 | c',.seq a' b'=>match c' with | .seq a b=>E4 num N a a'&&E4 num N b b'|_=>false
 | c',.cond x' a' b'=>match c' with | .cond x a b=>B1 x x'&&E4 num N a a'&&E4 num N b b'|_=>false
 | c',.block i' a=>match c' with | .block i c=>i == i'&&E4 num N c a|_=>false
 | c',.loop a=>match c' with | .loop c=>E4 num N c a|_=>false
 | c',.exit i'=>match c' with | .exit i=>i == i'|_=>false
 | c',.ret=>match c' with | .ret=>true|_=>false
def Y7:List ResultVar->List O3->Bool
 | [],[]=>true
 | .tmp t::r,.tmp t'::l=>t == t'&&Y7 r l
 | .cell a t::r,.cell a' agg n::l=>a == a'&&jH P t == some agg&&(if agg then O2 P t n else n == 1)&&Y7 r l
 | _,_=>false
def okFn (num:Nat->Nat) (fn:Func) (a:AFn):Bool :=
 fn.params.size+fn.nfree == a.fo&&decide (a.fo<=fn.ntmps)&&Y7 P fn.results.toList a.res&&(match fn.body with|some c=>E4 P num fn.ntmps c a.body|none=>false)
end
end Go.e9

namespace Go.e9
open Go.RowKit
theorem H8 (b o n:Nat):(⟨b,o,none⟩:Addr).add n=⟨b,o+n,none⟩:=by
 unfold Addr.add;split<;>simp_all
inductive Rd (w:World) (R:Bool->Nat->Prop):AV->Value->Prop
 | int (k:IntKind) (n:Int):Rd w R (.int k n) (.int k n)
 | bool (b:Bool):Rd w R (.bool b) (.bool b)
 | str (s:ByteArray):Rd w R (.ib (.string s)) (.string s)
 | nm (l:Bool) (a:Option Addr) (cap:Nat):Rd w R (.sl l []) (.slice a 0 cap)
 | emp (b:Bool) (a:Option Addr) (cap:Nat) (h:a.isNone=b):Rd w R (.ib (.bool b)) (.slice a 0 cap)
 | sl (l:Bool) (es:List (List AV)) (b o c7 cap:Nat) (u:Nat->Nat->Value) (u7:es≠[]) (hp:0<c7) (hR:R l b) (fc:es.length<=cap) (hz : ∀ e∈es,e.length=c7)
   (hc : ∀ i e,es[i]? = some e -> ∀ j c,e[j]? = some c->w.cell? ⟨b,o+(i*c7+j),none⟩=some (u i j))
   (hr : ∀ i e,es[i]? = some e -> ∀ j c,e[j]? = some c->Rd w R c (u i j)) :
   Rd w R (.sl l es) (.slice (some ⟨b,o,none⟩) es.length cap)
theorem Rd.one {w:World} {R:Bool->Nat->Prop} {a:AV} {v:Value} (h:Rd w R a v):v.oneCell'=true:=by
 cases h<;>rfl
theorem gH {w:World} {a:Addr} {u:Value} (h:w.cell? a=some u):a.block<w.heap.size:=by
 unfold World.cell? at h;split at h
 ·rename_i hh
  exact (Array.getElem?_eq_some_iff.1 hh).1
 ·cases h
theorem mX {es:List (List AV)} {c7:Nat} (u7:es≠[]) (hp:0<c7) (hz : ∀ e∈es,e.length=c7) : ∃ e c,es[0]? = some e/\e[0]? = some c:=by
 cases es with
 | nil=>exact absurd rfl u7
 | cons e r =>
  have:=hz e (by simp)
  cases e with
  | nil=>simp at this;omega
  | cons c q=>exact ⟨c::q,c,rfl,rfl⟩
theorem Rd.mono {w w':World} {R R':Bool->Nat->Prop} (hR : ∀ l b,b<w.heap.size->R l b->R' l b)
  (hw : ∀ l b,b<w.heap.size->R l b->w'.heap[b]? = w.heap[b]?) {a:AV} {v:Value} (h:Rd w R a v):Rd w' R' a v:=by
 induction h with
 | int k n=>exact .int k n
 | bool b=>exact .bool b
 | str s=>exact .str s
 | nm l a cap=>exact .nm l a cap
 | emp b a cap h=>exact .emp b a cap h
 | sl l es b o c7 cap u u7 hp h1 fc hz hc hr ih =>
  obtain ⟨e,c,he,gx⟩:=mX u7 hp hz;have hb:b<w.heap.size:=gH (hc 0 e he 0 c gx);refine .sl l es b o c7 cap u u7 hp (hR l b hb h1) fc hz (λ i e he j c Bk => ?_) ih;rw[World.cell?_of_block (w:=w) (hw l b hb h1)];exact hc i e he j c Bk
structure M where
 ν:Nat->Nat->Option Nat
 own:AH
 w:World
section
variable (B:Nat) (S:Nat->Prop)
def safe (m:M) (l:Bool) (b:Nat):Prop :=
 (S b/\b<B)\/(B<=b /\ ∀ s t,(m.own.get s t).isSome=true->m.ν s t≠some b)\/(l=true/\b<B)
inductive CC (m:M):AV->Value->Prop
 | rd {a:AV} {v:Value} (h:Rd m.w (safe B S m) a v):CC m a v
 | nil:CC m .nil (.slice none 0 0)
 | row (s t z off len:Nat) (a:Option Addr) (cap:Nat) (ht:t<m.own.n6 s) (ja:0<z) (si:len<=cap) (ha:0<len->a.isSome=true)
   (h : ∀ b,m.own.get s t=some b->b.c7=z/\((len=0/\cap=0) \/ ∃ g arr e,m.ν s t=some g/\a=some ⟨g,off*z,none⟩/\m.w.heap[g]? = some (.cells arr e (0,0))/\(off+cap)*z<=arr.size)) :
   CC m (.row s t z off len) (.slice a len cap)
 | ptr (s t i j:Nat) (a:Addr) (ht:t<m.own.n6 s) (h : ∀ b,m.own.get s t=some b -> ∃ g,m.ν s t=some g/\a=⟨g,i*b.c7+j,none⟩):CC m (.ptr s t i j) (.pointer (some a))
 | bu (cs:List AV) (b o:Nat) (u:Nat->Value) (l:Bool) (hR:cs≠[]->safe B S m l b) (hc : ∀ j c,cs[j]? = some c->m.w.cell? ⟨b,o+j,none⟩=some (u j)) (hr : ∀ j c,cs[j]? = some c->Rd m.w (safe B S m) c (u j)) :
   CC m (.bu cs) (.pointer (some ⟨b,o,none⟩))
def CL (m:M) (cs:List AV) (vs:List Value):Prop:=cs.length=vs.length /\ ∀ (j:Nat) (c:AV) (v:Value),cs[j]? = some c->vs[j]? = some v->CC B S m c v
inductive CA (m:M):AV->Value->Prop
 | one {a:AV} {v:Value} (h:CC B S m a v):CA m a v
 | agg (cs:List AV) (vs:List Value) (h:CL B S m cs vs):CA m (.agg cs) (.agg vs.toArray)
 | fn (p:Bool) (f g:Nat) (cs:List AV) (vs:List Value) (hp:p=true->cs=[]) (h:CL B S m cs vs):CA m (.fn p f g cs) (.func (.func g) #[] vs.toArray)
 | xp (f g:Nat) (cs:List AV) (vs:List Value) (hp:cs≠[]) (h:CL B S m cs vs):CA m (.fn true f g cs) (.func (.func g) #[.agg vs.toArray] #[])
inductive CV (m:M):AV->Value->Prop
 | any (v:Value):CV m .any v
 | ca {a:AV} {v:Value} (h:CA B S m a v):CV m a v
 | m9 (as:List AV) (vs:List Value) (hl:as.length=vs.length) (h : ∀ (j:Nat) (c:AV) (v:Value),as[j]? = some c->vs[j]? = some v->CA B S m c v):CV m (.m9 as) (.tuple vs.toArray)
def Ahg (m:M) (s t:Nat) (b:ED):Prop :=
 (∀ e∈b.es,e.length=b.c7)/\match m.ν s t with
  | none=>b.es=[]
  | some g=>B<=g /\ ∃ arr e,m.w.heap[g]? = some (.cells arr e (0,0)) /\
    ∀ i cs,b.es[i]? = some cs -> ∀ j c,cs[j]? = some c -> ∃ u,arr[i*b.c7+j]? = some u/\CC B S m c u
structure BQ (w0:World) (m:M):Prop where
 below:Below B w0 m.w
 size:B<=m.w.heap.size
 fresh : ∀ s t,m.own.n6 s<=t->m.own.get s t=none
 m5 : ∀ s t b,m.own.get s t=some b->Ahg B S m s t b
 inj : ∀ s t s' t' b b' g,m.own.get s t=some b->m.own.get s' t'=some b'->m.ν s t=some g->m.ν s' t'=some g->s=s'/\t=t'
structure DQ (m m':M):Prop where
 size:m.w.heap.size<=m'.w.heap.size
 Aa : ∀ b,b<m.w.heap.size->safe B S m true b->m'.w.heap[b]? = m.w.heap[b]?
 Dv : ∀ l b,b<m.w.heap.size->safe B S m l b->safe B S m' l b
 n6 : ∀ s,m.own.n6 s<=m'.own.n6 s
 name : ∀ s t b',t<m.own.n6 s->m'.own.get s t=some b' -> ∃ b,m.own.get s t=some b/\b'.c7=b.c7/\m'.ν s t=m.ν s t /\
   ∀ g arr e,m.ν s t=some g->m.w.heap[g]? = some (.cells arr e (0,0)) -> ∃ cj,m'.w.heap[g]? = some (.cells cj e (0,0))/\cj.size=arr.size
end
section
variable {B:Nat} {S:Nat->Prop}
theorem Oh {m:M} {l:Bool} {b:Nat} (h:safe B S m l b):safe B S m true b:=by
 rcases h with h|h|⟨_,h⟩
 ·exact .inl h
 ·exact .inr (.inl h)
 ·exact .inr (.inr ⟨rfl,h⟩)
theorem DQ.rd {m m':M} (h:DQ B S m m') {a:AV} {v:Value} (hr:Rd m.w (safe B S m) a v):Rd m'.w (safe B S m') a v :=
 hr.mono h.Dv (λ_ b hb hs=>h.Aa b hb (Oh hs))
theorem DQ.cc {m m':M} (h:DQ B S m m') {a:AV} {v:Value} (hc:CC B S m a v):CC B S m' a v:=by
 cases hc with
 | rd hr=>exact .rd (h.rd hr)
 | nil=>exact .nil
 | row s t z off len a cap ht ja si ha hb =>
  refine .row s t z off len a cap (Nat.lt_of_lt_of_le ht (h.n6 s)) ja si ha λ b' s9 => ?_
  obtain ⟨b,h1,h2,h3,h4⟩:=h.name s t b' ht s9;obtain ⟨hz,fx⟩:=hb b h1;refine ⟨h2.trans hz,?_⟩;rcases fx with h0|⟨g,arr,e,hg,pe,hh,hle⟩
  ·exact .inl h0
  ·obtain ⟨cj,Ql,ud⟩:=h4 g arr e hg hh
   exact .inr ⟨g,cj,e,h3.trans hg,pe,Ql,ud ▸ hle⟩
 | ptr s t i j a ht hb =>
  refine .ptr s t i j a (Nat.lt_of_lt_of_le ht (h.n6 s)) λ b' s9 => ?_
  obtain ⟨b,h1,h2,h3,_⟩:=h.name s t b' ht s9;obtain ⟨g,hg,pe⟩:=hb b h1;exact ⟨g,h3.trans hg,h2 ▸ pe⟩
 | bu cs b o u l hR hc hr =>
  have v9:cs≠[]->b<m.w.heap.size:=λ u7=>by
   cases cs with
   | nil=>exact absurd rfl u7
   | cons c r=>exact gH (hc 0 c rfl)
  refine .bu cs b o u l (λ u7=>h.Dv l b (v9 u7) (hR u7)) (λ j c hj => ?_) (λ j c hj=>h.rd (hr j c hj));have u7:cs≠[]:=λ e=>by subst e;simp at hj
  rw[World.cell?_of_block (w:=m.w) (h.Aa b (v9 u7) (Oh (hR u7)))];exact hc j c hj
theorem DQ.cl {m m':M} (h:DQ B S m m') {cs:List AV} {vs:List Value} (hc:CL B S m cs vs):CL B S m' cs vs :=
 ⟨hc.1,λ j c v h1 h2=>h.cc (hc.2 j c v h1 h2)⟩
theorem DQ.ca {m m':M} (h:DQ B S m m') {a:AV} {v:Value} (hc:CA B S m a v):CA B S m' a v:=by
 cases hc with
 | one hc=>exact .one (h.cc hc)
 | agg cs vs hc=>exact .agg cs vs (h.cl hc)
 | fn p f g cs vs hp hc=>exact .fn p f g cs vs hp (h.cl hc)
 | xp f g cs vs hp hc=>exact .xp f g cs vs hp (h.cl hc)
theorem DQ.cv {m m':M} (h:DQ B S m m') {a:AV} {v:Value} (hc:CV B S m a v):CV B S m' a v:=by
 cases hc with
 | any v=>exact .any v
 | ca hc=>exact .ca (h.ca hc)
 | m9 as vs hl hc=>exact .m9 as vs hl λ j c v h1 h2=>h.ca (hc j c v h1 h2)
theorem DQ.refl (m:M):DQ B S m m :=
 ⟨Nat.le_refl _,λ_ _ _=>rfl,λ_ _ _ h=>h,λ_=>Nat.le_refl _,λ_ _ b' _ h=>⟨b',h,rfl,rfl,λ_ arr _ _ h=>⟨arr,h,rfl⟩⟩⟩
theorem DQ.trans {m m' m'':M} (h:DQ B S m m') (k:DQ B S m' m''):DQ B S m m'' where
 size:=Nat.le_trans h.size k.size
 Aa b hb hs:=(k.Aa b (Nat.lt_of_lt_of_le hb h.size) (h.Dv true b hb hs)).trans (h.Aa b hb hs)
 Dv l b hb hs:=k.Dv l b (Nat.lt_of_lt_of_le hb h.size) (h.Dv l b hb hs)
 n6 s:=Nat.le_trans (h.n6 s) (k.n6 s)
 name s t b'' ht Qs:=by
  obtain ⟨b',h1,h2,h3,h4⟩:=k.name s t b'' (Nat.lt_of_lt_of_le ht (h.n6 s)) Qs;obtain ⟨b,g1,g2,g3,g4⟩:=h.name s t b' ht h1;refine ⟨b,g1,h2.trans g2,h3.trans g3,λ g arr e hg ha => ?_⟩;obtain ⟨cj,Ql,ud⟩:=g4 g arr e hg ha;obtain ⟨Hi,Qm,Sv⟩:=h4 g cj e (g3.trans hg) Ql;exact ⟨Hi,Qm,Sv.trans ud⟩
theorem CC.one {m:M} {a:AV} {v:Value} (h:CC B S m a v):v.oneCell'=true:=by
 cases h with
 | rd h=>exact h.one
 | _=>rfl
end
end Go.e9

namespace Go.e9
open Go.RowKit
section
variable {B:Nat} {S:Nat->Prop} {w0:World}
def live (m:M) (s t:Nat):Prop := ∃ b,m.own.get s t=some b
theorem BQ.ge {m:M} (h:BQ B S w0 m) {s t g:Nat} (hl:live m s t) (hg:m.ν s t=some g):B<=g /\ ∃ arr e,m.w.heap[g]? = some (.cells arr e (0,0)):=by
 obtain ⟨b,hb⟩:=hl;obtain ⟨_,h2⟩:=h.m5 s t b hb;rw[hg]at h2;obtain ⟨h3,arr,e,h4,_⟩:=h2;exact ⟨h3,arr,e,h4⟩
theorem gT {m m':M} (hm:BQ B S w0 m) (hs:m.w.heap.size<=m'.w.heap.size)
  (hk : ∀ b,b<m.w.heap.size->(∀ s t,live m s t->m.ν s t≠some b)->m'.w.heap[b]? = m.w.heap[b]?) (Es : ∀ s,m.own.n6 s<=m'.own.n6 s)
  (Je : ∀ s t b',t<m.own.n6 s->m'.own.get s t=some b' -> ∃ b,m.own.get s t=some b/\b'.c7=b.c7/\m'.ν s t=m.ν s t /\
   ∀ g arr e,m.ν s t=some g->m.w.heap[g]? = some (.cells arr e (0,0)) -> ∃ cj,m'.w.heap[g]? = some (.cells cj e (0,0))/\cj.size=arr.size)
  (pn : ∀ s t g,live m' s t->m'.ν s t=some g->g<m.w.heap.size -> ∃ s0 t0,live m s0 t0/\m.ν s0 t0=some g):DQ B S m m':=by
 have Gr : ∀ b,safe B S m true b -> ∀ s t,live m s t->m.ν s t≠some b:=by
  intro b hb s t hl hg;have qt:=(hm.ge hl hg).1;rcases hb with ⟨_,h⟩|⟨_,h⟩|⟨_,h⟩
  ·omega
  ·obtain ⟨b',s9⟩:=hl
   exact h s t (by simp [s9]) hg
  ·omega
 refine ⟨hs,λ b hb zm=>hk b hb (Gr b zm),λ l b hb zm => ?_,Es,Je⟩;rcases zm with h|⟨h,hn⟩|h
 ·exact .inl h
 ·refine .inr (.inl ⟨h,λ s t hl hg => ?_⟩)
  obtain ⟨b',s9⟩:=Option.isSome_iff_exists.1 hl;obtain ⟨s0,t0,⟨b0,Gj⟩,Fa⟩:=pn s t b ⟨b',s9⟩ hg hb;exact hn s0 t0 (by simp [Gj]) Fa
 ·exact .inr (.inr h)
theorem grow {m:M} (hm:BQ B S w0 m) {w':World} (hb:Below m.w.heap.size m.w w') :
  BQ B S w0 ⟨m.ν,m.own,w'⟩/\DQ B S m ⟨m.ν,m.own,w'⟩:=by
 have he:DQ B S m ⟨m.ν,m.own,w'⟩:=by
  refine gT hm hb.size (λ b s9 _=>hb.block b s9) (λ_=>Nat.le_refl _) (λ s t b' _ s9=>⟨b',s9,rfl,rfl,λ g arr e hg ha=>⟨arr,?_,rfl⟩⟩) (λ s t g hl hg _=>⟨s,t,hl,hg⟩);have:g<m.w.heap.size:=(Array.getElem?_eq_some_iff.1 ha).1
  exact (hb.block g this).trans ha
 refine ⟨⟨hm.below.trans (hb.mono hm.size),Nat.le_trans hm.size hb.size,hm.fresh,λ s t b hg => ?_,hm.inj⟩,he⟩;obtain ⟨h1,h2⟩:=hm.m5 s t b hg;refine ⟨h1,?_⟩;show match m.ν s t with|none=>_|some g=>_
 cases hν:m.ν s t with
 | none=>rw[hν]at h2;exact h2
 | some g =>
  rw[hν]at h2;obtain ⟨h3,arr,e,h4,h5⟩:=h2;refine ⟨h3,arr,e,?_,λ i cs hi j c hj => ?_⟩
  ·exact (hb.block g (Array.getElem?_eq_some_iff.1 h4).1).trans h4
  ·obtain ⟨u,hu,bq⟩:=h5 i cs hi j c hj
   exact ⟨u,hu,he.cc bq⟩
theorem GJ (o:AH) (s s' t':Nat) (b:ED):(o.put s ((o s).new b)).get s' t'=if s'=s/\t'=o.n6 s then some b else o.get s' t':=by
 unfold AH.get AH.put CH.new AH.n6;by_cases h:s'=s
 ·subst h
  by_cases h2:t'=(o s').n6<;>simp [h2]
 ·simp [h]
theorem XN (o:AH) (s s':Nat) (b:ED):(o.put s ((o s).new b)).n6 s'=if s'=s then o.n6 s+1 else o.n6 s':=by
 unfold AH.n6 AH.put CH.new;by_cases h:s'=s<;>simp [h]
theorem nB (o:AH) (s t s' t':Nat) (b:Option ED):(o.put s ((o s).bg t b)).get s' t'=if s'=s/\t'=t then b else o.get s' t':=by
 unfold AH.get AH.put CH.bg;by_cases h:s'=s
 ·subst h
  by_cases h2:t'=t<;>simp [h2]
 ·simp [h]
theorem Vj (o:AH) (s t s':Nat) (b:Option ED):(o.put s ((o s).bg t b)).n6 s'=o.n6 s':=by
 unfold AH.n6 AH.put CH.bg;by_cases h:s'=s<;>simp [h]
def n8 (m:M) (s:Nat) (g:Option Nat):Nat->Nat->Option Nat:=λ s' t'=>if s'=s/\t'=m.own.n6 s then g else m.ν s' t'
theorem rT {m:M} (hm:BQ B S w0 m) (s:Nat) : ¬ live m s (m.own.n6 s):=λ⟨b,hb⟩=>by
 rw[hm.fresh s _ (Nat.le_refl _)]at hb;cases hb
theorem pQ {m:M} (hm:BQ B S w0 m) (s:Nat) (b:ED) (arr:Array Value) (e:TypeId) (hz : ∀ x∈b.es,x.length=b.c7)
  (hc : ∀ i cs,b.es[i]? = some cs -> ∀ j c,cs[j]? = some c -> ∃ u,arr[i*b.c7+j]? = some u/\CC B S m c u) :
  BQ B S w0 ⟨n8 m s (some m.w.heap.size),m.own.put s ((m.own s).new b),m.w.alloc (.cells arr e)⟩ /\
  DQ B S m ⟨n8 m s (some m.w.heap.size),m.own.put s ((m.own s).new b),m.w.alloc (.cells arr e)⟩:=by
 have da:(m.w.alloc (.cells arr e)).heap.size=m.w.heap.size+1:=by simp
 have hν : ∀ s' t',live m s' t'->n8 m s (some m.w.heap.size) s' t'=m.ν s' t':=λ s' t' hl=>by
  unfold n8;rw[if_neg];rintro ⟨rfl,rfl⟩
  exact rT hm _ hl
 have he:DQ B S m ⟨n8 m s (some m.w.heap.size),m.own.put s ((m.own s).new b),m.w.alloc (.cells arr e)⟩:=by
  refine gT hm (by rw[da];omega) (λ k hk _=>Below.heap_alloc _ _ _ hk) (λ s' => ?_) (λ s' t' b' ht s9 => ?_) (λ s' t' g hl hg v9 => ?_)
  ·rw[XN];split
   ·rename_i h;subst h;omega
   ·exact Nat.le_refl _
  ·rw[GJ]at s9
   rw[if_neg (by rintro ⟨rfl,rfl⟩;omega)]at s9;refine ⟨b',s9,rfl,hν s' t' ⟨b',s9⟩,λ g ar e' hg ha=>⟨ar,?_,rfl⟩⟩;exact (Below.heap_alloc _ _ _ (Array.getElem?_eq_some_iff.1 ha).1).trans ha
  ·obtain ⟨b',s9⟩:=hl
   have bn:=s9;rw[GJ]at s9;by_cases h:s'=s/\t'=m.own.n6 s
   ·simp only[n8,if_pos h,Option.some.injEq]at hg
    omega
   ·rw[if_neg h]at s9
    exact ⟨s',t',⟨b',s9⟩,by rw[<-hν s' t' ⟨b',s9⟩];exact hg⟩
 refine ⟨⟨hm.below.alloc hm.size _,by rw[da];have:=hm.size;omega,λ s' t' ht => ?_,λ s' t' b' s9 => ?_,λ s1 t1 s2 t2 b1 b2 g h1 h2 g1 g2 => ?_⟩,he⟩
 ·rw[XN]at ht
  rw[GJ,if_neg]
  ·refine hm.fresh s' t' ?_
   split at ht
   ·rename_i h;subst h;omega
   ·exact ht
  ·rintro ⟨rfl,rfl⟩
   simp at ht;omega
 ·rw[GJ]at s9
  by_cases h:s'=s/\t'=m.own.n6 s
  ·rw[if_pos h]at s9
   obtain rfl:b=b':=by simpa using s9
   refine ⟨hz,?_⟩;show match n8 m s (some m.w.heap.size) s' t' with|none=>_|some g=>_
   rw[show n8 m s (some m.w.heap.size) s' t'=some m.w.heap.size by simp [n8,h]];refine ⟨hm.size,arr,e,heap_alloc_new _ _,λ i cs hi j c hj => ?_⟩;obtain ⟨u,hu,bq⟩:=hc i cs hi j c hj;exact ⟨u,hu,he.cc bq⟩
  ·rw[if_neg h]at s9
   obtain ⟨h1,h2⟩:=hm.m5 s' t' b' s9;refine ⟨h1,?_⟩;show match n8 m s (some m.w.heap.size) s' t' with|none=>_|some g=>_
   rw[hν s' t' ⟨b',s9⟩];cases hv:m.ν s' t' with
   | none=>rw[hv]at h2;exact h2
   | some g =>
    rw[hv]at h2;obtain ⟨h3,ar,e',h4,h5⟩:=h2;refine ⟨h3,ar,e',(Below.heap_alloc _ _ _ (Array.getElem?_eq_some_iff.1 h4).1).trans h4,λ i cs hi j c hj => ?_⟩;obtain ⟨u,hu,bq⟩:=h5 i cs hi j c hj;exact ⟨u,hu,he.cc bq⟩
 ·rw[GJ]at h1 h2
  have lt : ∀ s' t' b',m.own.get s' t'=some b'->n8 m s (some m.w.heap.size) s' t'=some g->g<m.w.heap.size:=λ s' t' b' hb hg=>by
   rw[hν s' t' ⟨b',hb⟩]at hg;obtain ⟨_,ar,e',h4⟩:=hm.ge ⟨b',hb⟩ hg;exact (Array.getElem?_eq_some_iff.1 h4).1
  have at_ : ∀ s' t',s'=s/\t'=m.own.n6 s->n8 m s (some m.w.heap.size) s' t'=some g->g=m.w.heap.size:=λ s' t' h hg=>by
   simp only[n8,if_pos h,Option.some.injEq]at hg;exact hg.symm
  by_cases p1:s1=s/\t1=m.own.n6 s<;>by_cases p2:s2=s/\t2=m.own.n6 s
  ·exact ⟨p1.1.trans p2.1.symm,p1.2.trans p2.2.symm⟩
  ·rw[if_neg p2]at h2
   have:=lt s2 t2 b2 h2 g2
   have:=at_ s1 t1 p1 g1
   omega
  ·rw[if_neg p1]at h1
   have:=lt s1 t1 b1 h1 g1
   have:=at_ s2 t2 p2 g2
   omega
  ·rw[if_neg p1]at h1
   rw[if_neg p2]at h2;exact hm.inj s1 t1 s2 t2 b1 b2 g h1 h2 (by rw[<-hν s1 t1 ⟨b1,h1⟩];exact g1) (by rw[<-hν s2 t2 ⟨b2,h2⟩];exact g2)
theorem AgD {m:M} (hm:BQ B S w0 m) (s c7:Nat) :
  BQ B S w0 ⟨n8 m s none,m.own.put s ((m.own s).new ⟨c7,[]⟩),m.w⟩/\DQ B S m ⟨n8 m s none,m.own.put s ((m.own s).new ⟨c7,[]⟩),m.w⟩:=by
 have hν : ∀ s' t',live m s' t'->n8 m s none s' t'=m.ν s' t':=λ s' t' hl=>by
  unfold n8;rw[if_neg];rintro ⟨rfl,rfl⟩
  exact rT hm _ hl
 have he:DQ B S m ⟨n8 m s none,m.own.put s ((m.own s).new ⟨c7,[]⟩),m.w⟩:=by
  refine gT hm (Nat.le_refl _) (λ k hk _=>rfl) (λ s' => ?_) (λ s' t' b' ht s9 => ?_) (λ s' t' g hl hg v9 => ?_)
  ·rw[XN];split
   ·rename_i h;subst h;omega
   ·exact Nat.le_refl _
  ·rw[GJ]at s9
   rw[if_neg (by rintro ⟨rfl,rfl⟩;omega)]at s9;exact ⟨b',s9,rfl,hν s' t' ⟨b',s9⟩,λ g ar e' hg ha=>⟨ar,ha,rfl⟩⟩
  ·obtain ⟨b',s9⟩:=hl
   rw[GJ]at s9;by_cases h:s'=s/\t'=m.own.n6 s
   ·simp [n8,if_pos h]at hg
   ·rw[if_neg h]at s9
    exact ⟨s',t',⟨b',s9⟩,by rw[<-hν s' t' ⟨b',s9⟩];exact hg⟩
 refine ⟨⟨hm.below,hm.size,λ s' t' ht => ?_,λ s' t' b' s9 => ?_,λ s1 t1 s2 t2 b1 b2 g h1 h2 g1 g2 => ?_⟩,he⟩
 ·rw[XN]at ht
  rw[GJ,if_neg]
  ·refine hm.fresh s' t' ?_
   split at ht
   ·rename_i h;subst h;omega
   ·exact ht
  ·rintro ⟨rfl,rfl⟩
   simp at ht;omega
 ·rw[GJ]at s9
  by_cases h:s'=s/\t'=m.own.n6 s
  ·rw[if_pos h]at s9
   obtain rfl:(⟨c7,[]⟩:ED)=b':=by simpa using s9
   refine ⟨by simp,?_⟩;show match n8 m s none s' t' with|none=>_|some g=>_
   rw[show n8 m s none s' t'=none by simp [n8,h]]
  ·rw[if_neg h]at s9
   obtain ⟨h1,h2⟩:=hm.m5 s' t' b' s9;refine ⟨h1,?_⟩;show match n8 m s none s' t' with|none=>_|some g=>_
   rw[hν s' t' ⟨b',s9⟩];cases hv:m.ν s' t' with
   | none=>rw[hv]at h2;exact h2
   | some g =>
    rw[hv]at h2;obtain ⟨h3,ar,e',h4,h5⟩:=h2;refine ⟨h3,ar,e',h4,λ i cs hi j c hj => ?_⟩;obtain ⟨u,hu,bq⟩:=h5 i cs hi j c hj;exact ⟨u,hu,he.cc bq⟩
 ·rw[GJ]at h1 h2
  by_cases p1:s1=s/\t1=m.own.n6 s
  ·simp [n8,if_pos p1]at g1
  ·by_cases p2:s2=s/\t2=m.own.n6 s
   ·simp [n8,if_pos p2]at g2
   ·rw[if_neg p1]at h1
    rw[if_neg p2]at h2;exact hm.inj s1 t1 s2 t2 b1 b2 g h1 h2 (by rw[<-hν s1 t1 ⟨b1,h1⟩];exact g1) (by rw[<-hν s2 t2 ⟨b2,h2⟩];exact g2)
theorem AqA {m:M} (hm:BQ B S w0 m) (s t:Nat) (b b':ED) (hb:m.own.get s t=some b) (g:Nat) (hg:m.ν s t=some g) (arr cj:Array Value) (e:TypeId)
  (ha:m.w.heap[g]? = some (.cells arr e (0,0))) (hz':b'.c7=b.c7) (hz : ∀ x∈b'.es,x.length=b'.c7) (da:cj.size=arr.size)
  (hc : ∀ i cs,b'.es[i]? = some cs -> ∀ j c,cs[j]? = some c -> ∃ u,cj[i*b'.c7+j]? = some u/\CC B S m c u) (w':World) (nc:Below B w0 w') (Dh:w'.heap.size=m.w.heap.size)
  (hk : ∀ k,k≠g->w'.heap[k]? = m.w.heap[k]?) (hgw:w'.heap[g]? = some (.cells cj e (0,0))) :
  BQ B S w0 ⟨m.ν,m.own.put s ((m.own s).bg t (some b')),w'⟩/\DQ B S m ⟨m.ν,m.own.put s ((m.own s).bg t (some b')),w'⟩:=by
 have v9:t<m.own.n6 s:=by
  rcases Nat.lt_or_ge t (m.own.n6 s) with h|h
  ·exact h
  ·rw[hm.fresh s t h]at hb;cases hb
 have he:DQ B S m ⟨m.ν,m.own.put s ((m.own s).bg t (some b')),w'⟩:=by
  refine gT hm (by rw[Dh];exact Nat.le_refl _) (λ k ml hn=>hk k (λ e=>hn s t ⟨b,hb⟩ (e ▸ hg))) (λ s'=>by rw[Vj];exact Nat.le_refl _) (λ s' t' b2 ht bn => ?_) (λ s' t' g' hl js _ => ?_)
  ·rw[nB]at bn
   by_cases h:s'=s/\t'=t
   ·obtain ⟨rfl,rfl⟩:=h
    rw[if_pos ⟨rfl,rfl⟩]at bn;obtain rfl:b'=b2:=by simpa using bn
    refine ⟨b,hb,hz',rfl,λ g2 ar e' oh Bg => ?_⟩;obtain rfl:g=g2:=by rw[hg]at oh;simpa using oh
    rw[ha]at Bg;obtain ⟨rfl,rfl⟩:arr=ar/\e=e':=by simpa using Bg
    exact ⟨cj,hgw,da⟩
   ·rw[if_neg h]at bn
    refine ⟨b2,bn,rfl,rfl,λ g2 ar e' oh Bg=>⟨ar,?_,rfl⟩⟩;rw[<-Bg];exact hk g2 (λ e2=>h (by
     subst e2;exact hm.inj s' t' s t b2 b g2 bn hb oh hg))
  ·obtain ⟨b2,bn⟩:=hl
   rw[nB]at bn;by_cases h:s'=s/\t'=t
   ·obtain ⟨rfl,rfl⟩:=h
    exact ⟨s',t',⟨b,hb⟩,js⟩
   ·rw[if_neg h]at bn
    exact ⟨s',t',⟨b2,bn⟩,js⟩
 refine ⟨⟨nc,by rw[Dh];exact hm.size,λ s' t' ht => ?_,λ s' t' b2 bn => ?_,λ s1 t1 s2 t2 b1 b2 g1 h1 h2 e1 e2 => ?_⟩,he⟩
 ·rw[Vj]at ht
  rw[nB,if_neg (by rintro ⟨rfl,rfl⟩;omega)];exact hm.fresh s' t' ht
 ·rw[nB]at bn
  by_cases h:s'=s/\t'=t
  ·obtain ⟨rfl,rfl⟩:=h
   rw[if_pos ⟨rfl,rfl⟩]at bn;obtain rfl:b'=b2:=by simpa using bn
   refine ⟨hz,?_⟩;show match m.ν s' t' with|none=>_|some g=>_
   rw[hg];refine ⟨(hm.ge ⟨b,hb⟩ hg).1,cj,e,hgw,λ i cs hi j c hj => ?_⟩;obtain ⟨u,hu,bq⟩:=hc i cs hi j c hj;exact ⟨u,hu,he.cc bq⟩
  ·rw[if_neg h]at bn
   obtain ⟨h1,h2⟩:=hm.m5 s' t' b2 bn;refine ⟨h1,?_⟩;show match m.ν s' t' with|none=>_|some g=>_
   cases hv:m.ν s' t' with
   | none=>rw[hv]at h2;exact h2
   | some g2 =>
    rw[hv]at h2;obtain ⟨h3,ar,e',h4,h5⟩:=h2;refine ⟨h3,ar,e',?_,λ i cs hi j c hj => ?_⟩
    ·rw[<-h4]
     exact hk g2 (λ e2=>h (by
      subst e2;exact hm.inj s' t' s t b2 b g2 bn hb hv hg))
    ·obtain ⟨u,hu,bq⟩:=h5 i cs hi j c hj
     exact ⟨u,hu,he.cc bq⟩
 ·have old : ∀ s' t' b2,(m.own.put s ((m.own s).bg t (some b'))).get s' t'=some b2 -> ∃ b3,m.own.get s' t'=some b3:=λ s' t' b2 h=>by
   rw[nB]at h;by_cases h':s'=s/\t'=t
   ·obtain ⟨rfl,rfl⟩:=h';exact ⟨b,hb⟩
   ·rw[if_neg h']at h;exact ⟨b2,h⟩
  obtain ⟨c1,k1⟩:=old s1 t1 b1 h1;obtain ⟨c2,k2⟩:=old s2 t2 b2 h2;exact hm.inj s1 t1 s2 t2 c1 c2 g1 k1 k2 e1 e2
theorem gZ (o:AH) (s t s' t':Nat) (b:ED):(o.put s (((o s).bg t none).new b)).get s' t'=if s'=s/\t'=o.n6 s then some b else if s'=s/\t'=t then none else o.get s' t':=by
 unfold AH.get AH.put CH.new CH.bg AH.n6;by_cases h:s'=s
 ·subst h
  by_cases h2:t'=(o s').n6<;>by_cases h3:t'=t<;>simp [h2,h3]
 ·simp [h]
theorem qG (o:AH) (s t s':Nat) (b:ED):(o.put s (((o s).bg t none).new b)).n6 s'=if s'=s then o.n6 s+1 else o.n6 s':=by
 unfold AH.n6 AH.put CH.new CH.bg;by_cases h:s'=s<;>simp [h]
theorem zI {m:M} (hm:BQ B S w0 m) (s t:Nat) (b b':ED) (hb:m.own.get s t=some b) (jg:Option Nat) (w':World) (nc:Below B w0 w') (da:m.w.heap.size<=w'.heap.size)
  (hk : ∀ k,k<m.w.heap.size->m.ν s t≠some k->w'.heap[k]? = m.w.heap[k]?) (hz : ∀ x∈b'.es,x.length=b'.c7)
  (nj:jg=none->b'.es=[])
  (zo : ∀ g,jg=some g->B<=g/\(m.w.heap.size<=g\/m.ν s t=some g) /\ ∃ arr e,w'.heap[g]? = some (.cells arr e (0,0)) /\
   ∀ i cs,b'.es[i]? = some cs -> ∀ j c,cs[j]? = some c -> ∃ u,arr[i*b'.c7+j]? = some u/\CC B S m c u) :
  BQ B S w0 ⟨n8 m s jg,m.own.put s (((m.own s).bg t none).new b'),w'⟩/\DQ B S m ⟨n8 m s jg,m.own.put s (((m.own s).bg t none).new b'),w'⟩:=by
 have v9:t<m.own.n6 s:=by
  rcases Nat.lt_or_ge t (m.own.n6 s) with h|h
  ·exact h
  ·rw[hm.fresh s t h]at hb;cases hb
 have hν : ∀ s' t',live m s' t'->n8 m s jg s' t'=m.ν s' t':=λ s' t' hl=>by
  unfold n8;rw[if_neg];rintro ⟨rfl,rfl⟩
  exact rT hm _ hl
 have he:DQ B S m ⟨n8 m s jg,m.own.put s (((m.own s).bg t none).new b'),w'⟩:=by
  refine gT hm da (λ k ml hn=>hk k ml (hn s t ⟨b,hb⟩)) (λ s' => ?_) (λ s' t' b2 ht bn => ?_) (λ s' t' g' hl js yy => ?_)
  ·rw[qG];split
   ·rename_i h;subst h;omega
   ·exact Nat.le_refl _
  ·rw[gZ]at bn
   rw[if_neg (by rintro ⟨rfl,rfl⟩;omega)]at bn;by_cases h:s'=s/\t'=t
   ·rw[if_pos h]at bn;cases bn
   ·rw[if_neg h]at bn
    refine ⟨b2,bn,rfl,hν s' t' ⟨b2,bn⟩,λ g2 ar e' oh Bg=>⟨ar,?_,rfl⟩⟩;rw[<-Bg];exact hk g2 (Array.getElem?_eq_some_iff.1 Bg).1 (λ e2=>h (hm.inj s' t' s t b2 b g2 bn hb oh e2))
  ·obtain ⟨b2,bn⟩:=hl
   rw[gZ]at bn;by_cases h0:s'=s/\t'=m.own.n6 s
   ·simp only[n8,if_pos h0]at js
    obtain ⟨_,h2,_⟩:=zo g' js;rcases h2 with h2|h2
    ·omega
    ·exact ⟨s,t,⟨b,hb⟩,h2⟩
   ·rw[if_neg h0]at bn
    by_cases h:s'=s/\t'=t
    ·rw[if_pos h]at bn;cases bn
    ·rw[if_neg h]at bn
     exact ⟨s',t',⟨b2,bn⟩,by rw[<-hν s' t' ⟨b2,bn⟩];exact js⟩
 refine ⟨⟨nc,Nat.le_trans hm.size da,λ s' t' ht => ?_,λ s' t' b2 bn => ?_,λ s1 t1 s2 t2 b1 b2 g1 h1 h2 e1 e2 => ?_⟩,he⟩
 ·rw[qG]at ht
  have tc:m.own.n6 s'<=t' /\ ¬ (s'=s/\t'=m.own.n6 s):=by
   by_cases h:s'=s
   ·subst h
    simp at ht;exact ⟨by omega,by omega⟩
   ·simp [h]at ht
    exact ⟨ht,λ h'=>h h'.1⟩
  rw[gZ,if_neg tc.2];split
  ·rfl
  ·exact hm.fresh s' t' tc.1
 ·rw[gZ]at bn
  by_cases h0:s'=s/\t'=m.own.n6 s
  ·rw[if_pos h0]at bn
   obtain rfl:b'=b2:=by simpa using bn
   refine ⟨hz,?_⟩;show match n8 m s jg s' t' with|none=>_|some g=>_
   rw[show n8 m s jg s' t'=jg by simp [n8,h0]];cases jg with
   | none=>exact nj rfl
   | some g =>
    obtain ⟨h1,_,arr,e,h4,h5⟩:=zo g rfl;refine ⟨h1,arr,e,h4,λ i cs hi j c hj => ?_⟩;obtain ⟨u,hu,bq⟩:=h5 i cs hi j c hj;exact ⟨u,hu,he.cc bq⟩
  ·rw[if_neg h0]at bn
   by_cases h:s'=s/\t'=t
   ·rw[if_pos h]at bn;cases bn
   ·rw[if_neg h]at bn
    obtain ⟨h1,h2⟩:=hm.m5 s' t' b2 bn;refine ⟨h1,?_⟩;show match n8 m s jg s' t' with|none=>_|some g=>_
    rw[hν s' t' ⟨b2,bn⟩];cases hv:m.ν s' t' with
    | none=>rw[hv]at h2;exact h2
    | some g2 =>
     rw[hv]at h2;obtain ⟨h3,ar,e',h4,h5⟩:=h2;refine ⟨h3,ar,e',?_,λ i cs hi j c hj => ?_⟩
     ·rw[<-h4]
      exact hk g2 (Array.getElem?_eq_some_iff.1 h4).1 (λ e2=>h (hm.inj s' t' s t b2 b g2 bn hb hv e2))
     ·obtain ⟨u,hu,bq⟩:=h5 i cs hi j c hj
      exact ⟨u,hu,he.cc bq⟩
 ·rw[gZ]at h1 h2
  have old : ∀ s' t' b2,(if s'=s/\t'=t then none else m.own.get s' t')=some b2->m.own.get s' t'=some b2 /\ ¬ (s'=s/\t'=t):=λ s' t' b2 h=>by
   by_cases h':s'=s/\t'=t
   ·rw[if_pos h']at h;cases h
   ·rw[if_neg h']at h;exact ⟨h,h'⟩
  have qj : ∀ s' t' b2,m.own.get s' t'=some b2 -> ¬ (s'=s/\t'=t)->n8 m s jg s' t'=some g1->jg=some g1->False:=λ s' t' b2 bn u7 e1 e2=>by
   rw[hν s' t' ⟨b2,bn⟩]at e1;obtain ⟨_,h2,_⟩:=zo g1 e2;obtain ⟨_,ar,e',h4⟩:=hm.ge ⟨b2,bn⟩ e1;have:=(Array.getElem?_eq_some_iff.1 h4).1
   rcases h2 with h2|h2
   ·omega
   ·exact u7 (hm.inj s' t' s t b2 b g1 bn hb e1 h2)
  have at_ : ∀ s' t',s'=s/\t'=m.own.n6 s->n8 m s jg s' t'=some g1->jg=some g1:=λ s' t' h hg=>by simpa [n8,if_pos h] using hg
  by_cases p1:s1=s/\t1=m.own.n6 s<;>by_cases p2:s2=s/\t2=m.own.n6 s
  ·exact ⟨p1.1.trans p2.1.symm,p1.2.trans p2.2.symm⟩
  ·rw[if_neg p2]at h2
   obtain ⟨k2,n2⟩:=old s2 t2 b2 h2;exact (qj s2 t2 b2 k2 n2 e2 (at_ s1 t1 p1 e1)).elim
  ·rw[if_neg p1]at h1
   obtain ⟨k1,n1⟩:=old s1 t1 b1 h1;exact (qj s1 t1 b1 k1 n1 e1 (at_ s2 t2 p2 e2)).elim
  ·rw[if_neg p1]at h1
   rw[if_neg p2]at h2;obtain ⟨k1,n1⟩:=old s1 t1 b1 h1;obtain ⟨k2,n2⟩:=old s2 t2 b2 h2;exact hm.inj s1 t1 s2 t2 b1 b2 g1 k1 k2 (by rw[<-hν s1 t1 ⟨b1,k1⟩];exact e1) (by rw[<-hν s2 t2 ⟨b2,k2⟩];exact e2)
theorem AdA (o:AH) (l:List Nat) (s t:Nat):(o.drop l).get s t=if s∈l then none else o.get s t:=by
 induction l with
 | nil=>simp [AH.drop]
 | cons x r ih =>
  unfold AH.get at *;by_cases h:s=x
  ·subst h;simp [AH.drop,AH.put]
  ·simp only[AH.drop,AH.put,if_neg h,List.mem_cons]
   rw[ih];by_cases h2:s∈r<;>simp [h,h2]
theorem Vh (o:AH) (l:List Nat) (s:Nat):(o.drop l).n6 s=o.n6 s:=by
 induction l with
 | nil=>simp [AH.drop]
 | cons x r ih =>
  unfold AH.n6 at *;by_cases h:s=x
  ·subst h;simp [AH.drop,AH.put]
  ·simp [AH.drop,AH.put,h,ih]
theorem Ak5 {m:M} (hm:BQ B S w0 m) (l:List Nat):BQ B S w0 ⟨m.ν,m.own.drop l,m.w⟩/\DQ B S m ⟨m.ν,m.own.drop l,m.w⟩:=by
 have old : ∀ s t b,(m.own.drop l).get s t=some b->m.own.get s t=some b:=λ s t b h=>by
  rw[AdA]at h;split at h
  ·cases h
  ·exact h
 have he:DQ B S m ⟨m.ν,m.own.drop l,m.w⟩:=by
  refine gT hm (Nat.le_refl _) (λ_ _ _=>rfl) (λ s=>by rw[Vh];exact Nat.le_refl _) (λ s t b' _ s9=>⟨b',old s t b' s9,rfl,rfl,λ_ ar _ _ ha=>⟨ar,ha,rfl⟩⟩) (λ s t g hl hg _ => ?_);obtain ⟨b,hb⟩:=hl;exact ⟨s,t,⟨b,old s t b hb⟩,hg⟩
 refine ⟨⟨hm.below,hm.size,λ s t ht => ?_,λ s t b hb => ?_,λ s1 t1 s2 t2 b1 b2 g h1 h2=>hm.inj s1 t1 s2 t2 b1 b2 g (old _ _ _ h1) (old _ _ _ h2)⟩,he⟩
 ·rw[Vh]at ht
  rw[AdA];split
  ·rfl
  ·exact hm.fresh s t ht
 ·obtain ⟨h1,h2⟩:=hm.m5 s t b (old s t b hb)
  refine ⟨h1,?_⟩;show match m.ν s t with|none=>_|some g=>_
  cases hv:m.ν s t with
  | none=>rw[hv]at h2;exact h2
  | some g =>
   rw[hv]at h2;obtain ⟨h3,ar,e',h4,h5⟩:=h2;refine ⟨h3,ar,e',h4,λ i cs hi j c hj => ?_⟩;obtain ⟨u,hu,bq⟩:=h5 i cs hi j c hj;exact ⟨u,hu,he.cc bq⟩
end
end Go.e9

namespace Go.e9
section
variable {P:Program} {num:Nat->Nat} {op:Op}
theorem AnN {y:AP} (h:BG P num op (.c6 y)=true) : ∃ x,(op = .move x\/op = .assign x)/\B1 x y=true:=by
 cases op with
 | move x=>exact ⟨x,.inl rfl,h⟩
 | assign x=>exact ⟨x,.inr rfl,h⟩
 | _=>exact Bool.noConfusion h
theorem AnW {s z:Nat} (h:BG P num op (.ff s z)=true):(op = .move (.const (.slice none 0 0))\/op = .assign (.const (.slice none 0 0)))/\z≠0:=by
 simp only[BG,Bool.and_eq_true,bne_iff_ne]at h;refine ⟨?_,h.1⟩;have h2:=h.2;split at h2<;>simp_all
theorem AnO {c' a' b':AP} (h:BG P num op (.pick c' a' b')=true) : ∃ c a b,op = .pick c a b/\B1 c c'=true/\B1 a a'=true/\B1 b b'=true:=by
 cases op with
 | pick c a b=>simp only[BG,Bool.and_eq_true]at h;exact ⟨c,a,b,rfl,h.1.1,h.1.2,h.2⟩
 | _=>exact Bool.noConfusion h
theorem Anv {f:BinOp} {x' y':AP} (h:BG P num op (.bin f x' y')=true) : ∃ t x y u,op = .binOp f t x y u/\B1 x x'=true/\B1 y y'=true:=by
 cases op with
 | binOp f' t x y u =>
  simp only[BG,Bool.and_eq_true,beq_iff_eq]at h;exact ⟨t,x,y,u,by rw[h.1.1],h.1.2,h.2⟩
 | _=>exact Bool.noConfusion h
theorem Anu {ne:Bool} {x' y':AP} (h:BG P num op (.beq ne x' y')=true) : ∃ t x y u,op = .binOp (if ne then .neq else .eql) t x y u/\P.underlying t=some .bool/\B1 x x'=true/\B1 y y'=true:=by
 cases op with
 | binOp f' t x y u =>
  simp only[BG,Bool.and_eq_true]at h;obtain ⟨⟨⟨h1,h2⟩,h3⟩,h4⟩:=h;refine ⟨t,x,y,u,?_,?_,h3,h4⟩
  ·cases ne<;>simp_all
  ·split at h2<;>simp_all
 | _=>exact Bool.noConfusion h
theorem AnV {f:UnOp} {x':AP} (h:BG P num op (.un f x')=true) : ∃ t x,op = .unOp f t x/\B1 x x'=true:=by
 cases op with
 | unOp f' t x =>
  simp only[BG,Bool.and_eq_true,beq_iff_eq]at h;exact ⟨t,x,by rw[h.1],h.2⟩
 | _=>exact Bool.noConfusion h
theorem AnE {k:IntKind} {x':AP} (h:BG P num op (.conv k x')=true) : ∃ s d x ds,op = .convert s d x/\P.underlying s=some ds/\P.underlying d=some (.int k)/\B1 x x'=true:=by
 cases op with
 | convert s d x =>
  simp only[BG,Bool.and_eq_true]at h;obtain ⟨⟨h1,h2⟩,h3⟩:=h;obtain ⟨ds,Ew⟩:=Option.isSome_iff_exists.1 h1;refine ⟨s,d,x,ds,rfl,Ew,?_,h3⟩;split at h2<;>simp_all
 | _=>exact Bool.noConfusion h
theorem Anw {s:Nat} {x':AP} (h:BG P num op (.box s x')=true) : ∃ t x,op = .box t x/\B1 x x'=true:=by
 cases op with
 | box t x=>exact ⟨t,x,rfl,h⟩
 | _=>exact Bool.noConfusion h
theorem Ans {s:Nat} {z:List AV} (h:BG P num op (.alloc s z)=true) : ∃ t,op = .alloc t/\iW P t z=true:=by
 cases op with
 | alloc t=>exact ⟨t,rfl,h⟩
 | _=>exact Bool.noConfusion h
theorem Any {z:List AV} {jo:List (Nat × Nat × AP)} (h:BG P num op (.build z jo)=true) : ∃ t ps,op = .build t ps/\iW P t z=true/\uX P t ps.toList jo=true:=by
 cases op with
 | build t ps=>simp only[BG,Bool.and_eq_true]at h;exact ⟨t,ps,rfl,h.1,h.2⟩
 | _=>exact Bool.noConfusion h
theorem dM {t:TypeId} {f:TypeId->Bool} (h:SP P t f=true) : ∃ e,P.underlying t=some (.slice e)/\f e=true:=by
 unfold SP at h;split at h
 ·rename_i e he;exact ⟨e,he,h⟩
 ·cases h
theorem aM {t:TypeId} {n:Nat} (h:O2 P t n=true) : ∃ i,P.info? t=some i/\i.size=n:=by
 unfold O2 at h;split at h
 ·rename_i i hi;exact ⟨i,hi,by simpa using h⟩
 ·cases h
theorem uY {t:TypeId} {n:Nat} (h:lS P t n=true) : ∃ i,P.info? t=some i/\i.bytes=n:=by
 unfold lS at h;split at h
 ·rename_i i hi;exact ⟨i,hi,by simpa using h⟩
 ·cases h
theorem Mm {t:TypeId} {l:List AV} (h:iW P t l=true) : ∃ i z,P.info? t=some i/\i.zero=some z/\cV z.cells.toList l=true:=by
 unfold iW at h;split at h
 ·rename_i i hi
  split at h
  ·rename_i z hz;exact ⟨i,z,hi,hz,h⟩
  ·cases h
 ·cases h
theorem uM {t:TypeId} {b:Bool} (h:(jH P t == some b)=true) : ∀ w,(isAgg t).run P w = .ok b w:=by
 intro w;have h':jH P t=some b:=by simpa using h
 unfold jH at h';unfold isAgg;cases hu:P.underlying t with
 | none=>rw[hu]at h';cases h'
 | some d =>
  rw[hu]at h';rw[Sem.run_bind,run_underlying hu];cases d<;>simp_all<;>rfl
theorem Mn {e:TypeId} {n:Nat} (h:(match P.info? e with|some i=>(match i.zero with|some z=>z.cells.size == n|none=>false)|none=>false)=true) : ∃ i z,P.info? e=some i/\i.zero=some z/\z.cells.size=n:=by
 split at h
 ·rename_i i hi
  split at h
  ·rename_i z hz;exact ⟨i,z,hi,hz,by simpa using h⟩
  ·cases h
 ·cases h
theorem Anx {s c7:Nat} {jo:List AP} (h:BG P num op (.m4 s c7 jo)=true) : ∃ t n ps e i,op = .buildSlice t n ps/\P.underlying t=some (.slice e)/\P.info? e=some i/\i.size=c7/\c7≠0/\n=jo.length/\n*c7<=16777216/\gO 0 ps.toList jo=true/\(n=0 \/ ∃ z,i.zero=some z/\z.cells.size=c7):=by
 cases op with
 | buildSlice t n ps =>
  simp only[BG,Bool.and_eq_true,decide_eq_true_eq,bne_iff_ne,beq_iff_eq,Bool.or_eq_true]at h;obtain ⟨⟨⟨⟨⟨h1,h2⟩,h3⟩,h4⟩,h5⟩,h6⟩:=h;obtain ⟨e,he,h1⟩:=dM h1;obtain ⟨i,hi,hs⟩:=aM h1;refine ⟨t,n,ps,e,i,rfl,he,hi,hs,h2,h3,h4,h5,h6.imp id λ h6 => ?_⟩;obtain ⟨e',kt,h6⟩:=dM h6;rw[he]at kt;obtain rfl:e=e':=by simpa using kt
  obtain ⟨i',z,ay,hz,ud⟩:=Mn h6;rw[hi]at ay;obtain rfl:i=i':=by simpa using ay
  exact ⟨z,hz,ud⟩
 | _=>exact Bool.noConfusion h
theorem Aea {x':AP} {off:Nat} (h:BG P num op (.a7 x' off)=true) : ∃ t x f fs fd i,op = .fieldAddr t x f/\B1 x x'=true/\P.underlying t=some (.struct fs)/\fs[f]? = some fd/\fd.offset=off/\P.info? fd.type=some i/\i.size≠0:=by
 cases op with
 | fieldAddr t x f =>
  simp only[BG,Bool.and_eq_true]at h;obtain ⟨h1,h2⟩:=h;split at h2
  ·rename_i fs il
   split at h2
   ·rename_i fd Ll
    simp only[Bool.and_eq_true,beq_iff_eq]at h2;obtain ⟨h3,h4⟩:=h2;split at h4
    ·rename_i i hi
     exact ⟨t,x,f,fs,fd,i,rfl,h1,il,Ll,h3,hi,by simpa using h4⟩
    ·cases h4
   ·cases h2
  ·cases h2
 | _=>exact Bool.noConfusion h
theorem AnG {x':AP} {off n:Nat} {agg:Bool} (h:BG P num op (.ry x' off n agg)=true) : ∃ t x f fs fd i,op = .field t x f/\B1 x x'=true/\P.underlying t=some (.struct fs)/\fs[f]? = some fd/\fd.offset=off/\P.info? fd.type=some i/\i.size=n/\(∀ w,(isAgg fd.type).run P w = .ok agg w)/\n≠0:=by
 cases op with
 | field t x f =>
  simp only[BG,Bool.and_eq_true]at h;obtain ⟨⟨h1,h2⟩,h3⟩:=h;unfold Adm at h2;unfold Adn at h3;split at h2
  ·rename_i fs il
   split at h2
   ·rename_i fd Ll
    simp only[Bool.and_eq_true,beq_iff_eq,bne_iff_ne]at h2;obtain ⟨⟨h4,h5⟩,h6⟩:=h2;obtain ⟨i,hi,hs⟩:=aM h5;rw[il]at h3;simp only[Ll]at h3;exact ⟨t,x,f,fs,fd,i,rfl,h1,il,Ll,h4,hi,hs,uM h3,h6⟩
   ·cases h2
  ·cases h2
 | _=>exact Bool.noConfusion h
theorem rK {arr:Option Nat} {c7:Nat} {x' i':AP} (h:BG P num op (.b9 arr c7 x' i')=true) : ∃ t x i e inf,op = .indexAddr t x i/\B1 x x'=true/\B1 i i'=true/\P.info? e=some inf/\inf.size=c7 /\
  ((∃ len,arr=some len/\P.underlying t=some (.array len e)/\1<len)\/(arr=none/\P.underlying t=some (.slice e)/\c7≠0)):=by
 cases op with
 | indexAddr t x i =>
  simp only[BG,Bool.and_eq_true]at h;obtain ⟨⟨h1,h2⟩,h3⟩:=h;split at h3
  ·rename_i len e xn hu
   simp only[Bool.and_eq_true,beq_iff_eq,decide_eq_true_eq]at h3;obtain ⟨⟨h4,h5⟩,h6⟩:=h3;obtain ⟨inf,hi,hs⟩:=aM h5;exact ⟨t,x,i,e,inf,rfl,h1,h2,hi,hs,.inl ⟨len,by rw[h4],hu,h6⟩⟩
  ·rename_i e hu
   simp only[Bool.and_eq_true,bne_iff_ne]at h3;obtain ⟨inf,hi,hs⟩:=aM h3.1;exact ⟨t,x,i,e,inf,rfl,h1,h2,hi,hs,.inr ⟨rfl,hu,h3.2⟩⟩
  ·cases h3
 | _=>exact Bool.noConfusion h
theorem Aeb {agg:Bool} {n:Nat} {x':AP} (h:BG P num op (.ld agg n x')=true) : ∃ t x,op = .load t x/\B1 x x'=true/\(∀ w,(isAgg t).run P w = .ok agg w)/\(if agg then ∃ i,P.info? t=some i/\i.size=n else n=1):=by
 cases op with
 | load t x =>
  simp only[BG,Bool.and_eq_true]at h;obtain ⟨⟨h1,h2⟩,h3⟩:=h;refine ⟨t,x,rfl,h1,uM h2,?_⟩;cases agg
  ·simpa using h3
  ·exact aM (by simpa using h3)
 | _=>exact Bool.noConfusion h
theorem AnT {n:Nat} {x' v':AP} (h:BG P num op (.st n x' v')=true) : ∃ t x v i,op = .store t x v/\B1 x x'=true/\B1 v v'=true/\P.info? t=some i/\i.size=n:=by
 cases op with
 | store t x v =>
  simp only[BG,Bool.and_eq_true]at h;obtain ⟨⟨h1,h2⟩,h3⟩:=h;obtain ⟨i,hi,hs⟩:=aM h3;exact ⟨t,x,v,i,rfl,h1,h2,hi,hs⟩
 | _=>exact Bool.noConfusion h
theorem AnK {s c7 bytes:Nat} {zero:List AV} {l' c':AP} (h:BG P num op (.mk s c7 bytes zero l' c')=true) : ∃ t l c e i z,op = .makeSlice t l c/\B1 l l'=true/\B1 c c'=true/\P.underlying t=some (.slice e)/\P.info? e=some i/\i.size=c7/\i.bytes=bytes/\i.zero=some z/\cV z.cells.toList zero=true/\c7≠0:=by
 cases op with
 | makeSlice t l c =>
  simp only[BG,Bool.and_eq_true,bne_iff_ne]at h;obtain ⟨⟨⟨h1,h2⟩,h3⟩,h4⟩:=h;obtain ⟨e,he,h3⟩:=dM h3;simp only[Bool.and_eq_true]at h3;obtain ⟨⟨h5,h6⟩,h7⟩:=h3;obtain ⟨i,hi,hs⟩:=aM h5;obtain ⟨i2,xx,vu⟩:=uY h6;obtain ⟨i3,z,Bo,hz,ln⟩:=Mm h7;rw[hi]at xx Bo;obtain rfl:i=i2:=by simpa using xx
  obtain rfl:i=i3:=by simpa using Bo
  exact ⟨t,l,c,e,i,z,rfl,h1,h2,he,hi,hs,vu,hz,ln,h4⟩
 | _=>exact Bool.noConfusion h
theorem yS {c7:Nat} {x':AP} {tj ay:Option AP} (h:BG P num op (.ke c7 x' tj ay)=true) : ∃ t x lo hi e i,op = .slice t x lo hi none/\B1 x x'=true/\bU lo tj=true/\bU hi ay=true/\P.underlying t=some (.slice e)/\P.info? e=some i/\i.size=c7/\c7≠0:=by
 cases op with
 | slice t x lo hi mx =>
  cases mx with
  | some _=>exact Bool.noConfusion h
  | none =>
   simp only[BG,Bool.and_eq_true,bne_iff_ne]at h;obtain ⟨⟨⟨⟨h1,h2⟩,h3⟩,h4⟩,h5⟩:=h;obtain ⟨e,he,h4⟩:=dM h4;obtain ⟨i,ay,hs⟩:=aM h4;exact ⟨t,x,lo,hi,e,i,rfl,h1,h2,h3,he,ay,hs,h5⟩
 | _=>exact Bool.noConfusion h
theorem AnF {x':AP} {i:Nat} (h:BG P num op (.ext x' i)=true) : ∃ x,op = .extract x i/\B1 x x'=true:=by
 cases op with
 | extract x j =>
  simp only[BG,Bool.and_eq_true,beq_iff_eq]at h;exact ⟨x,by rw[h.2],h.1⟩
 | _=>exact Bool.noConfusion h
theorem tR {α:Type} {xs:Array α} {x y:α} (h:xs.toList=[x,y]):xs = #[x,y]:=by cases xs;simp_all
theorem tQ {α:Type} {xs:Array α} {x:α} (h:xs.toList=[x]):xs = #[x]:=by cases xs;simp_all
theorem AnJ {x':AP} (h:BG P num op (.len x')=true) : ∃ x t e,op = .call ⟨.builtin .len,#[x],#[t]⟩/\B1 x x'=true/\P.underlying t=some (.slice e):=by
 cases op with
 | call c =>
  obtain ⟨cl,xs,ts⟩:=c;cases cl with
  | builtin b =>
   cases b<;>first|exact Bool.noConfusion h|skip
   simp only[BG]at h;split at h
   ·rename_i x t hx ht
    simp only[Bool.and_eq_true]at h;obtain ⟨e,he,_⟩:=dM h.2;exact ⟨x,t,e,by rw[tQ hx,tQ ht],h.1,he⟩
   ·cases h
  | value f=>cases f<;>exact Bool.noConfusion h
  | invoke=>exact Bool.noConfusion h
 | _=>exact Bool.noConfusion h
theorem Aec {mx:Bool} {ag:List AP} (h:BG P num op (.mm mx ag)=true) : ∃ xs ts,op = .call ⟨.builtin (if mx then .max else .min),xs,ts⟩/\EI xs.toList ag=true:=by
 cases op with
 | call c =>
  obtain ⟨cl,xs,ts⟩:=c;cases cl with
  | builtin b =>
   cases b<;>first|exact Bool.noConfusion h|skip
   all_goals
    simp only[BG,Bool.and_eq_true]at h;refine ⟨xs,ts,?_,h.2⟩;cases mx<;>simp_all
  | value f=>cases f<;>exact Bool.noConfusion h
  | invoke=>exact Bool.noConfusion h
 | _=>exact Bool.noConfusion h
theorem Ad9 {s c7 bytes:Nat} {x' y':AP} (h:BG P num op (.app s c7 bytes x' y')=true) : ∃ x y t e i z tx ex,op = .call ⟨.builtin .append,#[x,y],#[t,tx]⟩/\B1 x x'=true/\B1 y y'=true/\P.underlying t=some (.slice e)/\P.info? e=some i/\i.size=c7/\i.bytes=bytes/\i.zero=some z/\z.cells.size=c7/\c7≠0/\P.underlying tx=some (.slice ex):=by
 cases op with
 | call c =>
  obtain ⟨cl,xs,ts⟩:=c;cases cl with
  | builtin b =>
   cases b<;>first|exact Bool.noConfusion h|skip
   simp only[BG]at h;split at h
   ·rename_i x y t u hx ht
    simp only[Bool.and_eq_true,beq_iff_eq,bne_iff_ne]at h;obtain ⟨⟨⟨⟨h1,h2⟩,h3⟩,h4⟩,h5⟩:=h;obtain ⟨e,he,h3⟩:=dM h3;simp only[Bool.and_eq_true]at h3;obtain ⟨⟨h6,h7⟩,h8⟩:=h3;obtain ⟨i,hi,hs⟩:=aM h6;obtain ⟨i2,xx,vu⟩:=uY h7;obtain ⟨i3,z,Bo,hz,ln⟩:=Mn h8;rw[hi]at xx Bo;obtain rfl:i=i2:=by simpa using xx
    obtain rfl:i=i3:=by simpa using Bo
    obtain ⟨ex,hex,_⟩:=dM h5;exact ⟨x,y,t,e,i,z,u,ex,by rw[tR hx,tR ht],h1,h2,he,hi,hs,vu,hz,ln,h4,hex⟩
   ·cases h
  | value f=>cases f<;>exact Bool.noConfusion h
  | invoke=>exact Bool.noConfusion h
 | _=>exact Bool.noConfusion h
theorem yO {f:Nat} {ag:List AP} (h:BG P num op (.call f ag)=true) : ∃ xs ts,op = .call ⟨.value (.func (num f)),xs,ts⟩/\EI xs.toList ag=true:=by
 cases op with
 | call c =>
  obtain ⟨cl,xs,ts⟩:=c;cases cl with
  | builtin b=>cases b<;>exact Bool.noConfusion h
  | value g =>
   cases g with
   | func g =>
    simp only[BG,Bool.and_eq_true,beq_iff_eq]at h;exact ⟨xs,ts,by rw[h.1],h.2⟩
   | _=>exact Bool.noConfusion h
  | invoke=>exact Bool.noConfusion h
 | _=>exact Bool.noConfusion h
theorem Anz {f:Nat} {ag:List AP} (h:BG P num op (.m7 f ag)=true) : ∃ xs ts,op = .call ⟨.value (.func (num f)),xs,ts⟩/\EI xs.toList ag=true:=by
 cases op with
 | call c =>
  obtain ⟨cl,xs,ts⟩:=c;cases cl with
  | builtin b=>cases b<;>exact Bool.noConfusion h
  | value g =>
   cases g with
   | func g =>
    simp only[BG,Bool.and_eq_true,beq_iff_eq]at h;exact ⟨xs,ts,by rw[h.1],h.2⟩
   | _=>exact Bool.noConfusion h
  | invoke=>exact Bool.noConfusion h
 | _=>exact Bool.noConfusion h
theorem AnA {f:Nat} {ag:List AP} (h:BG P num op (.w9 f ag)=true):BG P num op (.call f ag)=true:=by
 cases op<;>exact h
theorem Anr {ne:Bool} {n:Nat} {x' y':AP} (h:BG P num op (.wk ne n x' y')=true) : ∃ t x y u,op = .binOp (if ne then .neq else .eql) t x y u/\xR P t n=true/\B1 x x'=true/\B1 y y'=true:=by
 cases op with
 | binOp f' t x y u =>
  simp only[BG,Bool.and_eq_true]at h;obtain ⟨⟨⟨h1,h2⟩,h3⟩,h4⟩:=h;refine ⟨t,x,y,u,?_,h2,h3,h4⟩;cases ne<;>simp_all
 | _=>exact Bool.noConfusion h
theorem AnD {x':AP} (h:BG P num op (.ju x')=true) : ∃ x t e,op = .call ⟨.builtin .cap,#[x],#[t]⟩/\B1 x x'=true/\P.underlying t=some (.slice e):=by
 cases op with
 | call c =>
  obtain ⟨cl,xs,ts⟩:=c;cases cl with
  | builtin b =>
   cases b<;>first|exact Bool.noConfusion h|skip
   simp only[BG]at h;split at h
   ·rename_i x t hx ht
    simp only[Bool.and_eq_true]at h;obtain ⟨e,he,_⟩:=dM h.2;exact ⟨x,t,e,by rw[tQ hx,tQ ht],h.1,he⟩
   ·cases h
  | value f=>cases f<;>exact Bool.noConfusion h
  | invoke=>exact Bool.noConfusion h
 | _=>exact Bool.noConfusion h
theorem Ant {s c7 bytes:Nat} {x' y':AP} (h:BG P num op (.ru s c7 bytes x' y')=true) : ∃ x y t e i z tx k,op = .call ⟨.builtin .append,#[x,y],#[t,tx]⟩/\B1 x x'=true/\B1 y y'=true/\P.underlying t=some (.slice e)/\P.info? e=some i/\i.size=c7/\i.bytes=bytes/\i.zero=some z/\z.cells.size=c7/\c7≠0/\P.underlying tx=some (.int k):=by
 cases op with
 | call c =>
  obtain ⟨cl,xs,ts⟩:=c;cases cl with
  | builtin b =>
   cases b<;>first|exact Bool.noConfusion h|skip
   simp only[BG]at h;split at h
   ·rename_i x y t u hx ht
    simp only[Bool.and_eq_true,bne_iff_ne]at h;obtain ⟨⟨⟨⟨h1,h2⟩,h3⟩,h4⟩,h5⟩:=h;obtain ⟨e,he,h3⟩:=dM h3;simp only[Bool.and_eq_true]at h3;obtain ⟨⟨h6,h7⟩,h8⟩:=h3;obtain ⟨i,hi,hs⟩:=aM h6;obtain ⟨i2,xx,vu⟩:=uY h7;obtain ⟨i3,z,Bo,hz,ln⟩:=Mn h8;rw[hi]at xx Bo;obtain rfl:i=i2:=by simpa using xx
    obtain rfl:i=i3:=by simpa using Bo
    split at h5
    ·rename_i k hk
     exact ⟨x,y,t,e,i,z,u,k,by rw[tR hx,tR ht],h1,h2,he,hi,hs,vu,hz,ln,h4,hk⟩
    ·cases h5
   ·cases h
  | value f=>cases f<;>exact Bool.noConfusion h
  | invoke=>exact Bool.noConfusion h
 | _=>exact Bool.noConfusion h
theorem AnC {s f:Nat} {ag:List AP} (h:BG P num op (.gj s f ag)=true):BG P num op (.m7 f ag)=true:=by
 cases op<;>exact h
theorem AnB {s f:Nat} {ag:List AP} (h:BG P num op (.bm s f ag)=true):BG P num op (.call f ag)=true:=by
 cases op<;>exact h
theorem AnU {s n:Nat} {x' v':AP} (h:BG P num op (.rm s n x' v')=true):BG P num op (.st n x' v')=true:=by
 cases op<;>exact h
theorem AnH {ne:Bool} {x':AP} (h:BG P num op (.xm ne x')=true) : ∃ t x u e,op = .binOp (if ne then .neq else .eql) t x (.const (.slice none 0 0)) u/\P.underlying t=some (.slice e)/\B1 x x'=true:=by
 cases op with
 | binOp f' t x y u =>
  simp only[BG]at h;split at h
  ·rename_i heq
   simp only[Op.binOp.injEq]at heq;obtain ⟨rfl,rfl,rfl,rfl,rfl⟩:=heq;simp only[Bool.and_eq_true]at h;obtain ⟨⟨h1,h2⟩,h3⟩:=h;unfold SP at h2;split at h2
   ·rename_i e he
    refine ⟨t,x,u,e,?_,he,h3⟩;cases ne
    ·simp only[Bool.false_eq_true,if_false,beq_iff_eq]at h1;rw[h1];rfl
    ·simp only[if_true,beq_iff_eq]at h1;rw[h1];rfl
   ·cases h2
  ·cases h
 | _=>exact Bool.noConfusion h
theorem AnQ {tb:List Nat} {i':AP} (h:BG P num op (.lu tb i')=true) : ∃ t s i,op = .index t (.const (.string s)) i/\P.underlying t=some .string/\s.data.toList.map (λ b=>b.toNat)=tb/\B1 i i'=true:=by
 cases op with
 | index t x i =>
  simp only[BG]at h;split at h
  ·rename_i heq
   simp only[Op.index.injEq]at heq;obtain ⟨rfl,rfl,rfl⟩:=heq;simp only[Bool.and_eq_true,beq_iff_eq]at h;obtain ⟨⟨h1,h2⟩,h3⟩:=h;exact ⟨_,_,_,rfl,by split at h1<;>simp_all,h2,h3⟩
  ·cases h
 | _=>exact Bool.noConfusion h
theorem AnM {p:Bool} {f:Nat} {ag:List AP} (h:BG P num op (.um p f ag)=true) : ∃ first xs,op = .makeFunc (.func (num f)) first xs/\first = #[]/\EI xs.toList ag=true:=by
 cases op with
 | makeFunc g first xs =>
  cases g with
  | func g =>
   simp only[BG,Bool.and_eq_true,beq_iff_eq]at h;obtain ⟨⟨rfl,h2⟩,h3⟩:=h;refine ⟨first,xs,rfl,?_,h3⟩;obtain ⟨l⟩:=first
   simp at h2;rw[h2]
  | _=>exact Bool.noConfusion h
 | _=>exact Bool.noConfusion h
theorem AnL {f:Nat} {x':AP} (h:BG P num op (.wi f x')=true) : ∃ x,op = .makeFunc (.func (num f)) #[x] #[]/\B1 x x'=true:=by
 cases op with
 | makeFunc g first xs =>
  cases g with
  | func g =>
   obtain ⟨l⟩:=first
   obtain ⟨l2⟩:=xs;simp only[BG,Bool.and_eq_true,beq_iff_eq]at h;obtain ⟨⟨rfl,h2⟩,h3⟩:=h;match l,l2,h2,h3 with
   | [x],[],h2,_=>exact ⟨x,rfl,h2⟩
  | _=>exact Bool.noConfusion h
 | _=>exact Bool.noConfusion h
theorem yP {x':AP} {ag:List AP} (h:BG P num op (.y7 x' ag)=true) : ∃ x xs ts,op = .call ⟨.value x,xs,ts⟩/\B1 x x'=true/\EI xs.toList ag=true:=by
 cases op with
 | call c =>
  obtain ⟨cl,xs,ts⟩:=c;cases cl with
  | builtin b=>cases b<;>exact Bool.noConfusion h
  | value g =>
   simp only[BG,Bool.and_eq_true]at h;exact ⟨g,xs,ts,rfl,h.1,h.2⟩
  | invoke=>exact Bool.noConfusion h
 | _=>exact Bool.noConfusion h
end
end Go.e9

namespace Go.e9
open Go.RowKit
def CG.ea:CG->AH->AH
 | .val _,o=>o
 | .new s b _,o=>o.put s ((o s).new b)
 | .Cm s b _,o=>o.put s ((o s).new b)
 | .jc _ o',_=>o'
 | .bg s x,o=>o.put s x
 | .Aw s x _,o=>o.put s x
def CG.valOf:CG->AH->AV
 | .val v,_=>v
 | .new s _ v,o=>v (o.n6 s)
 | .Cm s _ v,o=>v (o.n6 s)
 | .jc v _,_=>v
 | .bg _ _,_ => .m9 []
 | .Aw _ _ v,_=>v
section
variable {B:Nat} {S:Nat->Prop} {w0:World} {m:M}
theorem IH {k:IntKind} {n:Int} {v:Value} (h:CV B S m (.int k n) v):v = .int k n:=by
 cases h with
 | ca h=>cases h with
  | one h=>cases h with
   | rd h=>cases h;rfl
theorem gK {b:Bool} {v:Value} (h:CV B S m (.bool b) v):v = .bool b:=by
 cases h with
 | ca h=>cases h with
  | one h=>cases h with
   | rd h=>cases h;rfl
theorem qJ {cs:List AV} {v:Value} (h:CV B S m (.agg cs) v) : ∃ vs:List Value,v = .agg vs.toArray/\CL B S m cs vs:=by
 cases h with
 | ca h=>cases h with
  | one h=>cases h with
   | rd h=>cases h
  | agg _ vs h=>exact ⟨vs,rfl,h⟩
theorem vP {cs:List AV} {v:Value} (h:CV B S m (.m9 cs) v) : ∃ vs:List Value,v = .tuple vs.toArray/\cs.length=vs.length /\ ∀ (j:Nat) (c:AV) (u:Value),cs[j]? = some c->vs[j]? = some u->CA B S m c u:=by
 cases h with
 | ca h=>cases h with
  | one h=>cases h with
   | rd h=>cases h
 | m9 _ vs hl h=>exact ⟨vs,rfl,hl,h⟩
theorem dG (k:IntKind) (n:Int):CV B S m (.int k n) (.int k n):= .ca (.one (.rd (.int k n)))
theorem nH (b:Bool):CV B S m (.bool b) (.bool b):= .ca (.one (.rd (.bool b)))
theorem AeB:CV B S m (.m9 []) undef := .m9 [] [] rfl (λ j c v h=>by simp at h)
theorem qL {a:AV} {cs:List AV} {v:Value} (h:CV B S m a v) (hc:cellsOf a=some cs):CL B S m cs v.cells.toList:=by
 cases h with
 | any v=>simp [cellsOf]at hc
 | m9=>simp [cellsOf]at hc
 | ca h=>cases h with
  | agg jq vs h =>
   obtain rfl:jq=cs:=by simpa [cellsOf] using hc
   simpa [Value.cells] using h
  | fn=>simp [cellsOf]at hc
  | xp=>simp [cellsOf]at hc
  | one h =>
   have h1:v.cells.toList=[v]:=by
    cases h with
    | rd h=>cases h<;>rfl
    | _=>rfl
   have h2:cs=[a]:=by
    cases h with
    | rd h=>cases h<;>simp [cellsOf]at hc<;>exact hc.symm
    | _=>simp [cellsOf]at hc;exact hc.symm
   rw[h1,h2];refine ⟨rfl,λ j c u hj hu => ?_⟩;cases j with
   | zero=>simp at hj hu;subst hj hu;exact h
   | succ j=>simp at hj
theorem Ai4 {cs:List AV} {vs:List Value} (h:CL B S m cs vs) : ∀ v∈vs,v.oneCell'=true:=by
 intro v hv;obtain ⟨j,hj,rfl⟩:=List.getElem_of_mem hv;have Gp:j<cs.length:=by rw[h.1];exact hj
 exact (h.2 j cs[j] vs[j] (zE Gp) (zE hj)).one
theorem Ai6 {cs:List AV} {vs:List Value} (h:CL B S m cs vs) (off n:Nat):CL B S m ((cs.drop off).take n) ((vs.drop off).take n):=by
 refine ⟨by simp [h.1],λ j c v hj hv => ?_⟩;rw[List.getElem?_take]at hj hv;split at hj
 ·rename_i v9
  rw[if_pos v9]at hv;rw[List.getElem?_drop]at hj hv;exact h.2 _ c v hj hv
 ·cases hj
theorem Ys {v:Value} {a:AV} (h:qW v a=true):CC B S m a v:=by
 unfold qW at h;split at h
 ·simp only[Bool.and_eq_true,beq_iff_eq]at h
  obtain ⟨rfl,rfl⟩:=h;exact .rd (.int _ _)
 ·obtain rfl:_=_:=by simpa using h
  exact .rd (.bool _)
 ·exact .nil
 ·rename_i s s'
  obtain rfl:s=s':=by
   have h':s.data.toList=s'.data.toList:=by simpa using h
   obtain ⟨⟨l⟩⟩:=s;obtain ⟨⟨l'⟩⟩:=s';simp only at h';rw[h']
  exact .rd (.str _)
 ·cases h
theorem jR : ∀ {vs:List Value} {cs:List AV},cV vs cs=true->CL B S m cs vs
 | [],[],_=>⟨rfl,λ j c v h=>by simp at h⟩
 | v::r,c::l,h=>by
  simp only[cV,Bool.and_eq_true]at h;have ih:=jR (vs:=r) (cs:=l) h.2;refine ⟨by simp [ih.1],λ j c' v' hj hv => ?_⟩;cases j with
  | zero=>simp at hj hv;subst hj hv;exact Ys h.1
  | succ j=>exact ih.2 j c' v' (by simpa using hj) (by simpa using hv)
 | [],_::_,h=>by simp [cV]at h
 | _::_,[],h=>by simp [cV]at h
theorem Ali {v:Value} {a:AV} (h:wN v a=true):CV B S m a v:=by
 unfold wN at h;split at h
 ·rename_i cs l
  have:=jR (B:=B) (S:=S) (m:=m) h
  exact .ca (by simpa using CA.agg l cs.toList this)
 ·exact .ca (.one (Ys h))
def CT (B:Nat) (S:Nat->Prop) (m:M) (ρ:AP->AV) (e:Operand->Value):Prop := ∀ x y,B1 x y=true->CV B S m (ρ y) (e x)
theorem ApH {T:Nat->AV} {a:Act} {ρ:AP->AV} (hρt : ∀ n,ρ (.t n)=T n) (hρc : ∀ v,ρ (.c v)=v) (h : ∀ i,CV B S m (T i) (a.tmps.getD i undef)):CT B S m ρ a.eval:=by
 intro x y ye;unfold B1 at ye;split at ye
 ·obtain rfl:_=_:=by simpa using ye
  rw[hρt];exact h _
 ·rw[hρc]
  exact Ali ye
 ·obtain rfl:_=_:=by simpa using ye
  rw[hρc];exact .ca (.fn _ _ _ [] [] (λ_=>rfl) ⟨rfl,λ j c v h=>by simp at h⟩)
 ·cases ye
variable {P:Program} {num:Nat->Nat} {o:Oper} {a:Act} {ρ:AP->AV} {K:Act->World->Prop} {Q:Exit->Act->World->Prop}
theorem cF {w w':World} {u:Value} (h:(execOp a.eval o).run P w = .ok (.value u) w') (hk:K (a.put o.dst u) w'):o.wp P a w K Q:=by
 unfold Oper.wp;rw[h];exact hk
theorem AqU {w w':World} (h:(execOp a.eval o).run P w = .ok .skip w') (hk:K (a.put o.dst undef) w'):o.wp P a w K Q:=by
 unfold Oper.wp;rw[h];exact hk
def CY (B:Nat) (S:Nat->Prop) (w0:World) (P:Program) (o:Oper) (a:Act) (m:M) (E:CG):Prop :=
 ∀ (K:Act->World->Prop) (Q:Exit->Act->World->Prop),(∀ u m',m'.own=E.ea m.own->BQ B S w0 m'->DQ B S m m'->CV B S m' (E.valOf m.own) u->K (a.put o.dst u) m'.w)->o.wp P a m.w K Q
theorem EH (hm:BQ B S w0 m) {v:AV} {u:Value} (h:(execOp a.eval o).run P m.w = .ok (.value u) m.w) (hc:CV B S m v u):CY B S w0 P o a m (.val v) :=
 λ K Q hK=>cF h (hK u m rfl hm (DQ.refl m) hc)
theorem AkS (hm:BQ B S w0 m) (hs:CT B S m ρ a.eval) {y:AP} (h:BG P num o.op (.c6 y)=true):CY B S w0 P o a m (.val (ρ y)):=by
 obtain ⟨x,hx,he⟩:=AnN h;refine EH hm (u:=a.eval x) ?_ (hs x y he);rcases hx with hx|hx<;>simp [execOp,hx]
theorem AkY (hm:BQ B S w0 m) {s z:Nat} (h:BG P num o.op (.ff s z)=true):CY B S w0 P o a m (.Cm s ⟨z,[]⟩ (λ t => .row s t z 0 0)):=by
 obtain ⟨hx,hz⟩:=AnW h;intro K Q hK;obtain ⟨h1,h2⟩:=AgD hm s z;refine cF (u := .slice none 0 0) (w':=m.w) ?_ (hK _ ⟨n8 m s none,m.own.put s ((m.own s).new ⟨z,[]⟩),m.w⟩ rfl h1 h2 ?_)
 ·rcases hx with hx|hx<;>simp [execOp,hx,Act.eval]
 ·refine .ca (.one (.row s (m.own.n6 s) z 0 0 none 0 ?_ (by omega) (Nat.le_refl _) (λ h=>by omega) λ b hb => ?_))
  ·show _<AH.n6 _ s
   rw[XN];simp
  ·change AH.get _ s _=some b at hb
   rw[GJ,if_pos ⟨rfl,rfl⟩]at hb;obtain rfl:(⟨z,[]⟩:ED)=b:=by simpa using hb
   exact ⟨rfl,.inl ⟨rfl,rfl⟩⟩
theorem Zw (hm:BQ B S w0 m) (hs:CT B S m ρ a.eval) {c' a' b':AP} (h:BG P num o.op (.pick c' a' b')=true) {t:Bool} (hc:ρ c' = .bool t) :
  CY B S w0 P o a m (.val (if t then ρ a' else ρ b')):=by
 obtain ⟨c,x,y,s8,h1,h2,h3⟩:=AnO h;have db:=gK (hc ▸ hs c c' h1);refine EH hm (u:=if t then a.eval x else a.eval y) ?_ ?_
 ·cases t<;>simp [execOp,s8,db,asBool]
 ·cases t
  ·exact hs y b' h3
  ·exact hs x a' h2
theorem ApC (f:BinOp) (t:TypeId) (k k':IntKind) (x y:Int) (v:AV) (h:DW f k x k' y=some v) (w:World) : ∃ u,(binOp f t (.int k x) (.int k' y)).run P w = .ok u w/\((∃ n,v = .int k n/\u = .int k n) \/ ∃ b,v = .bool b/\u = .bool b):=by
 cases f<;>simp only[DW]at h;case shl =>
  split at h
  ·cases h
  ·rename_i hy;simp at h;subst h
   exact ⟨_,by simp [binOp,Op.shift,hy],.inl ⟨_,rfl,rfl⟩⟩
 case shr =>
  split at h
  ·cases h
  ·rename_i hy;simp at h;subst h
   exact ⟨_,by simp [binOp,Op.shift,hy],.inl ⟨_,rfl,rfl⟩⟩
 case quo =>
  split at h
  ·rename_i hy;obtain ⟨rfl,hy⟩:=hy;simp at h;subst h
   exact ⟨_,by simp [binOp,Op.intDiv,hy],.inl ⟨_,rfl,rfl⟩⟩
  ·cases h
 case rem =>
  split at h
  ·rename_i hy;obtain ⟨rfl,hy⟩:=hy;simp at h;subst h
   exact ⟨_,by simp [binOp,Op.intDiv,hy],.inl ⟨_,rfl,rfl⟩⟩
  ·cases h
 case and|or|xor|andNot =>
  all_goals
   split at h
   ·rename_i hk;subst hk;obtain rfl:=Option.some.inj h
    exact ⟨_,by simp only[binOp,ne_eq,not_true_eq_false,if_false];rfl,.inl ⟨_,rfl,rfl⟩⟩
   ·cases h
 case add|sub|mul =>
  all_goals
   split at h
   ·rename_i hk;subst hk;obtain rfl:=Option.some.inj h
    exact ⟨_,by simp [binOp,Op.intArith],.inl ⟨_,rfl,rfl⟩⟩
   ·cases h
 all_goals
  split at h
  ·rename_i hk;subst hk;obtain rfl:=Option.some.inj h
   exact ⟨_,by simp [binOp,Op.intCmp],.inr ⟨_,rfl,rfl⟩⟩
  ·cases h
theorem Apw (f:BinOp) (t:TypeId) (x y:Operand) (k k':IntKind) (n n':Int) (w:World):(eqGuard f t x y (.int k n) (.int k' n')).run P w = .ok () w:=by
 unfold eqGuard;cases f<;>simp
theorem Apx (f:BinOp) (t:TypeId) (x y:Operand) (b b':Bool) (w:World):(eqGuard f t x y (.bool b) (.bool b')).run P w = .ok () w:=by
 unfold eqGuard;cases f<;>simp
theorem Aj6 (hm:BQ B S w0 m) (hs:CT B S m ρ a.eval) {f:BinOp} {x' y':AP} (h:BG P num o.op (.bin f x' y')=true) {k k':IntKind} {n n':Int} {v:AV} (hx:ρ x' = .int k n) (hy:ρ y' = .int k' n') (hv:DW f k n k' n'=some v) :
  CY B S w0 P o a m (.val v):=by
 obtain ⟨t,x,y,u,s8,h1,h2⟩:=Anv h;have ex:=IH (hx ▸ hs x x' h1);have ey:=IH (hy ▸ hs y y' h2);obtain ⟨r,hr,fx⟩:=ApC (P:=P) f t k k' n n' v hv m.w;refine EH hm (u:=r) ?_ ?_
 ·simp [execOp,s8,ex,ey,Apw,hr]
 ·rcases fx with ⟨q,rfl,rfl⟩|⟨q,rfl,rfl⟩
  ·exact dG _ _
  ·exact nH _
theorem Apz (t:TypeId) (b b':Bool) (hu:P.underlying t=some .bool) (w:World):(Op.equal t (.bool b) (.bool b')).run P w = .ok (b == b') w:=by
 have h : ∀ d:Nat,(Op.equalIn (d+1) t (.bool b) (.bool b')).run P w = .ok (b == b') w:=λ d=>by
  unfold Op.equalIn;rw[Sem.run_bind,run_underlying hu];rfl
 exact h 9999
theorem Aj5 (hm:BQ B S w0 m) (hs:CT B S m ρ a.eval) {ne:Bool} {x' y':AP} (h:BG P num o.op (.beq ne x' y')=true) {b b':Bool} (hx:ρ x' = .bool b) (hy:ρ y' = .bool b') :
  CY B S w0 P o a m (.val (.bool (if ne then !(b == b') else b == b'))):=by
 obtain ⟨t,x,y,u,s8,hu,h1,h2⟩:=Anu h;have ex:=gK (hx ▸ hs x x' h1);have ey:=gK (hy ▸ hs y y' h2);refine EH hm (u := .bool (if ne then !(b == b') else b == b')) ?_ (nH _);cases ne<;>simp [execOp,s8,ex,ey,Apx,binOp,Apz t b b' hu]
theorem Ado : ∀ {fs:List Field} {k n:Nat},fieldsI P k fs n=true->k<=n
 | [],k,n,h=>by simp only[fieldsI,beq_iff_eq]at h;omega
 | f::fs,k,n,h=>by
  simp only[fieldsI,Bool.and_eq_true]at h;have:=Ado h.2
  omega
theorem AfA (d:Nat) (a b:List Int) (w:World) : ∀ {fs:List Field} {k:Nat},fieldsI P k fs a.length=true->b.length=a.length ->
  (Op.eqFields (d+1) (a.map (Value.int .i64)).toArray (b.map (Value.int .i64)).toArray fs).run P w = .ok (decide (a.drop k=b.drop k)) w
 | [],k,h,hl=>by
  simp only[fieldsI,beq_iff_eq]at h;rw[List.drop_of_length_le (by omega),List.drop_of_length_le (by omega)];simp [Op.eqFields]
 | f::fs,k,h,hl=>by
  simp only[fieldsI,Bool.and_eq_true,bne_iff_ne,beq_iff_eq]at h;obtain ⟨⟨⟨h1,h2⟩,h3⟩,h4⟩:=h;have hk:=Ado h4;have hp:P.plainKey f.type=true:=by unfold Program.plainKey;split at h3<;>simp_all
  obtain ⟨kd,hu⟩ : ∃ kd,P.underlying f.type=some (.int kd):=by split at h3<;>simp_all
  have e1:(a.map (Value.int .i64)).toArray[f.offset]? = some (.int .i64 (a[k]'(by omega))):=by rw[h2];simp [zE (show k<a.length by omega)]
  have e2:(b.map (Value.int .i64)).toArray[f.offset]? = some (.int .i64 (b[k]'(by omega))):=by rw[h2];simp [zE (show k<b.length by omega)]
  have ih:=AfA d a b w h4 hl;have hd:(a.drop k=b.drop k)↔(a[k]'(by omega)=b[k]'(by omega)/\a.drop (k+1)=b.drop (k+1)):=by
   rw[List.drop_eq_getElem_cons (show k<a.length by omega),List.drop_eq_getElem_cons (show k<b.length by omega),List.cons.injEq]
  simp only[Op.eqFields,ne_eq,h1,not_false_eq_true,if_true,Sem.run_bind,run_part_plain w hp e1,run_part_plain w hp e2,Result.andThen_ok,run_equalIn_int w d f.type .i64 kd _ _ hu,Sem.run_ite];by_cases ij:a[k]'(by omega)=b[k]'(by omega)
  ·simp [ij,ih,hd]
  ·simp [ij,hd]
theorem yM : ∀ {cs:List AV} {a:List Int} {vs:List Value},I1 cs=some a->CL B S m cs vs->vs=a.map (Value.int .i64)
 | [],a,vs,h,hc=>by
  simp only[I1,Option.some.injEq]at h;subst h;have:=hc.1
  exact List.eq_nil_of_length_eq_zero (by simpa using this.symm)
 | c::r,a,vs,h,hc=>by
  cases vs with
  | nil=>have:=hc.1;simp at this
  | cons v vs =>
   cases c with
   | int k n =>
    cases k<;>simp only[I1]at h<;>first|cases h|skip
    cases hr:I1 r with
    | none=>rw[hr]at h;cases h
    | some b =>
     rw[hr]at h;simp only[Option.map_some,Option.some.injEq]at h;subst h;have h0:=IH (.ca (.one (hc.2 0 _ v rfl rfl)));have ih:=yM (vs:=vs) hr ⟨by have:=hc.1;simpa using this,λ j c v h1 h2=>hc.2 (j+1) c v h1 h2⟩;rw[h0,ih];rfl
   | _=>simp only[I1]at h;cases h
theorem Aj0 (hm:BQ B S w0 m) (hs:CT B S m ρ a.eval) {ne:Bool} {n:Nat} {x' y':AP} (h:BG P num o.op (.wk ne n x' y')=true) {cs ds:List AV} (hx:ρ x' = .agg cs) (hy:ρ y' = .agg ds) {p q:List Int} (hp:I1 cs=some p) (hq:I1 ds=some q) (hn:p.length=n/\q.length=n) :
  CY B S w0 P o a m (.val (.bool (if ne then !(decide (p=q)) else decide (p=q)))):=by
 obtain ⟨t,x,y,u,s8,ik,h1,h2⟩:=Anr h;obtain ⟨vx,ex,cx⟩:=qJ (hx ▸ hs x x' h1);obtain ⟨vy,ey,cy⟩:=qJ (hy ▸ hs y y' h2);obtain rfl:=yM hp cx;obtain rfl:=yM hq cy;obtain ⟨rfl,Jo⟩:=hn;simp only[xR,Bool.and_eq_true,Bool.not_eq_true']at ik;obtain ⟨⟨hf,o9⟩,hg⟩:=ik;obtain ⟨fs,hu,il⟩ : ∃ fs,P.underlying t=some (.struct fs)/\fieldsI P 0 fs.toList p.length=true:=by
  split at hf
  ·exact ⟨_,by assumption,hf⟩
  ·cases hf
 have hfo:P.fieldsOf t=fs:=by simp [Program.fieldsOf,hu]
 have hr:=run_equalIn_struct m.w 9999 t (p.map (Value.int .i64)).toArray (q.map (Value.int .i64)).toArray (by rw[hfo];exact hu) o9;rw[hfo,AfA 9998 p q m.w il Jo,List.drop_zero,List.drop_zero]at hr;refine EH hm (u := .bool (if ne then !(decide (p=q)) else decide (p=q))) ?_ (nH _);cases ne
 ·simp [execOp,s8,ex,ey,run_eqGuard_agg m.w _ t x y _ _ hg,run_eql_struct,hr]
 ·simp [execOp,s8,ex,ey,run_eqGuard_agg m.w _ t x y _ _ hg,run_neq_struct,hr]
theorem AkX (hm:BQ B S w0 m) (hs:CT B S m ρ a.eval) {f:UnOp} {x':AP} (h:BG P num o.op (.un f x')=true) {v:AV} (hv:fQ f (ρ x')=some v):CY B S w0 P o a m (.val v):=by
 obtain ⟨t,x,s8,h1⟩:=AnV h;have hx:=hs x x' h1;unfold fQ at hv;split at hv
 ·rename_i k n hk
  have ex:=IH (hk ▸ hx);split at hv
  ·obtain rfl:_=v:=by simpa using hv
   exact EH hm (by simp [execOp,s8,ex,Op.unary,Op.intArith]) (dG _ _)
  ·obtain rfl:_=v:=by simpa using hv
   exact EH hm (by simp only[execOp,s8,ex,Op.unary];rfl) (dG _ _)
  ·cases hv
 ·rename_i b hk
  have ex:=gK (hk ▸ hx);split at hv
  ·obtain rfl:_=v:=by simpa using hv
   exact EH hm (by simp [execOp,s8,ex,Op.unary]) (nH _)
  ·cases hv
 ·cases hv
theorem Akh (hm:BQ B S w0 m) (hs:CT B S m ρ a.eval) {k:IntKind} {x':AP} (h:BG P num o.op (.conv k x')=true) {k':IntKind} {n:Int} (hx:ρ x' = .int k' n):CY B S w0 P o a m (.val (.int k (k.wrap n))):=by
 obtain ⟨s,d,x,ds,s8,Ew,hd,h1⟩:=AnE h;have ex:=IH (hx ▸ hs x x' h1);refine EH hm (u := .int k (k.wrap n)) ?_ (dG _ _);simp [execOp,s8,ex,convert,run_underlying Ew,run_underlying hd,Conv.intToInt]
theorem ApA (t:TypeId) (a:Option Addr) (n c:Nat) {e:TypeId} (hu:P.underlying t=some (.slice e)) (w:World):(Op.equal t (.slice a n c) (.slice none 0 0)).run P w = .ok a.isNone w:=by
 have h : ∀ d:Nat,(Op.equalIn (d+1) t (.slice a n c) (.slice none 0 0)).run P w = .ok a.isNone w:=λ d=>by
  unfold Op.equalIn;rw[Sem.run_bind,run_underlying hu];cases a<;>rfl
 exact h 9999
theorem Apy (f:BinOp) (t:TypeId) (x y:Operand) (a b:Option Addr) (n c n' c':Nat) (w:World):(eqGuard f t x y (.slice a n c) (.slice b n' c')).run P w = .ok () w:=by
 unfold eqGuard;cases f<;>simp
theorem qS (hm:BQ B S w0 m) (hs:CT B S m ρ a.eval) {ne:Bool} {x':AP} (h:BG P num o.op (.xm ne x')=true) {b:Bool} (hx : ∀ v,CV B S m (ρ x') v -> ∃ ad n c,v = .slice ad n c/\ad.isNone=b) :
  CY B S w0 P o a m (.val (.bool (xor b ne))):=by
 obtain ⟨t,x,u,e,s8,hu,h1⟩:=AnH h;obtain ⟨ad,n,c,ex,hb⟩:=hx _ (hs x x' h1);refine EH hm (u := .bool (xor b ne)) ?_ (nH _);have e0:a.eval (.const (.slice none 0 0)) = .slice none 0 0:=rfl;cases ne<;>cases b<;>simp [execOp,s8,ex,e0,Apy,binOp,ApA t ad n c hu,hb]
theorem eA {v:Value} (h:CV B S m .nil v):v = .slice none 0 0:=by
 cases h with
 | ca h=>cases h with
  | one h=>cases h with
   | rd h=>cases h
   | nil=>rfl
theorem Vm {b:Bool} {v:Value} (h:CV B S m (.ib (.bool b)) v) : ∃ ad c,v = .slice ad 0 c/\ad.isNone=b:=by
 cases h with
 | ca h=>cases h with
  | one h=>cases h with
   | rd h=>cases h with
    | emp b a cap h=>exact ⟨a,cap,rfl,h⟩
theorem AjD {l:Bool} {e:List AV} {es:List (List AV)} {v:Value} (h:CV B S m (.sl l (e::es)) v) : ∃ ad n c,v = .slice ad n c/\ad.isNone=false:=by
 cases h with
 | ca h=>cases h with
  | one h=>cases h with
   | rd h=>cases h with
    | sl=>exact ⟨_,_,_,rfl,rfl⟩
theorem AjC {s t z off n:Nat} {v:Value} (h:CV B S m (.row s t z off (n+1)) v) : ∃ ad n c,v = .slice ad n c/\ad.isNone=false:=by
 cases h with
 | ca h=>cases h with
  | one h=>cases h with
   | rd h=>cases h
   | row _ _ _ _ _ a cap _ _ _ ha=>exact ⟨_,_,_,rfl,by have:=ha (by omega);cases a<;>simp_all⟩
theorem AkT (hm:BQ B S w0 m) (hs:CT B S m ρ a.eval) {tb:List Nat} {x':AP} (h:BG P num o.op (.lu tb x')=true) {k:IntKind} {n:Int} {v:Nat} (hx:ρ x' = .int k n) (h0:0<=n) (hv:tb[n.toNat]? = some v) :
  CY B S w0 P o a m (.val (.int .u8 v)):=by
 obtain ⟨t,s,i,s8,hu,Dk,h1⟩:=AnQ h;have ex:=IH (hx ▸ hs i x' h1);have hb : ∃ b:UInt8,s[n.toNat]? = some b/\b.toNat=v:=by
  rw[<-Dk,List.getElem?_map]at hv;cases hg:s.data.toList[n.toNat]? with
  | none=>simp [hg]at hv
  | some b =>
   simp only[hg,Option.map_some,Option.some.injEq]at hv;refine ⟨b,?_,hv⟩;have v9:n.toNat<s.size:=by
    have:=(zS hg).1
    simpa using this
   rw[getElem?_pos s n.toNat v9];congr 1;have:=(zS hg).2
   rw[<-this];rfl
 obtain ⟨b,xv,bn⟩:=hb;refine EH hm (u := .int .u8 v) ?_ (dG _ _);have e0:a.eval (.const (.string s)) = .string s:=rfl;simp [execOp,s8,ex,e0,Instr.index,asIntOf,run_underlying hu,h0,xv,bn]
theorem AoU {x c:AV} {v:Value} (h:CV B S m x v) (hc:G4 x=some c):CC B S m c v:=by
 cases h with
 | any=>simp [G4]at hc
 | m9=>simp [G4]at hc
 | ca h=>cases h with
  | agg=>simp [G4]at hc
  | fn=>simp [G4]at hc
  | xp=>simp [G4]at hc
  | one h =>
   have:c=x:=by
    cases h with
    | rd h=>cases h<;>simp [G4]at hc<;>exact hc.symm
    | _=>simp [G4]at hc;exact hc.symm
   subst this;exact h
theorem Yr (hs:CT B S m ρ a.eval) : ∀ {xs:List Operand} {ag:List AP} {cs:List AV},EI xs ag=true->ag.mapM (λ x=>G4 (ρ x))=some cs->CL B S m cs (xs.map a.eval)
 | [],[],cs,_,h=>by
  simp at h;subst h;exact ⟨rfl,λ j c v h=>by simp at h⟩
 | x::r,y::l,cs,h,hc=>by
  simp only[EI,Bool.and_eq_true]at h;simp only[List.mapM_cons,Option.bind_eq_bind,Option.pure_def]at hc;cases h1:G4 (ρ y) with
  | none=>simp [h1]at hc
  | some c =>
   cases h2:l.mapM (λ x=>G4 (ρ x)) with
   | none=>simp [h1,h2]at hc
   | some jq =>
    simp [h1,h2]at hc;subst hc;have ih:=Yr hs h.2 h2;refine ⟨by simpa using ih.1,λ j c' v hj hv => ?_⟩;cases j with
    | zero =>
     simp at hj hv;subst hj hv;exact AoU (hs x y h.1) h1
    | succ j=>exact ih.2 j c' v (by simpa using hj) (by simpa using hv)
 | [],_::_,_,h,_=>by simp [EI]at h
 | _::_,[],_,h,_=>by simp [EI]at h
theorem Akv (hm:BQ B S w0 m) (hs:CT B S m ρ a.eval) {p:Bool} {f:Nat} {ag:List AP} (h:BG P num o.op (.um p f ag)=true) {cs:List AV} (hc:ag.mapM (λ x=>G4 (ρ x))=some cs) :
  CY B S w0 P o a m (.val (.fn (p&&cs.isEmpty) f (num f) cs)):=by
 obtain ⟨first,xs,s8,rfl,he⟩:=AnM h;have z7:=Yr hs he hc;have kz:(xs.map a.eval)=(xs.toList.map a.eval).toArray:=by cases xs;simp
 refine EH hm (u := .func (.func (num f)) #[] (xs.toList.map a.eval).toArray) ?_ (.ca (.fn (p&&cs.isEmpty) f (num f) cs _ (λ h=>by simpa using (Bool.and_eq_true _ _ ▸ h:p=true/\cs.isEmpty=true).2) z7));simp [execOp,s8,Instr.makeFunc,kz]
end
end Go.e9

namespace Go.e9
open Go.RowKit
section
variable {B:Nat} {S:Nat->Prop} {w0:World} {m:M}
variable {P:Program} {num:Nat->Nat} {o:Oper} {a:Act} {ρ:AP->AV}
theorem jL {cs:List AV} {vs:List Value} (h:CL B S m cs vs) {j:Nat} {c:AV} (hj:cs[j]? = some c) : ∃ u,vs[j]? = some u/\CC B S m c u:=by
 have v9:j<cs.length:=(zS hj).1;have yy:j<vs.length:=by rw[<-h.1];exact v9
 exact ⟨vs[j],zE yy,h.2 j c _ hj (zE yy)⟩
theorem AoL {s:Nat} {b:ED} {w':World} {g:Nat}:CV B S ⟨n8 m s (some g),m.own.put s ((m.own s).new b),w'⟩ (.ptr s (m.own.n6 s) 0 0) (.pointer (some ⟨g,0,none⟩)):=by
 refine .ca (.one (.ptr s (m.own.n6 s) 0 0 ⟨g,0,none⟩ ?_ λ b' s9=>⟨g,?_,by simp⟩))
 ·show _<AH.n6 _ s
  rw[XN];simp
 ·simp [n8]
theorem Zv (hm:BQ B S w0 m) (s:Nat) (cs:List AV) (vs:Array Value) (e:TypeId) (hc:CL B S m cs vs.toList) (h:(execOp a.eval o).run P m.w = .ok (.value (.pointer (some ⟨m.w.heap.size,0,none⟩))) (m.w.alloc (.cells vs e))) :
  CY B S w0 P o a m (.new s ⟨cs.length,[cs]⟩ (λ t => .ptr s t 0 0)):=by
 intro K Q hK;obtain ⟨h1,h2⟩:=pQ hm s ⟨cs.length,[cs]⟩ vs e (by simp) (λ i jq hi j c hj=>by
  cases i with
  | zero =>
   obtain rfl:cs=jq:=by simpa using hi
   obtain ⟨u,hu,bq⟩:=jL hc hj;exact ⟨u,by simpa using hu,bq⟩
  | succ i=>simp at hi)
 exact cF h (hK _ ⟨n8 m s (some m.w.heap.size),m.own.put s ((m.own s).new ⟨cs.length,[cs]⟩),m.w.alloc (.cells vs e)⟩ rfl h1 h2 AoL)
theorem Aj7 (hm:BQ B S w0 m) (hs:CT B S m ρ a.eval) {s:Nat} {x':AP} (h:BG P num o.op (.box s x')=true) {cs:List AV} (hc:cellsOf (ρ x')=some cs) :
  CY B S w0 P o a m (.new s ⟨cs.length,[cs]⟩ (λ t => .ptr s t 0 0)):=by
 obtain ⟨t,x,s8,h1⟩:=Anw h;exact Zv hm s cs (a.eval x).cells t (qL (hs x x' h1) hc) (by simp [execOp,s8,Instr.box,newVar,newRow])
theorem Aj1 (hm:BQ B S w0 m) {s:Nat} {z:List AV} (h:BG P num o.op (.alloc s z)=true):CY B S w0 P o a m (.new s ⟨z.length,[z]⟩ (λ t => .ptr s t 0 0)):=by
 obtain ⟨t,s8,h1⟩:=Ans h;obtain ⟨i,v,hi,hz,he⟩:=Mm h1;exact Zv hm s z v.cells t (jR he) (by simp [execOp,s8,Instr.alloc,zeroValue,typeInfo,hi,hz,newVar,newRow])
theorem xV (off:Nat) : ∀ (vs:List Value) (k:Nat) (cells:Array Value),off+k+vs.length<=cells.size ->
  ((vs.zipIdx k).foldl (λ cs (x:Value × Nat)=>cs.setIfInBounds (off+x.2) x.1) cells).toList=cells.toList.take (off+k)++vs++cells.toList.drop (off+k+vs.length)
 | [],k,cells,_=>by simp
 | v::r,k,cells,h=>by
  simp only[List.length_cons]at h;rw[List.zipIdx_cons,List.foldl_cons,xV off r (k+1) _ (by simp;omega)];simp only[Array.toList_setIfInBounds,List.length_cons];apply List.ext_getElem?;intro q;have e1:(cells.toList.set (off+k) v).drop (off+(k+1)+r.length)=cells.toList.drop (off+k+(r.length+1)):=by
   rw[show off+(k+1)+r.length=off+k+(r.length+1) by omega];exact List.drop_set_of_lt (by omega)
  have e2:(cells.toList.set (off+k) v).take (off+(k+1))=cells.toList.take (off+k)++[v]:=by
   rw[show off+(k+1)=off+k+1 by omega,List.take_succ_eq_append_getElem (by simp;omega)];simp [List.take_set_of_le]
  rw[e1,e2];simp
theorem xL (place:Nat->Option (Nat × Nat)) (hs:CT B S m ρ a.eval) : ∀ (ps:List (Nat × Operand)) (jo:List (Nat × Nat × AP)) (cs jq:List AV) (vs:Array Value),iF place ps jo=true->CL B S m cs vs.toList ->
  fill cs (jo.map λ p=>(p.1,p.2.1,ρ p.2.2))=some jq -> ∃ fy,Instr.fill place vs (ps.map λ p=>(p.1,a.eval p.2))=some fy/\CL B S m jq fy.toList
 | [],[],cs,jq,vs,_,hc,hf=>by
  simp [fill]at hf;subst hf;exact ⟨vs,rfl,hc⟩
 | (i,x)::r,(off,n,y)::l,cs,jq,vs,hp,hc,hf=>by
  simp only[iF,Bool.and_eq_true,beq_iff_eq]at hp;obtain ⟨⟨Sg,Gt⟩,hp3⟩:=hp;simp only[List.map_cons,fill]at hf;cases hcell:cellsOf (ρ y) with
  | none=>simp [hcell]at hf
  | some us =>
   simp only[hcell]at hf;split at hf
   ·rename_i hn
    obtain ⟨hn1,Ls⟩:=hn;have kj:=qL (hs x y Gt) hcell;have da:(a.eval x).cells.size=n:=by rw[<-hn1,kj.1];simp
    have Fi:off+(a.eval x).cells.size<=vs.size:=by rw[da];have:=hc.1;simp at this;omega
    have yv:=xV off (a.eval x).cells.toList 0 vs (by simpa using Fi);have wc:Instr.fill place vs (((i,x)::r).map λ p=>(p.1,a.eval p.2))=Instr.fill place ((a.eval x).cells.zipIdx.foldl (λ cs (c,j)=>cs.setIfInBounds (off+j) c) vs) (r.map λ p=>(p.1,a.eval p.2)):=by
     simp only[List.map_cons,Instr.fill,Sg];rw[if_neg (by simp;omega)]
    rw[wc];refine xL place hs r l (splice cs off us) jq _ hp3 ?_ hf;have hz:((a.eval x).cells.zipIdx.foldl (λ cs (c,j)=>cs.setIfInBounds (off+j) c) vs).toList=vs.toList.take off++(a.eval x).cells.toList++vs.toList.drop (off+(a.eval x).cells.toList.length):=by
     rw[<-Array.foldl_toList];simpa using yv
    rw[hz];unfold splice;refine ⟨?_,λ j c v hj hv => ?_⟩
    ·have:=hc.1;have:=kj.1;simp at *;omega
    ·have oo:=hc.1
     have ma:=kj.1;simp only[Array.length_toList]at oo ma;rw[List.getElem?_append]at hj hv;simp only[List.length_append,List.length_take,Array.length_toList]at hj hv;rw[List.getElem?_append]at hj hv;simp only[List.length_take,Array.length_toList]at hj hv;have pj:min off cs.length=off:=by omega
     have np:min off vs.size=off:=by omega
     rw[pj]at hj;rw[np]at hv;rw[<-ma]at hv;split at hj
     ·rename_i h1
      rw[if_pos h1]at hv;split at hj
      ·rename_i h2
       rw[if_pos h2]at hv;rw[List.getElem?_take]at hj hv;rw[if_pos h2]at hj hv;exact hc.2 j c v hj hv
      ·rename_i h2
       rw[if_neg h2]at hv;exact kj.2 _ c v hj hv
     ·rename_i h1
      rw[if_neg h1]at hv;rw[List.getElem?_drop]at hj hv;exact hc.2 _ c v hj hv
   ·cases hf
 | [],_::_,_,_,_,hp,_,_=>by simp [iF]at hp
 | _::_,[],_,_,_,hp,_,_=>by simp [iF]at hp
theorem Aj9 (hm:BQ B S w0 m) (hs:CT B S m ρ a.eval) {z:List AV} {jo:List (Nat × Nat × AP)} (h:BG P num o.op (.build z jo)=true) {cs:List AV} (hf:fill z (jo.map λ p=>(p.1,p.2.1,ρ p.2.2))=some cs) :
  CY B S w0 P o a m (.val (.agg cs)):=by
 obtain ⟨t,ps,s8,h1,h2⟩:=Any h;obtain ⟨i,v,hi,hz,he⟩:=Mm h1;have key : ∃ fy,P.built t (ps.map λ p=>(p.1,a.eval p.2)).toList=some fy/\CL B S m cs fy.toList:=by
  unfold uX at h2;unfold Program.built;split at h2
  ·rename_i fs hu
   split at h2
   ·rename_i places hp
    obtain ⟨fy,h3,h4⟩:=xL _ hs ps.toList jo z cs v.cells h2 (jR he) hf;refine ⟨fy,?_,h4⟩;simp only[hi,hu,hz,hp,Array.toList_map];exact h3
   ·cases h2
  ·rename_i n e hu
   split at h2
   ·rename_i ie Rr
    obtain ⟨fy,h3,h4⟩:=xL _ hs ps.toList jo z cs v.cells h2 (jR he) hf;refine ⟨fy,?_,h4⟩;simp only[hi,hu,hz,Rr,Array.toList_map];exact h3
   ·cases h2
  ·cases h2
 obtain ⟨fy,h3,h4⟩:=key;refine EH hm (u := .agg fy) ?_ (.ca (by simpa using CA.agg cs fy.toList h4));simp only[execOp,s8,Sem.run_bind];rw[run_build m.w t _ fy h3];rfl
theorem Adq (size:Nat) (hs:CT B S m ρ a.eval) : ∀ (ps:List (Nat × Operand)) (jo:List AP) (k:Nat) (es:List (List AV)) (vs:Array Value),gO k ps jo=true->jo.mapM (λ x=>cellsOf (ρ x))=some es->(∀ e∈es,e.length=size)->vs.size=(k+jo.length)*size ->
  ∃ fy,Instr.fill (λ i=>some (i*size,size)) vs (ps.map λ p=>(p.1,a.eval p.2))=some fy/\fy.size=vs.size/\(∀ q,q<k*size->fy[q]? = vs[q]?) /\ ∀ i cs,es[i]? = some cs -> ∀ j c,cs[j]? = some c -> ∃ u,fy[(k+i)*size+j]? = some u/\CC B S m c u
 | [],[],k,es,vs,_,ni,_,_=>by
  simp at ni;subst ni;exact ⟨vs,rfl,rfl,λ_ _=>rfl,λ i cs hi=>by simp at hi⟩
 | (i,x)::r,y::l,k,es,vs,he,ni,hz,hv=>by
  simp only[gO,Bool.and_eq_true,beq_iff_eq]at he;obtain ⟨⟨rfl,h1⟩,h2⟩:=he;simp only[List.mapM_cons,Option.bind_eq_bind,Option.pure_def]at ni;cases hcell:cellsOf (ρ y) with
  | none=>simp [hcell]at ni
  | some us =>
   cases je:l.mapM (λ x=>cellsOf (ρ x)) with
   | none=>simp [hcell,je]at ni
   | some es' =>
    simp [hcell,je]at ni;subst ni;have kj:=qL (hs x y h1) hcell;have hus:us.length=size:=hz us (by simp);have da:(a.eval x).cells.size=size:=by rw[<-hus,kj.1];simp
    simp only[List.length_cons]at hv;have hle:i*size+size<=vs.size:=by rw[hv,show i+(l.length+1)=i+1+l.length by omega,Nat.add_mul,Nat.add_mul];omega
    have yv:=xV (i*size) (a.eval x).cells.toList 0 vs (by simp [da];omega);generalize Kf:(a.eval x).cells.zipIdx.foldl (λ cs (c,j)=>cs.setIfInBounds (i*size+j) c) vs=Hg;have mq:Hg.toList=vs.toList.take (i*size)++(a.eval x).cells.toList++vs.toList.drop (i*size+size):=by
     rw[<-Kf,<-Array.foldl_toList];simpa [da] using yv
    have Gw:Hg.size=vs.size:=by
     have:=congrArg List.length mq
     simp [da]at this;omega
    obtain ⟨fy,h3,h4,h5,h6⟩:=Adq size hs r l (i+1) es' Hg h2 je (λ e he=>hz e (by simp [he])) (by rw[Gw,hv];congr 1;omega);refine ⟨fy,?_,h4.trans Gw,λ q hq => ?_,λ i' cs ay j c hj => ?_⟩
    ·simp only[List.map_cons,Instr.fill]
     rw[if_neg (by simp [da];omega),Kf];exact h3
    ·rw[h5 q (by rw[Nat.add_mul];omega)]
     have:Hg.toList[q]? = vs.toList[q]? := by
      rw[mq,List.append_assoc,List.getElem?_append_left (by simp;omega),List.getElem?_take,if_pos hq]
     simpa using this
    ·cases i' with
     | zero =>
      obtain rfl:us=cs:=by simpa using ay
      obtain ⟨u,hu,bq⟩:=jL kj hj;have iq:j<size:=by rw[<-hus];exact (zS hj).1
      refine ⟨u,?_,bq⟩;rw[Nat.add_zero,h5 _ (by rw[Nat.add_mul];omega)];have:Hg.toList[i*size+j]? = some u:=by
       rw[mq,List.append_assoc,List.getElem?_append_right (by simp;omega)];simp only[List.length_take,Array.length_toList,show min (i*size) vs.size=i*size by omega,show i*size+j-i*size=j by omega];rw[List.getElem?_append_left (by simp [da];omega)];exact hu
      simpa using this
     | succ i' =>
      obtain ⟨u,hu,bq⟩:=h6 i' cs (by simpa using ay) j c hj;exact ⟨u,by rw[show i+(i'+1)=i+1+i' by omega];exact hu,bq⟩
 | [],_::_,_,_,_,he,_,_,_=>by simp [gO]at he
 | _::_,[],_,_,_,he,_,_,_=>by simp [gO]at he
theorem zN {s z n cap:Nat} {es:List (List AV)} {w':World} {g:Nat} {arr:Array Value} {e:TypeId} (hz:0<z) (hn:n<=cap) (hg:w'.heap[g]? = some (.cells arr e (0,0))) (hc:cap*z<=arr.size) :
  CV B S ⟨n8 m s (some g),m.own.put s ((m.own s).new ⟨z,es⟩),w'⟩ (.row s (m.own.n6 s) z 0 n) (.slice (some ⟨g,0,none⟩) n cap):=by
 refine .ca (.one (.row s (m.own.n6 s) z 0 n _ cap ?_ hz hn (λ_=>rfl) λ b' s9=>⟨?_,.inr ⟨g,arr,e,?_,by simp,hg,by simpa using hc⟩⟩))
 ·show _<AH.n6 _ s
  rw[XN];simp
 ·change AH.get _ s _=some b' at s9
  rw[GJ,if_pos ⟨rfl,rfl⟩]at s9;obtain rfl:(⟨z,es⟩:ED)=b':=by simpa using s9
  rfl
 ·simp [n8]
theorem Acu (hm:BQ B S w0 m) (s z n cap:Nat) (es:List (List AV)) (vs:Array Value) (e:TypeId) (ja:0<z) (hn:n<=cap) (da:cap*z<=vs.size) (hz : ∀ x∈es,x.length=z)
  (hc : ∀ i cs,es[i]? = some cs -> ∀ j c,cs[j]? = some c -> ∃ u,vs[i*z+j]? = some u/\CC B S m c u)
  (h:(execOp a.eval o).run P m.w = .ok (.value (.slice (some ⟨m.w.heap.size,0,none⟩) n cap)) (m.w.alloc (.cells vs e))) :
  CY B S w0 P o a m (.new s ⟨z,es⟩ (λ t => .row s t z 0 n)):=by
 intro K Q hK;obtain ⟨h1,h2⟩:=pQ hm s ⟨z,es⟩ vs e hz hc;exact cF h (hK _ ⟨n8 m s (some m.w.heap.size),m.own.put s ((m.own s).new ⟨z,es⟩),m.w.alloc (.cells vs e)⟩ rfl h1 h2 (zN ja hn (heap_alloc_new _ _) da))
theorem Aj8 (hm:BQ B S w0 m) (hs:CT B S m ρ a.eval) {s c7:Nat} {jo:List AP} (h:BG P num o.op (.m4 s c7 jo)=true) {es:List (List AV)} (ni:jo.mapM (λ x=>cellsOf (ρ x))=some es) (hz : ∀ e∈es,e.length=c7) :
  CY B S w0 P o a m (.new s ⟨c7,es⟩ (λ t => .row s t c7 0 es.length)):=by
 obtain ⟨t,n,ps,e,i,s8,hu,hi,da,h0,hn,Tb,jr,hzero⟩:=Anx h;have hlen:es.length=n:=by
  rw[hn];clear h jr hzero hn;induction jo generalizing es with
  | nil=>simp at ni;subst ni;rfl
  | cons y l ih =>
   simp only[List.mapM_cons,Option.bind_eq_bind,Option.pure_def]at ni;cases hcell:cellsOf (ρ y) with
   | none=>simp [hcell]at ni
   | some us =>
    cases je:l.mapM (λ x=>cellsOf (ρ x)) with
    | none=>simp [hcell,je]at ni
    | some es' =>
     simp [hcell,je]at ni;subst ni;simp [ih je (λ e he=>hz e (by simp [he]))]
 obtain ⟨zc,Du⟩ : ∃ zc:Array Value,(n*c7=0/\zc = #[])\/(¬ n*c7=0 /\ ∃ z,i.zero=some z/\zc=z.cells):=by
  by_cases u7:n*c7=0
  ·exact ⟨#[],.inl ⟨u7,rfl⟩⟩
  ·rcases hzero with Ba|⟨z,mq,wg⟩
   ·simp [Ba]at u7
   ·exact ⟨z.cells,.inr ⟨u7,z,mq,rfl⟩⟩
 have Kk:((Array.range (n*c7)).map (zc[· % zc.size]!)).size=n*c7:=by simp
 obtain ⟨fy,h3,h4,_,h6⟩:=Adq c7 hs ps.toList jo 0 es _ jr ni hz (by rw[Kk,hn];simp);have bf:(execOp a.eval o).run P m.w = .ok (.value (.slice (some ⟨m.w.heap.size,0,none⟩) n n)) (m.w.alloc (.cells fy e)):=by
  simp only[execOp,s8,Instr.buildSlice,Sem.run_bind,run_underlying hu,Result.andThen_ok,sizeOf,typeInfo,run_program,hi,Sem.run_pure,da];simp only[show ¬ (n*c7>2^24) from by omega,if_false,Sem.run_bind,Sem.run_pure,Result.andThen_ok];rcases Du with ⟨Ba,rfl⟩|⟨Ba,z,mq,rfl⟩
  ·simp only[Ba,if_true,Sem.run_bind,Sem.run_pure,Result.andThen_ok,Array.toList_map]
   rw[Ba]at h3;rw[h3];rfl
  ·simp only[Ba,if_false,Sem.run_bind,Sem.run_pure,Result.andThen_ok,Array.toList_map,zeroValue,typeInfo,run_program,hi,mq]
   rw[h3];rfl
 rw[hlen];exact Acu hm s c7 n n es fy e (Nat.pos_of_ne_zero h0) (Nat.le_refl _) (by rw[h4,Kk];exact Nat.le_refl _) hz (λ i cs ay j c hj=>by simpa using h6 i cs ay j c hj) bf
end
end Go.e9
