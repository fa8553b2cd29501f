/-
  The abstract machine: data without memory. AV: a value; slices that are only read are lists ('sl'), rows and boxes of the call's own are named by a site and a stamp.
  Nothing here speaks of a program; EngSound ties it to the model.
-/
import Derived.Calls
import Derived.Below
import Derived.Laws.CopyRow
import Derived.Laws.Cells
import Derived.Laws.MakeOwn
import Derived.Laws.AppendOwn
import Derived.Deep.AppendSrc
import Derived.Deep.Draws
import Derived.ArgAppend
import Derived.Maps.Own
import Derived.Maps.OwnSet
set_option linter.unusedSimpArgs false
set_option linter.unusedVariables false
set_option linter.unnecessarySimpa false
namespace Go.Eng
inductive AV where
 | int (k:IntKind) (n:Int)
 | bool (b:Bool)
 | sl (l:Bool) (es:List (List AV))
 | row (s t z off len:Nat)
 | nil
 | ptr (s t i j:Nat)
 | dptr (cs:List AV)
 | agg (cs:List AV)
 | tup (vs:List AV)
 | con (v:Value)
 | fn (p:Bool) (f g:Nat) (cs:List AV)
 | any
 | mp (s t:Nat)
 deriving Inhabited
inductive Opd where
 | t (n:Nat)
 | c (v:AV)
 deriving Inhabited
structure Blk where
 esz:Nat
 es:List (List AV)
abbrev mapLo:Nat:=960000
structure Site where
 cnt:Nat
 blk:Nat→Option Blk
def Own:=Nat→Site
def Own.emp:Own:=fun _=>⟨0,fun _=>none⟩
def Own.put (o:Own) (s:Nat) (x:Site):Own:=fun s'=>if s'=s then x else o s'
def Own.get (o:Own) (s t:Nat):Option Blk:=(o s).blk t
def Own.cnt (o:Own) (s:Nat):Nat:=(o s).cnt
def Site.upd (x:Site) (t:Nat) (b:Option Blk):Site:=⟨x.cnt,fun t'=>if t'=t then b else x.blk t'⟩
def Site.new (x:Site) (b:Blk):Site:=⟨x.cnt+1,fun t'=>if t'=x.cnt then some b else x.blk t'⟩
def Site.lost (x:Site):Site:=⟨x.cnt+1,fun t'=>if t'=x.cnt then none else x.blk t'⟩
theorem Own.put_same (o:Own) (s:Nat) (x:Site):o.put s x s=x:=by simp [Own.put]
theorem Own.put_ne (o:Own) (s s':Nat) (x:Site) (h:s'≠s):o.put s x s'=o s':=by simp [Own.put,h]
theorem Own.put_put (o:Own) (s:Nat) (x y:Site):(o.put s x).put s y=o.put s y:=by
 funext s';by_cases h:s'=s<;>simp [Own.put,h]
inductive AOp where
 | mov (x:Opd)
 | vrow (s esz:Nat)
 | pick (c a b:Opd)
 | bin (op:BinOp) (x y:Opd)
 | beq (ne:Bool) (x y:Opd)
 | un (op:UnOp) (x:Opd)
 | conv (k:IntKind) (x:Opd)
 | box (s:Nat) (x:Opd)
 | alloc (s:Nat) (zero:List AV)
 | build (zero:List AV) (parts:List (Nat × Nat × Opd))
 | bslice (s esz:Nat) (parts:List Opd)
 | fadr (x:Opd) (off:Nat)
 | fld (x:Opd) (off n:Nat) (agg:Bool)
 | iadr (arr:Option Nat) (esz:Nat) (x i:Opd)
 | ld (agg:Bool) (n:Nat) (x:Opd)
 | st (n:Nat) (x v:Opd)
 | mk (s esz bytes:Nat) (zero:List AV) (l c:Opd)
 | slc (esz:Nat) (x:Opd) (lo hi:Option Opd)
 | ext (x:Opd) (i:Nat)
 | len (x:Opd)
 | mm (max:Bool) (xs:List Opd)
 | app (s esz bytes:Nat) (x y:Opd)
 | call (f:Nat) (xs:List Opd)
 | calli (f:Nat) (xs:List Opd)
 | callv (x:Opd) (xs:List Opd)
 | callq (f:Nat) (xs:List Opd)
 | callr (s f:Nat) (xs:List Opd)
 | appo (s esz bytes:Nat) (x y:Opd)
 | cals (s f:Nat) (xs:List Opd)
 | bad
 | nck (x:Opd)
 | mkm (s:Nat)
 | mlk (x k:Opd)
 | mup (x k v:Opd)
 | apf (esz bytes:Nat) (x y:Opd)
 | srt (fs f esz:Nat) (x c:Opd)
 deriving Inhabited
structure AI where
 dst:Option Nat
 op:AOp
 guard:Option (Nat × Bool):=none
 ban:List Nat:=[]
 deriving Inhabited
inductive ACode where
 | skip
 | ops (l:List AI) (draw:Bool)
 | dr (c:ACode) (ts ss:List Nat)
 | scope (c:ACode)
 | seq (a b:ACode)
 | cond (c:Opd) (a b:ACode)
 | block (id:Nat) (c:ACode)
 | loop (c:ACode)
 | exit (id:Nat)
 | ret
 deriving Inhabited
inductive ARes where
 | tmp (t:Nat)
 | cell (t:Nat) (agg:Bool) (n:Nat)
 deriving Inhabited
structure AFn where
 pars:Nat
 body:ACode
 res:List ARes
 spl:Bool
abbrev Tm:=List (Nat × AV)
def tget:Tm→Nat→AV
 | [],_ => .any
 | (i,v)::r,j=>if j=i then v else tget r j
def tput:Tm→Nat→AV→Tm
 | [],j,u=>[(j,u)]
 | (i,v)::r,j,u=>if j=i then (i,u)::r else if j<i then (j,u)::(i,v)::r else (i,v)::tput r j u
def tdrop:Tm→List Nat→Tm
 | [],_=>[]
 | (i,v)::r,l=>if l.contains i then tdrop r l else (i,v)::tdrop r l
theorem tget_tput (m:Tm) (i:Nat) (v:AV) (j:Nat):tget (tput m i v) j=if j=i then v else tget m j:=by
 induction m with
 | nil=>by_cases h:j=i<;>simp [tput,tget,h]
 | cons x r ih =>
  obtain ⟨a,u⟩:=x;by_cases h:i=a
  ·subst h
   by_cases h2:j=i<;>simp [tput,tget,h2]
  ·by_cases hlt:i<a
   ·by_cases h2:j=i<;>simp [tput,tget,h,hlt,h2]
   ·by_cases h2:j=a
    ·subst h2
     have : ¬ j=i:=fun e=>h e.symm
     simp [tput,tget,h,hlt,this]
    ·simp [tput,tget,h,hlt,h2,ih]
structure St where
 tm:Tm
 own:Own
def St.ev (st:St):Opd→AV
 | .t n=>tget st.tm n
 | .c v=>v
inductive Eff where
 | val (v:AV)
 | new (s:Nat) (b:Blk) (v:Nat→AV)
 | vir (s:Nat) (b:Blk) (v:Nat→AV)
 | tur (v:AV) (own:Own)
 | upd (s:Nat) (x:Site)
 | upn (s:Nat) (x:Site) (v:AV)
 | tub (s:Nat) (v:AV) (own:Own)
def cellsOf:AV→Option (List AV)
 | .agg cs=>some cs
 | .fn _ _ _ _=>none
 | .tup _=>none
 | .any=>none
 | v=>some [v]
def ofCells (agg:Bool) (cs:List AV):Option AV :=
 if agg then some (.agg cs) else match cs with|[c]=>some c|_=>none
def part (cs:List AV) (off n:Nat):Option (List AV) :=
 if off+n≤cs.length then some ((cs.drop off).take n) else none
def splice (cs:List AV) (off:Nat) (vs:List AV):List AV:=cs.take off++vs++cs.drop (off+vs.length)
def fill (cells:List AV):List (Nat × Nat × AV)→Option (List AV)
 | []=>some cells
 | (off,n,v)::r=>match cellsOf v with
  | some vs=>if vs.length=n∧off+n≤cells.length then fill (splice cells off vs) r else none
  | none=>none
def intBin (op:BinOp) (k:IntKind) (a:Int) (k':IntKind) (b:Int):Option AV :=
 match op with
 | .shl=>if b<0 then none else some (.int k (k.wrap (a*2^(min b.toNat k.bits))))
 | .shr=>if b<0 then none else some (.int k (a.fdiv (2^(min b.toNat k.bits))))
 | .add=>if k=k' then some (.int k (k.wrap (a+b))) else none
 | .sub=>if k=k' then some (.int k (k.wrap (a-b))) else none
 | .mul=>if k=k' then some (.int k (k.wrap (a*b))) else none
 | .quo=>if k=k'∧b≠0 then some (.int k (k.wrap (a.tdiv b))) else none
 | .rem=>if k=k'∧b≠0 then some (.int k (a.tmod b)) else none
 | .and=>if k=k' then some (.int k (k.wrap (BitVec.ofInt k.bits a &&& BitVec.ofInt k.bits b).toNat)) else none
 | .or=>if k=k' then some (.int k (k.wrap (BitVec.ofInt k.bits a ||| BitVec.ofInt k.bits b).toNat)) else none
 | .xor=>if k=k' then some (.int k (k.wrap (BitVec.ofInt k.bits a ^^^ BitVec.ofInt k.bits b).toNat)) else none
 | .andNot=>if k=k' then some (.int k (k.wrap (BitVec.ofInt k.bits a &&& ~~~ BitVec.ofInt k.bits b).toNat)) else none
 | .eql=>if k=k' then some (.bool (a == b)) else none
 | .neq=>if k=k' then some (.bool (a != b)) else none
 | .lss=>if k=k' then some (.bool (decide (a<b))) else none
 | .leq=>if k=k' then some (.bool (decide (a≤b))) else none
 | .gtr=>if k=k' then some (.bool (decide (a>b))) else none
 | .geq=>if k=k' then some (.bool (decide (a≥b))) else none
def unA (op:UnOp):AV→Option AV
 | .int k n=>match op with
  | .neg=>some (.int k (k.wrap (0-n)))
  | .xor=>some (.int k (k.wrap (BitVec.ofInt k.bits (if k.signed then -1 else k.max) ^^^ BitVec.ofInt k.bits n).toNat))
  | _=>none
 | .bool b=>match op with
  | .not=>some (.bool (!b))
  | _=>none
 | _=>none
def mm2 (max:Bool):AV→AV→Option AV
 | .int k a,.int _ b=>some (.int k (if max then (if b>a then b else a) else (if b<a then b else a)))
 | _,_=>none
def mmL (max:Bool):AV→List AV→Option AV
 | v,[]=>some v
 | v,u::r=>match mm2 max v u with|some x=>mmL max x r|none=>none
def Own.hide (o:Own):List Nat→Own
 | []=>o
 | s::r=>fun s'=>if s'=s then ⟨0,fun _=>none⟩ else o.hide r s'
def Own.ldp (own:Own) (s t i j n:Nat):Option (List AV) :=
 match own.get s t with
 | some b=>match b.es[i]? with
  | some cs=>part cs j n
  | none=>none
 | none=>none
def Own.stp (own:Own) (s t i j:Nat) (vs:List AV):Option Own :=
 match own.get s t with
 | some b=>match b.es[i]? with
  | some cs=>if j+vs.length≤cs.length then some (own.put s ((own s).upd t (some ⟨b.esz,b.es.set i (splice cs j vs)⟩))) else none
  | none=>none
 | none=>none
def elemsOf (own:Own):AV→Option (List (List AV))
 | .sl _ es=>some es
 | .nil=>some []
 | .con (.bool _)=>some []
 | .row s t z off len=>match own.get s t with
  | some b=>if off+len≤b.es.length∧b.esz=z then some ((b.es.drop off).take len) else none
  | none=>none
 | _=>none
def lenOf:AV→Option Nat
 | .sl _ es=>some es.length
 | .nil=>some 0
 | .row _ _ _ _ len=>some len
 | _=>none
def snap (own:Own) (l:Bool):Nat→AV→Option AV
 | _,.int k n=>some (.int k n)
 | _,.bool b=>some (.bool b)
 | _,.sl l' es=>some (.sl l' es)
 | _,.nil=>some (.sl false [])
 | _,.con v=>some (.con v)
 | d+1,.row s t z off len=>match elemsOf own (.row s t z off len) with
  | some es=>(es.mapM (fun cs:List AV=>cs.mapM (snap own l d))).map (AV.sl l)
  | none=>none
 | _,_=>none
def snapA (own:Own) (l:Bool):AV→Option AV
 | .agg cs=>(cs.mapM (snap own l 6)).map AV.agg
 | v=>snap own l 6 v
def snapN (own:Own) (l:Bool):AV→Option AV
 | .nil=>some .nil
 | v=>snapA own l v
def snapR (own:Own) (l:Bool):AV→Option AV
 | .tup cs=>(cs.mapM (snapA own l)).map AV.tup
 | v=>snapA own l v
mutual
def Clean:AV→Prop
 | .int _ _=>True
 | .bool _=>True
 | .con _=>True
 | .sl l es=>l=false∧CleanLL es
 | .agg cs=>CleanL cs
 | .tup cs=>CleanL cs
 | _=>False
def CleanL:List AV→Prop
 | []=>True
 | c::r=>Clean c∧CleanL r
def CleanLL:List (List AV)→Prop
 | []=>True
 | c::r=>CleanL c∧CleanLL r
end
def roomMax:Nat:=140737488355328
structure Cl where
 pure:Nat→List AV→Option AV
 inn:Nat→List AV→Own→Option (AV × Own)
 num:Nat→Nat
 cmp:Nat→List AV→Option AV
 srts:Nat→Option Nat
structure SrtIs (cmp:Nat→List AV→Option AV) (f:Nat) (es es':List (List AV)):Prop where
 perm:es'.Perm es
 cln:CleanLL es
 ord : ∀ (i j:Nat) (x y:List AV),es'[i]? = some x→es'[j]? = some y → ∃ r:Int,cmp f [.agg x,.agg y]=some (.int .i64 r)∧(r<0↔i<j)
theorem SrtIs.uniq {cmp:Nat→List AV→Option AV} {f:Nat} {es a b:List (List AV)} (ha:SrtIs cmp f es a) (hb:SrtIs cmp f es b):a=b:=by
 have pw : ∀ {l:List (List AV)},SrtIs cmp f es l→l.Pairwise fun x y => ∃ r:Int,cmp f [.agg x,.agg y]=some (.int .i64 r)∧r<0:=fun {l} h=>by
  rw[List.pairwise_iff_getElem];intro i j hi hj hij;obtain ⟨r,h1,h2⟩:=h.ord i j _ _ (List.getElem?_eq_getElem hi) (List.getElem?_eq_getElem hj);exact ⟨r,h1,h2.2 hij⟩
 refine List.Perm.eq_of_pairwise (fun x y hx hy ⟨r,h1,h2⟩ ⟨q,h3,h4⟩ => ?_) (pw ha) (pw hb) (ha.perm.trans hb.perm.symm);obtain ⟨i,hi⟩:=List.getElem?_of_mem hx;obtain ⟨j,hj⟩:=List.getElem?_of_mem ((ha.perm.trans hb.perm.symm).mem_iff.2 hy);obtain ⟨r',g1,g2⟩:=ha.ord i j _ _ hi hj;obtain ⟨q',g3,g4⟩:=ha.ord j i _ _ hj hi;have e1:r=r':=by have:=h1.symm.trans g1;simpa using this
 have e2:q=q':=by have:=h3.symm.trans g3;simpa using this
 have:=g2.1 (e1 ▸ h2)
 have:=g4.1 (e2 ▸ h4)
 omega
open Classical in
noncomputable def srtE (cmp:Nat→List AV→Option AV) (f:Nat) (es:List (List AV)):Option (List (List AV)):=if h : ∃ es',SrtIs cmp f es es' then some h.choose else none
theorem srtE_iff {cmp:Nat→List AV→Option AV} {f:Nat} {es es':List (List AV)}:srtE cmp f es=some es'↔SrtIs cmp f es es':=by
 unfold srtE;constructor
 ·intro h
  split at h
  ·rename_i hx
   obtain rfl:=Option.some.inj h;exact hx.choose_spec
  ·cases h
 ·intro h
  rw[dif_pos ⟨es',h⟩];exact congrArg some ((Exists.choose_spec (⟨es',h⟩ : ∃ es',SrtIs cmp f es es')).uniq h)
noncomputable def calsE (C:Cl) (f:Nat) (vs:List AV) (s:Nat) (q:Site):Option (AV × Site) :=
 open Classical in if h : ∃ p : AV × Site, ∀ o : Own, o s = q → C.inn f vs o = some (p.1, o.put s p.2) then some h.choose else none
theorem calsE_iff {C:Cl} {f:Nat} {vs:List AV} {s:Nat} {q:Site} {p:AV × Site}:calsE C f vs s q=some p ↔ ∀ o:Own,o s=q→C.inn f vs o=some (p.1,o.put s p.2):=by
 unfold calsE;constructor
 ·intro h
  split at h
  ·rename_i hx
   obtain rfl:=Option.some.inj h;exact hx.choose_spec
  ·cases h
 ·intro h
  rw[dif_pos ⟨p,h⟩];have h1:=(⟨p,h⟩ : ∃ p:AV × Site,∀ o:Own,o s=q→C.inn f vs o=some (p.1,o.put s p.2)).choose_spec (fun _=>q) rfl;have h2:=h (fun _=>q) rfl;have h3:=Option.some.inj (h2.symm.trans h1);refine congrArg some ?_;generalize (Exists.choose _:AV × Site)=p' at h3;obtain ⟨a,b⟩:=p;obtain ⟨a',b'⟩:=p';simp only[Prod.mk.injEq]at h3;obtain ⟨h4,h5⟩:=h3;have h6:b=b':=by
   have:=congrFun h5 s
   simpa [Own.put] using this
  rw[h4,h6]
noncomputable def calbE (C:Cl) (f:Nat) (vs:List AV) (s:Nat) (own:Own):Option (AV × Own) :=
 open Classical in if h : ∃ p : AV × Own, ∀ o : Own, (∀ q, q ≠ s → o q = own q) → C.inn f vs o = some (p.1, p.2.put s (o s)) then some (h.choose.1, h.choose.2.put s ⟨0, fun _ => none⟩) else none
theorem calbE_spec {C:Cl} {f:Nat} {vs:List AV} {s:Nat} {own:Own} {p:AV × Own} (h:calbE C f vs s own=some p):p.2 s=⟨0,fun _=>none⟩ ∧ ∀ o:Own,(∀ q,q≠s→o q=own q)→C.inn f vs o=some (p.1,p.2.put s (o s)):=by
 unfold calbE at h;split at h
 ·rename_i hx
  obtain rfl:=Option.some.inj h;refine ⟨by simp [Own.put],fun o h2 => ?_⟩;rw[hx.choose_spec o h2];congr 2;funext q
  simp only[Own.put];split<;>rfl
 ·cases h
theorem calbE_iff {C:Cl} {f:Nat} {vs:List AV} {s:Nat} {own:Own} {p:AV × Own} (hp:p.2 s=⟨0,fun _=>none⟩) (h : ∀ o:Own,(∀ q,q≠s→o q=own q)→C.inn f vs o=some (p.1,p.2.put s (o s))):calbE C f vs s own=some p:=by
 have hex : ∃ p:AV × Own,∀ o:Own,(∀ q,q≠s→o q=own q)→C.inn f vs o=some (p.1,p.2.put s (o s)):=⟨p,h⟩;unfold calbE;rw[dif_pos hex];have h1:=hex.choose_spec own fun _ _=>rfl
 have h2:=h own fun _ _=>rfl
 have h3:=Option.some.inj (h2.symm.trans h1);simp only[Prod.mk.injEq]at h3;refine congrArg some (Prod.ext h3.1.symm ?_);funext q
 have h4:=congrFun h3.2 q;simp only[Own.put]at h4 ⊢;by_cases e:q=s
 ·subst e;simp [hp]
 ·simpa [e] using h4.symm
def unl1:AV→AV
 | .sl _ es => .sl false es
 | .nil => .sl false []
 | v=>v
def unl:AV→AV
 | .agg cs => .agg (cs.map unl1)
 | v=>unl1 v
def lnd1:AV→AV
 | .sl _ es => .sl true es
 | v=>v
def lnd:AV→AV
 | .agg cs => .agg (cs.map lnd1)
 | v=>lnd1 v
mutual
def lnD1:AV→AV
 | .sl _ es => .sl true (lnDLL es)
 | v=>v
def lnDL:List AV→List AV
 | []=>[]
 | c::r=>lnD1 c::lnDL r
def lnDLL:List (List AV)→List (List AV)
 | []=>[]
 | c::r=>lnDL c::lnDLL r
end
def lnE:AV→AV
 | .agg cs => .agg (lnDL cs)
 | v=>lnD1 v
def lnD:AV→AV
 | .tup vs => .tup (vs.map lnE)
 | v=>lnE v
def DeepE:AV→Prop
 | .tup _=>False
 | .fn _ _ _ _=>False
 | _=>True
def DeepR:AV→Prop
 | .tup vs => ∀ v∈vs,DeepE v
 | v=>DeepE v
def dq1:AV→Bool
 | .int _ _=>true | .bool _=>true | .sl _ _=>true | .nil=>true
 | _=>false
def dq:AV→Bool
 | .agg cs=>cs.all dq1
 | v=>dq1 v
def num1:AV→Bool
 | .int _ _=>true | .bool _=>true
 | _=>false
def Flat1:AV→Prop
 | .int _ _=>True
 | .bool _=>True
 | .sl _ es => ∀ e∈es,∀ c∈e,num1 c=true
 | _=>False
def FlatR:AV→Prop
 | .agg cs => ∀ c∈cs,Flat1 c
 | v=>Flat1 v
open Classical in
noncomputable def lnR (r:AV):AV:=if FlatR r then lnd r else lnD r
theorem lnR_flat {r:AV} (h:FlatR r):lnR r=lnd r:=if_pos h
theorem lnR_deep {r:AV} (h : ¬ FlatR r):lnR r=lnD r:=if_neg h
open Classical in
noncomputable def adoptR (x:Option (AV × Own)):Option (Nat × List (List AV)):=match x with
 | some (.row s t z 0 n,o)=>match o.get s t with
  | some b=>if b.es.length=n∧CleanLL b.es then some (z,b.es) else none
  | none=>none
 | _=>none
theorem adoptR_inv {x:Option (AV × Own)} {z:Nat} {es:List (List AV)} (h:adoptR x=some (z,es)) : ∃ s t o b,x=some (.row s t z 0 es.length,o)∧o.get s t=some b∧b.es=es∧CleanLL es:=by
 unfold adoptR at h;split at h
 ·split at h
  ·rename_i s t z' n o b hb
   split at h
   ·rename_i hc
    obtain ⟨rfl,hc⟩:=hc;simp only[Option.some.injEq,Prod.mk.injEq]at h;obtain ⟨rfl,rfl⟩:=h;exact ⟨_,_,_,_,rfl,hb,rfl,hc⟩
   ·cases h
  ·cases h
 ·cases h
def strEq (s t:ByteArray):Bool:=s.data.toList == t.data.toList
def mgetA:List (List AV)→ByteArray→Option Int
 | [],_=>none
 | c::r,k=>match c with
  | [.con (.string s),.int .i64 n]=>bif strEq s k then some n else mgetA r k
  | _=>mgetA r k
def mkey (k:ByteArray) (c:List AV):Bool:=match c with
 | .con (.string s)::_=>strEq s k
 | _=>false
def mputA (l:List (List AV)) (k:ByteArray) (n:Int):List (List AV):=[.con (.string k),.int .i64 n]::l.filter fun c => !mkey k c
open Classical in
noncomputable def eff (C:Cl) (ban:List Nat) (ρ:Opd→AV) (own:Own):AOp→Option Eff
 | .mov x=>some (.val (ρ x))
 | .vrow s esz=>some (.vir s ⟨esz,[]⟩ (fun t => .row s t esz 0 0))
 | .pick c a b=>match ρ c with
  | .bool true=>some (.val (ρ a))
  | .bool false=>some (.val (ρ b))
  | _=>none
 | .bin op x y=>match ρ x,ρ y with
  | .int k a,.int k' b=>(intBin op k a k' b).map .val
  | _,_=>none
 | .beq ne x y=>match ρ x,ρ y with
  | .bool a,.bool b=>some (.val (.bool (if ne then !(a == b) else a == b)))
  | _,_=>none
 | .un op x=>(unA op (ρ x)).map .val
 | .conv k x=>match ρ x with
  | .int _ n=>some (.val (.int k (k.wrap n)))
  | _=>none
 | .box s x=>match cellsOf (ρ x) with
  | some cs=>some (.new s ⟨cs.length,[cs]⟩ (fun t => .ptr s t 0 0))
  | none=>none
 | .alloc s zero=>some (.new s ⟨zero.length,[zero]⟩ (fun t => .ptr s t 0 0))
 | .build zero parts=>(fill zero (parts.map fun p=>(p.1,p.2.1,ρ p.2.2))).map (fun cs => .val (.agg cs))
 | .bslice s esz parts=>match parts.mapM (fun x=>cellsOf (ρ x)) with
  | some es=>if ∀ e∈es,e.length=esz then some (.new s ⟨esz,es⟩ (fun t => .row s t esz 0 es.length)) else none
  | none=>none
 | .fadr x off=>match ρ x with
  | .ptr s t i j=>some (.val (.ptr s t i (j+off)))
  | .dptr cs=>some (.val (.dptr (cs.drop off)))
  | _=>none
 | .fld x off n agg=>match ρ x with
  | .agg cs=>match part cs off n with
   | some ds=>(ofCells agg ds).map .val
   | none=>none
  | _=>none
 | .iadr arr esz x i=>match ρ i with
  | .int _ n=>match arr,ρ x with
   | some len,.ptr s t i' j=>if 0≤n∧n<len then some (.val (.ptr s t i' (j+n.toNat*esz))) else none
   | some len,.dptr cs=>if 0≤n∧n<len then some (.val (.dptr (cs.drop (n.toNat*esz)))) else none
   | none,.row s t z off len=>if 0≤n∧n<len∧z=esz then some (.val (.ptr s t (off+n.toNat) 0)) else none
   | none,.sl _ es=>if 0≤n then match es[n.toNat]? with
     | some cs=>if cs.length=esz then some (.val (.dptr cs)) else none
     | none=>none
    else none
   | _,_=>none
  | _=>none
 | .ld agg n x=>match ρ x with
  | .ptr s t i j=>match (own.hide ban).ldp s t i j n with
   | some cs=>(ofCells agg cs).map .val
   | none=>none
  | .dptr cs=>match part cs 0 n with
   | some ds=>(ofCells agg ds).map .val
   | none=>none
  | _=>none
 | .st n x v=>match ρ x,cellsOf (ρ v) with
  | .ptr s t i j,some vs=>if vs.length=n then (own.stp s t i j vs).map (Eff.tur (.tup [])) else none
  | _,_=>none
 | .mk s esz bytes zero l c=>match ρ l,ρ c with
  | .int _ a,.int _ b=>if 0≤a∧a≤b∧b*bytes≤roomMax∧b≤9223372036854775807∧zero.length=esz then some (.new s ⟨esz,List.replicate a.toNat zero⟩ (fun t => .row s t esz 0 a.toNat)) else none
  | _,_=>none
 | .slc esz x lo hi=>match ρ x with
  | .sl l es =>
   let h:Option Nat:=match hi with|none=>some es.length|some o=>match ρ o with | .int _ n=>if 0≤n∧n≤es.length then some n.toNat else none|_=>none
   let a:Option Nat:=match lo with|none=>some 0|some o=>match ρ o with | .int _ n=>if 0≤n then some n.toNat else none|_=>none
   match a,h with
   | some a,some h=>if a≤h ∧ ∀ e∈es,e.length=esz then some (.val (.sl l ((es.take h).drop a))) else none
   | _,_=>none
  | .nil =>
   let h:Option Nat:=match hi with|none=>some 0|some o=>match ρ o with | .int _ n=>if n=0 then some 0 else none|_=>none
   let a:Option Nat:=match lo with|none=>some 0|some o=>match ρ o with | .int _ n=>if n=0 then some 0 else none|_=>none
   match a,h with
   | some _,some _=>some (.val .nil)
   | _,_=>none
  | .row s t z off len =>
   let h:Option Nat:=match hi with|none=>some len|some o=>match ρ o with | .int _ n=>if 0≤n∧n≤len then some n.toNat else none|_=>none
   let a:Option Nat:=match lo with|none=>some 0|some o=>match ρ o with | .int _ n=>if 0≤n then some n.toNat else none|_=>none
   match a,h with
   | some a,some h=>if a≤h∧z=esz then some (.val (.row s t z (off+a) (h-a))) else none
   | _,_=>none
  | _=>none
 | .ext x i=>match ρ x with
  | .tup vs=>(vs[i]?).map .val
  | _=>none
 | .len x=>match lenOf (ρ x) with
  | some n=>some (.val (.int .i64 (n:Int)))
  | none=>none
 | .mm max xs=>match xs.map ρ with
  | []=>none
  | v::r=>(mmL max v r).map .val
 | .app s esz bytes x y=>match elemsOf own (ρ y) with
  | some ys=>if ∀ e∈ys,e.length=esz then match ρ x with
    | .row s' t z 0 len=>match own.get s' t with
     | some b=>if b.esz=esz∧z=esz∧len≤b.es.length∧(len+ys.length)*bytes≤roomMax∧len+ys.length≤9223372036854775807 then
       some (.tur (.row s' (own.cnt s') esz 0 (len+ys.length)) (own.put s' (((own s').upd t none).new ⟨esz,b.es.take len++ys⟩)))
      else none
     | none=>none
    | .nil=>if ys.length*bytes≤roomMax∧ys.length≤9223372036854775807 then
       some (.tur (.row s (own.cnt s) esz 0 ys.length) (own.put s ((own s).new ⟨esz,ys⟩))) else none
    | _=>none
   else none
  | none=>none
 | .appo s esz bytes x y=>match ρ y,ρ x with
  | .sl _ ys,.row s' t z 0 len=>match own.get s t with
   | some b=>if s'=s∧(∀ e∈ys,e.length=esz)∧b.esz=esz∧z=esz∧len≤b.es.length∧(len+ys.length)*bytes≤roomMax∧len+ys.length≤9223372036854775807 then
     some (.upn s (((own s).upd t none).new ⟨esz,b.es.take len++ys⟩) (.row s (own.cnt s) esz 0 (len+ys.length)))
    else none
   | none=>none
  | .sl _ ys,.nil=>if (∀ e∈ys,e.length=esz)∧ys.length*bytes≤roomMax∧ys.length≤9223372036854775807 then some (.upn s ((own s).new ⟨esz,ys⟩) (.row s (own.cnt s) esz 0 ys.length)) else none
  | _,_=>none
 | .call f xs=>match (xs.map ρ).mapM (snapA (own.hide ban) true) with
  | some vs=>(C.pure f vs).map .val
  | none=>none
 | .calli f xs=>match ban with
  | [s]=>(calbE C f (xs.map ρ) s own).map (fun r => .tub s r.1 r.2)
  | _=>(C.inn f (xs.map ρ) own).map (fun r => .tur r.1 r.2)
 | .bad=>none
 | .nck x=>match ρ x with
  | .ptr s t i j=>some (.val (.ptr s t i j))
  | _=>none
 | .mkm s=>some (.tur (.mp s (own.cnt s)) (own.put s ((own s).new ⟨2,[]⟩)))
 | .mlk x k=>match ρ x,ρ k with
  | .mp s t,.con (.string b)=>match (own.hide ban).get s t with
   | some blk=>if b.size≤9223372036854775807∧blk.es.length≤9223372036854775807 then some (.val (.tup [.int .i64 ((mgetA blk.es b).getD 0),.bool (mgetA blk.es b).isSome])) else none
   | none=>none
  | _,_=>none
 | .mup x k v=>match ρ x,ρ k,ρ v with
  | .mp s t,.con (.string b),.int .i64 n=>match own.get s t with
   | some blk=>if b.size≤9223372036854775807∧blk.es.length<9223372036854775807 ∧ -9223372036854775808≤n∧n≤9223372036854775807 then some (.tur .any (own.put s ((own s).upd t (some ⟨blk.esz,mputA blk.es b n⟩)))) else none
   | none=>none
  | _,_,_=>none
 | .apf esz bytes x y=>match elemsOf own (ρ y),ρ x with
  | some ys,.row s t z 0 0=>match own.get s t with
   | some b=>if (∀ e∈ys,e.length=esz ∧ ∀ c∈e,num1 c=true)∧b.esz=esz∧z=esz∧ys.length*bytes≤roomMax∧ys.length≤9223372036854775807 then some (.tur (.sl false ys) (own.put s (((own s).upd t none).lost))) else none
   | none=>none
  | _,_=>none
 | .srt fs f esz x c=>match ρ c with
  | .fn true f' g []=>if f'=f∧g=C.num f∧C.srts fs=some esz then (match ρ x with
   | .nil=>some (.tur (.tup []) own)
   | .row s t z 0 len=>match own.get s t with
    | some b=>if len=b.es.length∧z=esz∧b.esz=esz∧len<4611686018427387904 then (srtE C.cmp f b.es).map fun es' => .tur (.tup []) (own.put s ((own s).upd t (some ⟨esz,es'⟩))) else none
    | none=>none
   | _=>none) else none
  | _=>none
 | .cals s f xs=>(calsE C f (xs.map ρ) s (own s)).map fun p => .upn s p.2 p.1
 | .callq f xs=>if (xs.map ρ).all dq=true then (match C.pure f ((xs.map ρ).map unl) with
   | some r=>if FlatR r∨DeepR r then some (.val (lnR r)) else none
   | none=>none) else none
 | .callr s f xs=>match (xs.map ρ).mapM (snapN (own.hide ban) true) with
  | some vs=>(adoptR (C.inn f vs Own.emp)).map (fun r => .new s ⟨r.1,r.2⟩ (fun t => .row s t r.1 0 r.2.length))
  | none=>none
 | .callv x xs=>match ρ x with
  | .fn p f g cs=>if g=C.num f then (match p,cs with
   | true,[]=>(match (xs.map ρ).mapM (snapA own true) with
    | some vs=>(C.pure f vs).map .val
    | none=>none)
   | false,cs=>(C.inn f (xs.map ρ++cs) own).map (fun r => .tur r.1 r.2)
   | true,c::cs=>(match (AV.agg (c::cs)::xs.map ρ).mapM (snapA own true) with
    | some vs=>(C.pure f vs).map .val
    | none=>none)) else none
  | _=>none
def St.dst (st:St) (d:Option Nat) (v:AV):St :=
 match d with
 | some d=>{ st with tm:=tput st.tm d v }
 | none=>st
def St.app (st:St) (d:Option Nat):Eff→St
 | .val v=>st.dst d v
 | .new s b v=>{ (st.dst d (v (st.own.cnt s))) with own:=st.own.put s ((st.own s).new b) }
 | .vir s b v=>{ (st.dst d (v (st.own.cnt s))) with own:=st.own.put s ((st.own s).new b) }
 | .tur v o=>{ (st.dst d v) with own:=o }
 | .tub s v o=>{ (st.dst d v) with own:=o.put s (st.own s) }
 | .upd s x=>{ (st.dst d (.tup [])) with own:=st.own.put s x }
 | .upn s x v=>{ (st.dst d v) with own:=st.own.put s x }
def guardA (st:St):Option (Nat × Bool)→Option Bool
 | none=>some true
 | some (g,want)=>match tget st.tm g with
  | .bool b=>some (b == want)
  | .tup []=>some false
  | _=>none
noncomputable def stepI (C:Cl) (o:AI) (st:St):Option St :=
 match guardA st o.guard with
 | some true=>(eff C o.ban st.ev st.own o.op).map (st.app o.dst)
 | some false=>some (st.dst o.dst (.tup []))
 | none=>none
noncomputable def stepL (C:Cl):List AI→St→Option St
 | [],st=>some st
 | o::r,st=>match stepI C o st with
  | some st'=>stepL C r st'
  | none=>none
def siteOf:AOp→Option Nat
 | .vrow s _=>some s
 | .box s _=>some s
 | .alloc s _=>some s
 | .bslice s _ _=>some s
 | .mk s _ _ _ _ _=>some s
 | .callr s _ _=>some s
 | .appo s _ _ _ _=>some s
 | .cals s _ _=>some s
 | _=>none
inductive It where
 | code (c:ACode)
 | drp (ts ss:List Nat)
 | blk (id:Nat)
 | lp (c:ACode)
def exitA (id:Nat):List It→Option (List It)
 | .blk id'::k=>if id'=id then some k else exitA id k
 | _::k=>exitA id k
 | []=>none
def Own.drop (o:Own):List Nat→Own
 | []=>o
 | s::r=>(o.drop r).put s ⟨(o s).cnt,fun _=>none⟩
noncomputable def run (C:Cl):Nat→List It→St→Option St
 | 0,_,_=>none
 | _+1,[],st=>some st
 | n+1,.blk _::k,st=>run C n k st
 | n+1,.drp ts ss::k,st=>run C n k ⟨tdrop st.tm ts,st.own.drop ss⟩
 | n+1,.lp c::k,st=>run C n (.code c :: .lp c::k) st
 | n+1,.code c::k,st=>match c with
  | .skip=>run C n k st
  | .ops l _=>match stepL C l st with
   | some st'=>run C n k st'
   | none=>none
  | .dr c ts ss=>run C n (.code c :: .drp ts ss::k) st
  | .scope c=>run C n (.code c::k) st
  | .seq a b=>run C n (.code a :: .code b::k) st
  | .cond c a b=>match st.ev c with
   | .bool true=>run C n (.code a::k) st
   | .bool false=>run C n (.code b::k) st
   | _=>none
  | .block id c=>run C n (.code c :: .blk id::k) st
  | .loop c=>run C n (.code c :: .lp c::k) st
  | .exit id=>match exitA id k with
   | some k'=>run C n k' st
   | none=>none
  | .ret=>some st
def initTm (i:Nat):List AV→Tm
 | []=>[]
 | v::r=>(i,v)::initTm (i+1) r
def resTmp:AV→Option AV
 | .any=>none
 | .tup _=>none
 | v=>some v
def resOf (st:St):ARes→Option AV
 | .tmp t=>resTmp (tget st.tm t)
 | .cell t agg n=>match tget st.tm t with
  | .ptr s u i j=>match st.own.ldp s u i j n with
   | some cs=>ofCells agg cs
   | none=>none
  | _=>none
def resVal:List AV→AV
 | [v]=>v
 | vs => .tup vs
structure Lib where
 fn:Nat→Option AFn
 num:Nat→Nat
 ext:Nat→List AV→Option AV:=fun _ _=>none
 cmp:Nat→List AV→Option AV:=fun _ _=>none
 srts:Nat→Option Nat:=fun _=>none
instance : CoeFun Lib (fun _ => Nat → Option AFn) := ⟨Lib.fn⟩
open Classical in
noncomputable def pureP (I:List AV→Option (AV × Own)) (vs:List AV):Option AV :=
 match I vs with
 | some (r,o)=>match snapR o false r with
  | some r'=>if Clean r' then some r' else none
  | none=>none
 | none=>none
def Lib.spl (L:Lib) (f:Nat):Bool:=match L f with
 | some fn=>fn.spl
 | none=>false
open Classical in
noncomputable def pureS (b:Bool) (I:List AV→Option (AV × Own)) (vs:List AV):Option AV:=match b,vs with
 | true,.sl _ []::vs=>match pureP I (.con (.bool true)::vs),pureP I (.con (.bool false)::vs) with
  | some r,some r'=>if r=r' then some r else none
  | _,_=>none
 | _,vs=>pureP I vs
open Classical in
noncomputable def pureX (L:Lib) (f:Nat) (I:List AV→Option (AV × Own)) (vs:List AV):Option AV:=match L f with
 | some _=>pureS (L.spl f) I vs
 | none=>match L.ext f vs with
  | some r=>if Clean r then some r else none
  | none=>none
noncomputable def evI (L:Lib):Nat→Nat→List AV→Own→Option (AV × Own)
 | 0,_,_,_=>none
 | n+1,f,args,own=>match L f with
  | none=>none
  | some fn=>if args.length=fn.pars then
    match run ⟨fun f vs=>pureX L f (fun vs=>evI L n f vs Own.emp) vs,evI L n,L.num,L.cmp,L.srts⟩ n [.code fn.body] ⟨initTm 0 args,own⟩ with
    | some st=>match fn.res.mapM (resOf st) with
     | some vs=>some (resVal vs,st.own)
     | none=>none
    | none=>none
   else none
noncomputable def evP (L:Lib) (n f:Nat) (vs:List AV):Option AV:=pureX L f (fun vs=>evI L n f vs Own.emp) vs
noncomputable def clAt (L:Lib) (n:Nat):Cl:=⟨evP L n,evI L n,L.num,L.cmp,L.srts⟩
theorem evI_succ (L:Lib) (n f:Nat) (args:List AV) (own:Own):evI L (n+1) f args own =
  match L f with
  | none=>none
  | some fn=>if args.length=fn.pars then
    match run (clAt L n) n [.code fn.body] ⟨initTm 0 args,own⟩ with
    | some st=>match fn.res.mapM (resOf st) with
     | some vs=>some (resVal vs,st.own)
     | none=>none
    | none=>none
   else none:=rfl
namespace C
abbrev o (d:Nat) (op:AOp):AI:=⟨some d,op,none,[]⟩
abbrev n (op:AOp):AI:=⟨none,op,none,[]⟩
abbrev g (d i:Nat) (b:Bool) (op:AOp):AI:=⟨some d,op,some (i,b),[]⟩
abbrev m (d s:Nat):AI:=⟨some d,.mov (.t s),none,[]⟩
abbrev k (v:Int):Opd := .c (.int .i64 v)
abbrev z:AV := .int .i64 0
abbrev q (d:Nat) (ban:List Nat) (op:AOp):AI:=⟨some d,op,none,ban⟩
abbrev u (ban:List Nat) (op:AOp):AI:=⟨none,op,none,ban⟩
abbrev v (d i:Nat) (b:Bool) (ban:List Nat) (op:AOp):AI:=⟨some d,op,some (i,b),ban⟩
abbrev p (l:List AI):ACode := .ops l false
abbrev P (l:List AI):ACode := .ops l true
abbrev d (l:List AI) (ts:List Nat):ACode := .dr (.ops l false) ts []
abbrev e (l:List AI) (ts:List Nat):ACode := .dr (.ops l true) ts []
abbrev s (a b:ACode):ACode := .seq a b
abbrev i (c:Opd) (a b:ACode):ACode := .cond c a b
abbrev b (id:Nat) (c:ACode):ACode := .block id c
abbrev w (c:ACode):ACode := .loop c
abbrev x (id:Nat):ACode := .exit id
instance (i : Nat) : OfNat Opd i := ⟨.t i⟩
end C
end Go.Eng
namespace Go.Eng
def eqVal:Value→AV→Bool
 | .int k n,.int k' n'=>k == k'&&n == n'
 | .bool b,.bool b'=>b == b'
 | .slice none 0 0,.nil=>true
 | .string s,.con (.string s')=>s.data.toList == s'.data.toList
 | .nilFunc,.con .nilFunc=>true
 | .map none,.con (.map none)=>true
 | _,_=>false
def eqVals:List Value→List AV→Bool
 | [],[]=>true
 | v::r,a::l=>eqVal v a&&eqVals r l
 | _,_=>false
def eqConst:Value→AV→Bool
 | .agg cs,.agg l=>eqVals cs.toList l
 | v,a=>eqVal v a
def eqOpd:Operand→Opd→Bool
 | .tmp t,.t n=>t == n
 | .const v,.c a=>eqConst v a
 | .func g,.c (.fn _ _ g' [])=>g == g'
 | _,_=>false
def eqOpds:List Operand→List Opd→Bool
 | [],[]=>true
 | v::r,a::l=>eqOpd v a&&eqOpds r l
 | _,_=>false
def eqOpt:Option Operand→Option Opd→Bool
 | none,none=>true
 | some x,some y=>eqOpd x y
 | _,_=>false
section
variable (P:Program)
def aggOf (t:TypeId):Option Bool :=
 match P.underlying t with
 | some (.struct _)=>some true
 | some (.array _ _)=>some true
 | some _=>some false
 | none=>none
def sizeIs (t:TypeId) (n:Nat):Bool:=match P.info? t with|some i=>i.size == n|none=>false
def bytesIs (t:TypeId) (n:Nat):Bool:=match P.info? t with|some i=>i.bytes == n|none=>false
def zeroIs (t:TypeId) (l:List AV):Bool:=match P.info? t with|some i=>(match i.zero with|some z=>eqVals z.cells.toList l|none=>false)|none=>false
def sliceIs (t:TypeId) (f:TypeId→Bool):Bool:=match P.underlying t with|some (.slice e)=>f e|_=>false
def fieldIs (t:TypeId) (i off n:Nat):Bool:=match P.underlying t with
 | some (.struct fs)=>(match fs[i]? with|some f=>f.offset == off&&sizeIs P f.type n&&n != 0|none=>false)
 | _=>false
def fieldTy (t:TypeId) (i:Nat) (agg:Bool):Bool:=match P.underlying t with
 | some (.struct fs)=>(match fs[i]? with|some f=>aggOf P f.type == some agg|none=>false)
 | _=>false
def partsAre (place:Nat→Option (Nat × Nat)):List (Nat × Operand)→List (Nat × Nat × Opd)→Bool
 | [],[]=>true
 | (i,x)::r,(off,n,y)::l=>place i == some (off,n)&&eqOpd x y&&partsAre place r l
 | _,_=>false
def buildIs (t:TypeId) (ps:List (Nat × Operand)) (ps':List (Nat × Nat × Opd)):Bool:=match P.underlying t with
 | some (.struct fs)=>(match fs.toList.mapM (fun f=>(P.info? f.type).map fun i=>(f.offset,i.size)) with|some places=>partsAre (places.toArray[·]?) ps ps'|none=>false)
 | some (.array _ e)=>(match P.info? e with|some ie=>partsAre (fun i=>some (i*ie.size,ie.size)) ps ps'|none=>false)
 | _=>false
def elemsAre (k:Nat):List (Nat × Operand)→List Opd→Bool
 | [],[]=>true
 | (i,x)::r,y::l=>i == k&&eqOpd x y&&elemsAre (k+1) r l
 | _,_=>false
def mapTy (t:TypeId):Bool:=match P.underlying t with
 | some (.map k e)=>(match P.underlying k with|some .string=>true|_=>false)&&(match P.underlying e with|some (.int .i64)=>true|_=>false)&&(match P.info? e with|some i=>(match i.zero with|some (.int .i64 n)=>n == 0|_=>false)|none=>false)
 | _=>false
def okOp (num:Nat→Nat) (op:Op):AOp→Bool
 | .apf esz bytes x' y'=>match op with
  | .call ⟨.builtin .append,xs,ts⟩=>(match xs.toList,ts.toList with
   | [x,y],[t,u]=>eqOpd x x'&&eqOpd y y'&&sliceIs P t (fun e=>sizeIs P e esz&&bytesIs P e bytes&&(match P.info? e with|some i=>(match i.zero with|some z=>z.cells.size == esz|none=>false)|none=>false))&&esz != 0&&sliceIs P u (fun _=>true)
   | _,_=>false)
  | _=>false
 | .srt fs _ _ x' c'=>match op with
  | .call ⟨.value (.func f),xs,_⟩=>f == num fs&&eqOpds xs.toList [x',c']
  | _=>false
 | .mkm s=>Nat.ble mapLo s&&(match op with | .makeMap t none=>mapTy P t|_=>false)
 | .mlk x' k'=>match op with | .lookup t x k true=>mapTy P t&&eqOpd x x'&&eqOpd k k'|_=>false
 | .mup x' k' v'=>match op with | .mapUpdate t x k v=>mapTy P t&&eqOpd x x'&&eqOpd k k'&&eqOpd v v'|_=>false
 | .mov y=>match op with | .move x=>eqOpd x y | .assign x=>eqOpd x y|_=>false
 | .vrow _ z=>z != 0&&(match op with | .move (.const (.slice none 0 0))=>true | .assign (.const (.slice none 0 0))=>true|_=>false)
 | .pick c' a' b'=>match op with | .pick c a b=>eqOpd c c'&&eqOpd a a'&&eqOpd b b'|_=>false
 | .bin op' x' y'=>match op with | .binOp op _ x y _=>op == op'&&eqOpd x x'&&eqOpd y y'|_=>false
 | .beq ne x' y'=>match op with | .binOp op t x y _=>(if ne then op == .neq else op == .eql)&&(match P.underlying t with|some .bool=>true|_=>false)&&eqOpd x x'&&eqOpd y y'|_=>false
 | .un op' x'=>match op with | .unOp op _ x=>op == op'&&eqOpd x x'|_=>false
 | .conv k x'=>match op with | .convert s d x=>(P.underlying s).isSome&&(match P.underlying d with|some (.int k')=>k == k'|_=>false)&&eqOpd x x'|_=>false
 | .box _ x'=>match op with | .box _ x=>eqOpd x x'|_=>false
 | .alloc _ z=>match op with | .alloc t=>zeroIs P t z|_=>false
 | .build z ps'=>match op with | .build t ps=>zeroIs P t z&&buildIs P t ps.toList ps'|_=>false
 | .bslice _ esz ps'=>match op with
  | .buildSlice t n ps=>sliceIs P t (fun e=>sizeIs P e esz)&&esz != 0&&n == ps'.length&&decide (n*esz≤16777216)&&elemsAre 0 ps.toList ps'&&(n == 0||sliceIs P t (fun e=>match P.info? e with|some i=>(match i.zero with|some z=>z.cells.size == esz|none=>false)|none=>false))
  | _=>false
 | .fadr x' off=>match op with
  | .fieldAddr s x f=>eqOpd x x'&&(match P.underlying s with|some (.struct fs)=>(match fs[f]? with|some fd=>fd.offset == off&&(match P.info? fd.type with|some i=>i.size != 0|none=>false)|none=>false)|_=>false)
  | _=>false
 | .fld x' off n agg=>match op with | .field t x f=>eqOpd x x'&&fieldIs P t f off n&&fieldTy P t f agg|_=>false
 | .iadr arr esz x' i'=>match op with
  | .indexAddr t x i=>eqOpd x x'&&eqOpd i i'&&(match P.underlying t,arr with|some (.array len e),some len'=>len == len'&&sizeIs P e esz&&decide (1<len)|some (.slice e),none=>sizeIs P e esz&&esz != 0|_,_=>false)
  | _=>false
 | .ld agg n x'=>match op with | .load t x=>eqOpd x x'&&aggOf P t == some agg&&(if agg then sizeIs P t n else n == 1)|_=>false
 | .st n x' v'=>match op with | .store t x v=>eqOpd x x'&&eqOpd v v'&&sizeIs P t n|_=>false
 | .mk _ esz bytes z l' c'=>match op with
  | .makeSlice t l c=>eqOpd l l'&&eqOpd c c'&&sliceIs P t (fun e=>sizeIs P e esz&&bytesIs P e bytes&&zeroIs P e z)&&esz != 0
  | _=>false
 | .slc esz x' lo' hi'=>match op with
  | .slice t x lo hi none=>eqOpd x x'&&eqOpt lo lo'&&eqOpt hi hi'&&sliceIs P t (fun e=>sizeIs P e esz)&&esz != 0
  | _=>false
 | .ext x' i'=>match op with | .extract x i=>eqOpd x x'&&i == i'|_=>false
 | .len x'=>match op with
  | .call ⟨.builtin .len,xs,ts⟩=>(match xs.toList,ts.toList with|[x],[t]=>eqOpd x x'&&sliceIs P t (fun _=>true)|_,_=>false)
  | _=>false
 | .mm max xs'=>match op with
  | .call ⟨.builtin .min,xs,_⟩ => !max&&eqOpds xs.toList xs'
  | .call ⟨.builtin .max,xs,_⟩=>max&&eqOpds xs.toList xs'
  | _=>false
 | .app _ esz bytes x' y'=>match op with
  | .call ⟨.builtin .append,xs,ts⟩=>(match xs.toList,ts.toList with
   | [x,y],[t,u]=>eqOpd x x'&&eqOpd y y'&&sliceIs P t (fun e=>sizeIs P e esz&&bytesIs P e bytes&&(match P.info? e with|some i=>(match i.zero with|some z=>z.cells.size == esz|none=>false)|none=>false))&&esz != 0&&sliceIs P u (fun _=>true)
   | _,_=>false)
  | _=>false
 | .appo _ esz bytes x' y'=>match op with
  | .call ⟨.builtin .append,xs,ts⟩=>(match xs.toList,ts.toList with
   | [x,y],[t,u]=>eqOpd x x'&&eqOpd y y'&&sliceIs P t (fun e=>sizeIs P e esz&&bytesIs P e bytes&&(match P.info? e with|some i=>(match i.zero with|some z=>z.cells.size == esz|none=>false)|none=>false))&&esz != 0&&sliceIs P u (fun _=>true)
   | _,_=>false)
  | _=>false
 | .call f' xs'=>match op with
  | .call ⟨.value (.func f),xs,_⟩=>f == num f'&&eqOpds xs.toList xs'
  | _=>false
 | .calli f' xs'=>match op with
  | .call ⟨.value (.func f),xs,_⟩=>f == num f'&&eqOpds xs.toList xs'
  | _=>false
 | .cals _ f' xs'=>match op with
  | .call ⟨.value (.func f),xs,_⟩=>f == num f'&&eqOpds xs.toList xs'
  | _=>false
 | .bad=>true
 | .nck x'=>match op with
  | .nilCheck x=>eqOpd x x'
  | _=>false
 | .callq f' xs'=>match op with
  | .call ⟨.value (.func f),xs,_⟩=>f == num f'&&eqOpds xs.toList xs'
  | _=>false
 | .callr _ f' xs'=>match op with
  | .call ⟨.value (.func f),xs,_⟩=>f == num f'&&eqOpds xs.toList xs'
  | _=>false
 | .callv x' xs'=>match op with
  | .call ⟨.value x,xs,_⟩=>eqOpd x x'&&eqOpds xs.toList xs'
  | _=>false
def okGuard (ops:Array Oper):Option (Nat × Bool)→Option (Nat × Bool)→Bool
 | none,none=>true
 | some (j,b),some (t,b')=>b == b'&&(match ops[j]? with|some o=>o.dst == some t|none=>false)
 | _,_=>false
def siteOk (a:AOp):Bool:=(match siteOf a with|some s=>Nat.blt s mapLo|none=>true)&&(match a with | .app s _ _ _ _=>Nat.blt s mapLo|_=>true)
def okI (num:Nat→Nat) (N:Nat) (ops:Array Oper) (o:Oper) (a:AI):Bool :=
 o.dst == a.dst&&(match a.dst with|some d=>decide (d<N)|none=>true)&&okGuard ops o.guard a.guard&&okOp P num o.op a.op&&siteOk a.op
def okL (num:Nat→Nat) (N:Nat) (ops:Array Oper):List Oper→List AI→Bool
 | [],[]=>true
 | o::r,a::l=>okI P num N ops o a&&okL num N ops r l
 | _,_=>false
def turnsMem:AOp→Bool
 | .st .. | .app .. | .calli .. | .callv .. | .mkm .. | .mup .. | .apf .. | .srt .. => true
 | _=>false
def readsMem:AOp→Bool
 | .ld .. | .call .. | .callr .. | .mlk .. => true
 | _=>false
def meetsMem (a:AOp):Bool:=turnsMem a||readsMem a||(siteOf a).isSome
def opdT:Opd→List Nat
 | .t n=>[n]
 | .c _=>[]
def optT:Option Opd→List Nat
 | some x=>opdT x
 | none=>[]
def usesA:AOp→List Nat
 | .mov x=>opdT x
 | .vrow _ _=>[]
 | .pick c a b=>opdT c++opdT a++opdT b
 | .bin _ x y=>opdT x++opdT y
 | .beq _ x y=>opdT x++opdT y
 | .un _ x=>opdT x
 | .conv _ x=>opdT x
 | .box _ x=>opdT x
 | .alloc _ _=>[]
 | .build _ ps=>ps.flatMap (fun p=>opdT p.2.2)
 | .bslice _ _ ps=>ps.flatMap opdT
 | .fadr x _=>opdT x
 | .fld x _ _ _=>opdT x
 | .iadr _ _ x i=>opdT x++opdT i
 | .ld _ _ x=>opdT x
 | .st _ x v=>opdT x++opdT v
 | .mk _ _ _ _ l c=>opdT l++opdT c
 | .slc _ x lo hi=>opdT x++optT lo++optT hi
 | .ext x _=>opdT x
 | .len x=>opdT x
 | .mm _ xs=>xs.flatMap opdT
 | .app _ _ _ x y=>opdT x++opdT y
 | .appo _ _ _ x y=>opdT x++opdT y
 | .call _ xs=>xs.flatMap opdT
 | .calli _ xs=>xs.flatMap opdT
 | .callv x xs=>opdT x++xs.flatMap opdT
 | .callq _ xs=>xs.flatMap opdT
 | .callr _ _ xs=>xs.flatMap opdT
 | .cals _ _ xs=>xs.flatMap opdT
 | .bad=>[]
 | .nck x=>opdT x
 | .mkm _=>[]
 | .apf _ _ x y=>opdT x++opdT y
 | .srt _ _ _ x c=>opdT x++opdT c
 | .mlk x k=>opdT x++opdT k
 | .mup x k v=>opdT x++opdT k++opdT v
def looksA (x:AI):List Nat:=usesA x.op++(match x.guard with|some (g,_)=>[g]|none=>[])++x.dst.toList
def ordB (b:Array Nat) (i j:Nat):Bool:=(b.getD (max i j) 0).testBit (min i j)
def keepS (x:AI):Option Nat:=match x.op,x.ban with
 | .calli _ _,[s]=>some s
 | _,_=>none
def keptB (x y:AI):Bool:=match keepS x with
 | some s=>siteOf y.op == some s&&(!turnsMem y.op && !readsMem y.op)
 | none=>false
def pairOk (b:Array Nat) (x:AI) (i:Nat) (y:AI) (j:Nat):Bool :=
 i == j||ordB b i j ||
  ((match y.dst with|some t => !(looksA x).contains t|none=>true) &&
   (!turnsMem x.op || !meetsMem y.op||keptB x y) &&
   (!readsMem x.op||(match siteOf y.op with|some s=>x.ban.contains s|none=>true)) )
def drawOk (ops:Array Oper) (l:List AI):Bool :=
 let b:=Region.before ops
 (l.zipIdx.all fun (x,i)=>l.zipIdx.all fun (y,j)=>pairOk b x i y j&&(i == j||ordB b i j||(match siteOf x.op,siteOf y.op with|some s,some s'=>s != s'|_,_=>true))) &&
 (ops.toList.zipIdx.all fun (o,i)=>o.after.all fun e=>decide (e.on<i)||(match e.ground with | .gcOnly _=>true|_=>false)) &&
 (!Region.departs ops||(List.range ops.size).all (fun i=>(Region.linearise .gc ops 0).contains i))
def okCode (num:Nat→Nat) (N:Nat):Code→ACode→Bool
 | c,.dr a _ _=>okCode num N c a
 | c',.skip=>match c' with | .skip=>true | .label _=>true|_=>false
 | c',.scope a=>match c' with | .scope c=>okCode num N c a|_=>false
 | c',.ops l draw'=>match c' with | .region _ ops draw=>draw == draw'&&okL P num N ops ops.toList l&&(!draw||drawOk ops l)|_=>false
 | c',.seq a' b'=>match c' with | .seq a b=>okCode num N a a'&&okCode num N b b'|_=>false
 | c',.cond x' a' b'=>match c' with | .cond x a b=>eqOpd x x'&&okCode num N a a'&&okCode num N b b'|_=>false
 | c',.block i' a=>match c' with | .block i c=>i == i'&&okCode num N c a|_=>false
 | c',.loop a=>match c' with | .loop c=>okCode num N c a|_=>false
 | c',.exit i'=>match c' with | .exit i=>i == i'|_=>false
 | c',.ret=>match c' with | .ret=>true|_=>false
def okRes:List ResultVar→List ARes→Bool
 | [],[]=>true
 | .tmp t::r,.tmp t'::l=>t == t'&&okRes r l
 | .cell a t::r,.cell a' agg n::l=>a == a'&&aggOf P t == some agg&&(if agg then sizeIs P t n else n == 1)&&okRes r l
 | _,_=>false
def okFn (num:Nat→Nat) (fn:Func) (a:AFn):Bool :=
 fn.params.size+fn.nfree == a.pars&&decide (a.pars≤fn.ntmps)&&okRes P fn.results.toList a.res&&(match fn.body with|some c=>okCode P num fn.ntmps c a.body|none=>false)
end
end Go.Eng

namespace Go.Eng
def val:List Nat→Nat
 | []=>0
 | d::l=>d+4294967296*val l
def Dig (l:List Nat):Prop := ∀ d∈l,d<4294967296
theorem Dig.tail {d:Nat} {l:List Nat} (h:Dig (d::l)):Dig l:=fun x hx=>h x (List.mem_cons_of_mem _ hx)
theorem Dig.head {d:Nat} {l:List Nat} (h:Dig (d::l)):d<4294967296:=h d List.mem_cons_self
theorem Dig.at {l:List Nat} (h:Dig l) {i d:Nat} (hd:l[i]? = some d):d<4294967296:=h d (List.mem_of_getElem? hd)
theorem Dig.take {l:List Nat} (h:Dig l) (n:Nat):Dig (l.take n):=fun x hx=>h x (List.mem_of_mem_take hx)
theorem Dig.drop {l:List Nat} (h:Dig l) (n:Nat):Dig (l.drop n):=fun x hx=>h x (List.mem_of_mem_drop hx)
theorem Dig.append {a b:List Nat} (h:Dig a) (h':Dig b):Dig (a++b):=fun x hx=>(List.mem_append.1 hx).elim (h x) (h' x)
theorem Dig.set {l:List Nat} (h:Dig l) (i:Nat) {d:Nat} (hd:d<4294967296):Dig (l.set i d):=fun x hx=>by
 rcases List.mem_or_eq_of_mem_set hx with h1|h1
 ·exact h x h1
 ·omega
end Go.Eng

namespace Go.Eng
set_option maxHeartbeats 1000000
def cmpL:List Int→List Int→Int
 | [],[]=>0
 | [],_::_ => -1
 | _::_,[]=>1
 | a::x,b::y=>if a<b then -1 else if b<a then 1 else cmpL x y
theorem cmpL_self : ∀ x,cmpL x x=0
 | []=>rfl
 | a::x=>by simp only[cmpL,Int.lt_irrefl,if_false];exact cmpL_self x
theorem cmpL_zero : ∀ {x y},cmpL x y=0→x=y
 | [],[],_=>rfl
 | [],_::_,h=>by simp [cmpL]at h
 | _::_,[],h=>by simp [cmpL]at h
 | a::x,b::y,h=>by
  simp only[cmpL]at h;split at h
  ·simp at h
  ·split at h
   ·simp at h
   ·rw[show a=b by omega,cmpL_zero h]
theorem cmpL_neg : ∀ x y,cmpL y x = -cmpL x y
 | [],[]=>rfl
 | [],_::_=>rfl
 | _::_,[]=>rfl
 | a::x,b::y=>by
  simp only[cmpL];have:=cmpL_neg x y
  split<;>split<;>first|omega|(split<;>omega)|skip
theorem cmpL_trans : ∀ {x y z},cmpL x y<0→cmpL y z<0→cmpL x z<0
 | [],[],_,h,_=>by simp [cmpL]at h
 | [],_::_,[],_,h=>by simp [cmpL]at h
 | [],_::_,_::_,_,_=>by simp [cmpL]
 | _::_,[],_,h,_=>by simp [cmpL]at h
 | _::_,_::_,[],_,h=>by simp [cmpL]at h
 | a::x,b::y,c::z,h1,h2=>by
  simp only[cmpL]at *;have := @cmpL_trans x y z;split at h1<;>split at h2<;>(try split at h1)<;>(try split at h2)<;>(try omega)
  all_goals (split;omega;split;omega;first|omega|exact this h1 h2)
section
variable (f:List Int→List Int)
def itS:Nat→List Int→List Int
 | 0,s=>s
 | k+1,s=>itS k (f s)
def orbS:Nat→List Int→List (List Int)
 | 0,_=>[]
 | k+1,s=>s::orbS k (f s)
variable {f}
theorem it_succ : ∀ (k:Nat) (s:List Int),itS f (k+1) s=f (itS f k s)
 | 0,_=>rfl
 | k+1,s=>it_succ k (f s)
theorem it_add : ∀ (a b:Nat) (s:List Int),itS f (a+b) s=itS f b (itS f a s)
 | 0,b,s=>by rw[Nat.zero_add];rfl
 | a+1,b,s=>by rw[show a+1+b=(a+b)+1 by omega];exact it_add a b (f s)
theorem orb_len : ∀ (k:Nat) (s:List Int),(orbS f k s).length=k
 | 0,_=>rfl
 | k+1,s=>by simp only[orbS,List.length_cons,orb_len k]
theorem orb_get : ∀ {k j:Nat} {s:List Int},j<k→(orbS f k s)[j]? = some (itS f j s)
 | 0,_,_,h=>by omega
 | k+1,0,s,_=>rfl
 | k+1,j+1,s,h=>by
  simp only[orbS,List.getElem?_cons_succ];exact orb_get (by omega)
theorem orb_mem {k:Nat} {s t:List Int}:t∈orbS f k s ↔ ∃ j,j<k∧t=itS f j s:=by
 constructor
 ·intro h
  obtain ⟨j,hj⟩:=List.getElem?_of_mem h;have hl:j<k:=by have:=(List.getElem?_eq_some_iff.1 hj).1;rwa [orb_len]at this
  rw[orb_get hl]at hj;exact ⟨j,hl,(Option.some.inj hj).symm⟩
 ·rintro ⟨j,hj,rfl⟩
  exact List.mem_of_getElem? (orb_get hj)
theorem orb_app : ∀ (a b:Nat) (s:List Int),orbS f (a+b) s=orbS f a s++orbS f b (itS f a s)
 | 0,b,s=>by rw[Nat.zero_add];rfl
 | a+1,b,s=>by
  rw[show a+1+b=(a+b)+1 by omega];simp only[orbS,List.cons_append,orb_app a b];rfl
theorem orb_snoc (k:Nat) (s:List Int):orbS f (k+1) s=orbS f k s++[itS f k s]:=orb_app k 1 s
theorem orb_drop (a b:Nat) (s:List Int):(orbS f (a+b) s).drop a=orbS f b (itS f a s):=by
 rw[orb_app,List.drop_left' (orb_len a s)]
theorem orb_take (a b:Nat) (s:List Int):(orbS f (a+b) s).take a=orbS f a s:=by
 rw[orb_app,List.take_left' (orb_len a s)]
theorem orb_inj {k i j:Nat} {s:List Int} (h:(orbS f k s).Nodup) (hi:i<k) (hj:j<k) (e:itS f i s=itS f j s):i=j:=by
 refine (List.getElem?_inj (by rwa [orb_len]) h).1 ?_;rw[orb_get hi,orb_get hj,e]
theorem it_mul {n:Nat} {s:List Int} (h:itS f n s=s) : ∀ q,itS f (n*q) s=s
 | 0=>rfl
 | q+1=>by rw[Nat.mul_succ,it_add,it_mul h q,h]
theorem it_mod {n:Nat} {s:List Int} (h:itS f n s=s) (m:Nat):itS f m s=itS f (m%n) s:=by
 conv=>lhs;rw[←Nat.div_add_mod m n]
 rw[it_add,it_mul h]
theorem it_orb {n:Nat} {s:List Int} (h0:0<n) (h:itS f n s=s) (m:Nat):itS f m s∈orbS f n s :=
 orb_mem.2 ⟨m%n,Nat.mod_lt _ h0,it_mod h m⟩
theorem it_back {n:Nat} {s:List Int} (h0:0<n) (h:itS f n s=s) (m:Nat):itS f (n*m) s=s∧m≤n*m∧itS f (n*m-m) (itS f m s)=s:=by
 have h1:m≤n*m:=Nat.le_mul_of_pos_left m h0;refine ⟨it_mul h m,h1,?_⟩;rw[←it_add,show m+(n*m-m)=n*m by omega,it_mul h]
theorem it_per {n:Nat} {s:List Int} (h:itS f n s=s) (m:Nat):itS f n (itS f m s)=itS f m s:=by
 rw[←it_add,Nat.add_comm,it_add,h]
def rotL {α:Type} (m:Nat) (l:List α):List α:=l.drop m++l.take m
theorem rot_orb {n m:Nat} {s:List Int} (h:itS f n s=s) (hm:m≤n):rotL m (orbS f n s)=orbS f n (itS f m s):=by
 obtain ⟨d,rfl⟩ : ∃ d,n=m+d:=⟨n-m,by omega⟩;unfold rotL;rw[orb_drop,orb_take,Nat.add_comm m d,orb_app d m,←it_add,h]
theorem rot_map {α β:Type} (g:α→β) (m:Nat) (l:List α):rotL m (l.map g)=(rotL m l).map g:=by simp [rotL,List.map_drop,List.map_take]
theorem rot_len {α:Type} {m:Nat} {l:List α} (h:m≤l.length):(rotL m l).length=l.length:=by
 simp only[rotL,List.length_append,List.length_drop,List.length_take];omega
theorem rot_get {α:Type} {m i:Nat} {l:List α} (hm:m<l.length) (hi:i<l.length):(rotL m l)[i]? = l[(m+i)%l.length]? := by
 unfold rotL;by_cases h:m+i<l.length
 ·rw[List.getElem?_append_left (by rw[List.length_drop];omega),List.getElem?_drop,Nat.mod_eq_of_lt h]
 ·rw[List.getElem?_append_right (by rw[List.length_drop];omega),List.length_drop,List.getElem?_take_of_lt (by omega),Nat.mod_eq_sub_mod (by omega),Nat.mod_eq_of_lt (by omega)]
  congr 1;omega
theorem rot_perm {α:Type} (m:Nat) (l:List α):(rotL m l).Perm l:=by
 unfold rotL;exact List.perm_append_comm.trans (by rw[List.take_append_drop])
variable (f) in
structure IsCyc (g:List Int→Int) (B:List Int→Prop) (c:List (List Int) × List Int) (s:List Int) (k:Nat):Prop where
 pos:0<k
 per:itS f k s=s
 nd:(orbS f k s).Nodup
 st:c.1=orbS f k s
 out:c.2=(orbS f k s).map g
 box : ∀ t∈orbS f k s,B t
 low : ∀ t∈orbS f k s,0≤cmpL t s
variable {g:List Int→Int} {B B':List Int→Prop} {c d:List (List Int) × List Int} {s u:List Int} {k m:Nat}
theorem IsCyc.mono (h:IsCyc f g B c s k) (hb : ∀ t∈c.1,B t→B' t):IsCyc f g B' c s k:=⟨h.pos,h.per,h.nd,h.st,h.out,fun t ht=>hb t (h.st ▸ ht) (h.box t ht),h.low⟩
theorem IsCyc.uniq (h:IsCyc f g B c s k) (h':IsCyc f g B' d u m) {t:List Int} (h1:t∈c.1) (h2:t∈d.1):c=d∧s=u∧k=m:=by
 rw[h.st]at h1;rw[h'.st]at h2;obtain ⟨a,ha,rfl⟩:=orb_mem.1 h1;obtain ⟨b,hb,e⟩:=orb_mem.1 h2;have r1:s∈orbS f m u:=by
  have:=(it_back h.pos h.per a).2.2
  rw[e,←it_add]at this;rw[←this];exact it_orb h'.pos h'.per _
 have r2:u∈orbS f k s:=by
  have:=(it_back h'.pos h'.per b).2.2
  rw[←e,←it_add]at this;rw[←this];exact it_orb h.pos h.per _
 have q1:=h'.low s r1;have q2:=h.low u r2;rw[cmpL_neg]at q2;obtain rfl:s=u:=cmpL_zero (by omega);have hkm:k=m:=by
  rcases Nat.lt_trichotomy k m with hlt|he|hlt
  ·have:=orb_inj h'.nd (i:=k) (j:=0) hlt h'.pos h.per
   have:=h.pos
   omega
  ·exact he
  ·have:=orb_inj h.nd (i:=m) (j:=0) hlt h.pos h'.per
   have:=h'.pos
   omega
 subst hkm;refine ⟨?_,rfl,rfl⟩;have e1:=h.st.trans h'.st.symm;have e2:=h.out.trans h'.out.symm;exact Prod.ext e1 e2
theorem IsCyc.rot {p j:Nat} (hp:0<p) (hu:itS f p u=u) (hn:(orbS f p u).Nodup) (hj:j<p) (hlow : ∀ t∈orbS f p u,0≤cmpL t (itS f j u)) (hB : ∀ t∈orbS f p u,B t) :
  IsCyc f g B (rotL j (orbS f p u),rotL j ((orbS f p u).map g)) (itS f j u) p:=by
 have e:=rot_orb hu (m:=j) (by omega);have hm : ∀ t,t∈orbS f p (itS f j u)↔t∈orbS f p u:=fun t=>by rw[←e];exact (rot_perm j _).mem_iff
 exact ⟨hp,it_per hu j,by rw[←e];exact (rot_perm j _).nodup_iff.2 hn,e,by rw[rot_map,e],fun t ht=>hB t ((hm t).1 ht),fun t ht=>hlow t ((hm t).1 ht)⟩
end
def inB:List Int→List Int→Prop
 | [],[]=>True
 | b::box,v::s=>(-b≤v∧v≤b)∧inB box s
 | _,_=>False
def totS:List Int→Nat
 | []=>1
 | b::box=>(2*b+1).toNat*totS box
def idxS:List Int→List Int→Nat
 | b::box,v::s=>(v+b).toNat*totS box+idxS box s
 | _,_=>0
theorem inB_len : ∀ {box s},inB box s→s.length=box.length
 | [],[],_=>rfl
 | _::_,_::_,h=>by simp only[List.length_cons,inB_len h.2]
 | [],_::_,h=>h.elim
 | _::_,[],h=>h.elim
theorem inB_get : ∀ {box s:List Int} {i:Nat} {v b:Int},inB box s→s[i]? = some v→box[i]? = some b → -b≤v∧v≤b
 | [],[],_,_,_,_,h,_=>by simp at h
 | _::_,_::_,0,_,_,h,h1,h2=>by
  obtain rfl:=Option.some.inj h1;obtain rfl:=Option.some.inj h2;exact h.1
 | _::_,_::_,i+1,_,_,h,h1,h2=>inB_get h.2 h1 h2
 | [],_::_,_,_,_,h,_,_=>h.elim
 | _::_,[],_,_,_,h,_,_=>h.elim
theorem idx_lt : ∀ {box s:List Int},inB box s→idxS box s<totS box
 | [],[],_=>by simp [idxS,totS]
 | b::box,v::s,h=>by
  obtain ⟨⟨h1,h2⟩,h3⟩:=h;have ih:=idx_lt h3;simp only[idxS,totS];have:(v+b).toNat+1≤(2*b+1).toNat:=by omega
  have:=Nat.mul_le_mul_right (totS box) this
  rw[Nat.succ_mul]at this;omega
 | [],_::_,h=>h.elim
 | _::_,[],h=>h.elim
theorem idx_inj : ∀ {box s t:List Int},inB box s→inB box t→idxS box s=idxS box t→s=t
 | [],[],[],_,_,_=>rfl
 | b::box,v::s,w::t,h,h',e=>by
  obtain ⟨⟨h1,h2⟩,h3⟩:=h;obtain ⟨⟨g1,g2⟩,g3⟩:=h';have l1:=idx_lt h3;have l2:=idx_lt g3;simp only[idxS]at e;have e1:(v+b).toNat=(w+b).toNat:=by
   have d1:((v+b).toNat*totS box+idxS box s)/totS box=(v+b).toNat:=by
    rw[Nat.mul_comm,Nat.mul_add_div (by omega),Nat.div_eq_of_lt l1,Nat.add_zero]
   have d2:((w+b).toNat*totS box+idxS box t)/totS box=(w+b).toNat:=by
    rw[Nat.mul_comm,Nat.mul_add_div (by omega),Nat.div_eq_of_lt l2,Nat.add_zero]
   rw[←d1,←d2,e]
  rw[e1]at e;rw[idx_inj h3 g3 (by omega),show v=w by omega]
 | [],_::_,_,h,_,_=>h.elim
 | _::_,[],_,h,_,_=>h.elim
 | [],[],_::_,_,h,_=>h.elim
 | _::_,_::_,[],_,h,_=>h.elim
theorem nodup_tot {box:List Int} {l:List (List Int)} (hn:l.Nodup) (hb : ∀ s∈l,inB box s):l.length≤totS box:=by
 have h1:(l.map (idxS box)).Nodup:=by
  rw[List.Nodup,List.pairwise_map];refine List.Pairwise.imp_of_mem ?_ hn;intro a b ha hb' hne e;exact hne (idx_inj (hb a ha) (hb b hb') e)
 have h2:=h1.length_le_of_subset (l₂:=List.range (totS box)) (fun x hx=>by
  obtain ⟨s,hs,rfl⟩:=List.mem_map.1 hx;exact List.mem_range.2 (idx_lt (hb s hs)))
 simpa using h2
def nextS:List Int→List Int→Option (List Int)
 | b::box,v::s=>match nextS box s with
  | some s'=>some (v::s')
  | none=>if v<b then some ((v+1)::box.map fun x => -x) else none
 | _,_=>none
theorem inB_low : ∀ {box:List Int},(∀ b∈box,0≤b)→inB box (box.map fun x => -x)∧idxS box (box.map fun x => -x)=0
 | [],_=>⟨trivial,rfl⟩
 | b::box,h=>by
  have h0:=h b List.mem_cons_self;obtain ⟨i1,i2⟩:=inB_low fun x hx=>h x (List.mem_cons_of_mem _ hx)
  refine ⟨⟨by show -b ≤ -b ∧ -b≤b;omega,i1⟩,?_⟩;simp only[List.map_cons,idxS,i2];rw[show (-b+b).toNat=0 by omega];simp
theorem next_none : ∀ {box s:List Int},(∀ b∈box,0≤b)→inB box s→nextS box s=none→idxS box s+1=totS box
 | [],[],_,_,_=>rfl
 | [],_::_,_,h,_=>h.elim
 | _::_,[],_,h,_=>h.elim
 | b::box,v::s,hb,h,hn=>by
  have hb' : ∀ x∈box,0≤x:=fun x hx=>hb x (List.mem_cons_of_mem _ hx)
  simp only[nextS]at hn;split at hn
  ·cases hn
  ·rename_i ht
   split at hn
   ·cases hn
   ·have:=next_none hb' h.2 ht
    simp only[idxS,totS];have e:(2*b+1).toNat=(v+b).toNat+1:=by have:=h.1;omega
    rw[e,Nat.succ_mul];omega
theorem next_some : ∀ {box s s':List Int},(∀ b∈box,0≤b)→inB box s→nextS box s=some s'→inB box s'∧idxS box s'=idxS box s+1
 | [],_,_,_,_,h=>by simp [nextS]at h
 | _::_,[],_,_,h,_=>h.elim
 | b::box,v::s,s',hb,h,hn=>by
  have hb' : ∀ x∈box,0≤x:=fun x hx=>hb x (List.mem_cons_of_mem _ hx)
  simp only[nextS]at hn;split at hn
  ·rename_i t ht
   obtain rfl:=Option.some.inj hn;obtain ⟨i1,i2⟩:=next_some hb' h.2 ht;refine ⟨⟨h.1,i1⟩,?_⟩;simp only[idxS,i2];omega
  ·rename_i ht
   split at hn
   ·rename_i hlt
    obtain rfl:=Option.some.inj hn;obtain ⟨i1,i2⟩:=inB_low hb';have h1:=h.1;refine ⟨⟨by omega,i1⟩,?_⟩;have hlast:=next_none hb' h.2 ht;simp only[idxS,i2];have e:(v+1+b).toNat=(v+b).toNat+1:=by omega
    rw[e,Nat.succ_mul];omega
   ·cases hn
theorem next_max : ∀ {box s:List Int},s.length=box.length→(∀ (j:Nat) (x y:Int),s[j]? = some x→box[j]? = some y→y≤x)→nextS box s=none
 | [],_,_,_=>by simp [nextS]
 | _::_,[],_,_=>by simp [nextS]
 | b::box,v::s,hl,h=>by
  have:=next_max (box:=box) (s:=s) (by simpa using hl) fun j x y hx hy=>h (j+1) x y hx hy
  have h0:=h 0 v b rfl rfl;simp only[nextS,this];rw[if_neg (by omega)]
theorem next_at : ∀ {box s:List Int} {i:Nat} {v b:Int},s.length=box.length→s[i]? = some v→box[i]? = some b→v<b→(∀ (j:Nat) (x y:Int),i<j→s[j]? = some x→box[j]? = some y→y≤x)→nextS box s=some (s.take i++(v+1)::(box.drop (i+1)).map fun x => -x)
 | [],_,_,_,_,_,_,h,_,_=>by simp at h
 | _::_,[],_,_,_,_,h,_,_,_=>by simp at h
 | b'::box,v'::s,0,v,b,hl,h1,h2,hlt,hr=>by
  obtain rfl:=Option.some.inj h1;obtain rfl:=Option.some.inj h2;have:nextS box s=none:=next_max (by simpa using hl) fun j x y hx hy=>hr (j+1) x y (by omega) hx hy
  simp [nextS,this,hlt]
 | b'::box,v'::s,i+1,v,b,hl,h1,h2,hlt,hr=>by
  have:=next_at (box:=box) (s:=s) (i:=i) (by simpa using hl) h1 h2 hlt fun j x y hj hx hy=>hr (j+1) x y (by omega) hx hy
  simp [nextS,this]
def lkS:List (List Int × Int)→List Int→Option Int
 | [],_=>none
 | p::r,s=>if p.1=s then some p.2 else lkS r s
abbrev keyS (seen:List (List Int × Int)):List (List Int):=seen.map Prod.fst
theorem lk_none : ∀ {seen:List (List Int × Int)} {s:List Int},lkS seen s=none↔s ∉ keyS seen
 | [],s=>by simp [lkS]
 | p::r,s=>by
  simp only[lkS,keyS,List.map_cons,List.mem_cons,not_or];split
  ·rename_i h;simp [h]
  ·rename_i h
   rw[lk_none];exact ⟨fun h'=>⟨fun e=>h e.symm,h'⟩,fun h'=>h'.2⟩
theorem lk_some : ∀ {seen:List (List Int × Int)} {s:List Int} {w:Int},lkS seen s=some w→(s,w)∈seen
 | [],_,_,h=>by simp [lkS]at h
 | p::r,s,w,h=>by
  simp only[lkS]at h;split at h
  ·rename_i e
   obtain rfl:=Option.some.inj h;subst e;exact List.mem_cons_self
  ·exact List.mem_cons_of_mem _ (lk_some h)
section
variable (f:List Int→List Int) (g:List Int→Int) (box:List Int)
def seenS (seen:List (List Int × Int)) (s:List Int) (w:Int) (k:Nat):List (List Int × Int):=((orbS f k s).map fun t=>(t,w)).reverse++seen
theorem seen_succ (seen:List (List Int × Int)) (s:List Int) (w:Int) (k:Nat):seenS f seen s w (k+1)=(itS f k s,w)::seenS f seen s w k:=by
 unfold seenS;rw[orb_snoc,List.map_append,List.reverse_append];rfl
theorem seen_key {seen:List (List Int × Int)} {s:List Int} {w:Int} {k:Nat} {t:List Int}:t∈keyS (seenS f seen s w k)↔t∈orbS f k s∨t∈keyS seen:=by
 unfold seenS;simp only[keyS,List.map_append,List.map_reverse,List.map_map,List.mem_append,List.mem_reverse];rw[show (Prod.fst ∘ fun t:List Int=>(t,w))=id from rfl,List.map_id]
structure WalkK (seen:List (List Int × Int)) (s:List Int) (k:Nat):Prop where
 nd:(orbS f k s).Nodup
 bx : ∀ t∈orbS f k s,inB box t
 nw : ∀ t∈orbS f k s,t ∉ keyS seen
inductive WalkR (seen:List (List Int × Int)) (s:List Int) (k:Nat):Option (List (List Int) × List Int)→Prop where
 | out (h : ¬ inB box (itS f k s)):WalkR seen s k none
 | old (h:itS f k s∈keyS seen):WalkR seen s k none
 | new (i:Nat) (c:List (List Int) × List Int) (u:List Int) (hi:i<k) (h:itS f k s=itS f i s) (hc:IsCyc f g (inB box) c u (k-i)) (hu : ∀ t,t∈c.1 ↔ ∃ j,i≤j∧j<k∧t=itS f j s):WalkR seen s k (some c)
structure Found (seen:List (List Int × Int)) (l:List (List (List Int) × List Int)) (w:Int):Prop where
 nd:(keyS seen).Nodup
 bx : ∀ t∈keyS seen,inB box t
 num : ∀ p∈seen,p.2≤w
 cl : ∀ t∈keyS seen,inB box (f t)→f t∈keyS seen
 cyc : ∀ c∈l,(∃ s k,IsCyc f g (inB box) c s k) ∧ ∀ t∈c.1,t∈keyS seen
 all : ∀ t∈keyS seen,∀ n,0<n→itS f n t=t→(∀ u∈orbS f n t,inB box u) → ∃ c∈l,t∈c.1
 dis:l.Pairwise fun c d => ∀ t∈c.1,t ∉ d.1
variable {f g box}
theorem Found.start:Found f g box [] [] 0:=⟨List.nodup_nil,by simp,by simp,by simp,by simp,by simp,List.Pairwise.nil⟩
theorem Found.it {seen:List (List Int × Int)} {l:List (List (List Int) × List Int)} {w:Int} (h:Found f g box seen l w) : ∀ (m:Nat) {t:List Int},t∈keyS seen→(∀ j,inB box (itS f j t))→itS f m t∈keyS seen
 | 0,_,ht,_=>ht
 | m+1,t,ht,hb=>h.it m (h.cl t ht (hb 1)) fun j=>hb (j+1)
theorem Found.walk {seen:List (List Int × Int)} {l:List (List (List Int) × List Int)} {w:Int} (h:Found f g box seen l w) {s:List Int} {k:Nat} {r:Option (List (List Int) × List Int)} (hk:WalkK f box seen s k) (hr:WalkR f g box seen s k r) :
  Found f g box (seenS f seen s (w+1) k) (l++r.toList) (w+1):=by
 have hcl : ∀ t∈orbS f k s,inB box (f t)→f t∈orbS f k s∨f t∈keyS seen:=fun t ht hb=>by
  obtain ⟨j,hj,rfl⟩:=orb_mem.1 ht;rw[←it_succ (f:=f)]at hb ⊢;by_cases e:j+1<k
  ·exact .inl (orb_mem.2 ⟨j+1,e,rfl⟩)
  ·have e:j+1=k:=by omega
   rw[e]at hb ⊢;cases hr with
   | out h'=>exact absurd hb h'
   | old h'=>exact .inr h'
   | new i c u hi h' _ _=>rw[h'];exact .inl (orb_mem.2 ⟨i,hi,rfl⟩)
 refine ⟨?_,fun t ht => ?_,fun p hp => ?_,fun t ht hb => ?_,fun c hc => ?_,fun t ht n hn hp hb => ?_,?_⟩
 ·unfold seenS
  simp only[keyS,List.map_append,List.map_reverse,List.map_map];rw[show (Prod.fst ∘ fun t:List Int=>(t,w+1))=id from rfl,List.map_id,List.nodup_append];exact ⟨(List.reverse_perm _).nodup_iff.2 hk.nd,h.nd,fun a ha b hb e=>hk.nw a (List.mem_reverse.1 ha) (e ▸ hb)⟩
 ·rcases (seen_key f).1 ht with ht|ht
  ·exact hk.bx t ht
  ·exact h.bx t ht
 ·unfold seenS at hp
  rcases List.mem_append.1 hp with hp|hp
  ·obtain ⟨t,_,rfl⟩:=List.mem_map.1 (List.mem_reverse.1 hp)
   exact Int.le_refl _
  ·have:=h.num p hp;omega
 ·rcases (seen_key f).1 ht with ht|ht
  ·exact (seen_key f).2 (hcl t ht hb)
  ·exact (seen_key f).2 (.inr (h.cl t ht hb))
 ·rcases List.mem_append.1 hc with hc|hc
  ·obtain ⟨h1,h2⟩:=h.cyc c hc
   exact ⟨h1,fun t ht=>(seen_key f).2 (.inr (h2 t ht))⟩
  ·cases hr with
   | out=>simp at hc
   | old=>simp at hc
   | new i c' u hi h' h1 h2 =>
    obtain rfl:c=c':=by simpa using hc
    refine ⟨⟨_,_,h1⟩,fun t ht=>(seen_key f).2 (.inl ?_)⟩;obtain ⟨j,_,hj,rfl⟩:=(h2 t).1 ht;exact orb_mem.2 ⟨j,hj,rfl⟩
 ·have hall : ∀ j,inB box (itS f j t):=fun j=>hb _ (it_orb hn hp j)
  rcases (seen_key f).1 ht with ht|ht
  ·obtain ⟨j,hj,rfl⟩:=orb_mem.1 ht
   have he:itS f k s=itS f (k-j) (itS f j s):=by rw[←it_add,show j+(k-j)=k by omega]
   cases hr with
   | out h'=>rw[he]at h';exact absurd (hall _) h'
   | old h' =>
    exfalso;obtain ⟨_,_,hback⟩:=it_back hn hp (k-j);rw[←he]at hback;have:=h.it (n*(k-j)-(k-j)) h' (fun m=>by rw[he,←it_add];exact hall _)
    rw[hback]at this;exact hk.nw _ ht this
   | new i c u hi h' h1 h2 =>
    refine ⟨c,by simp,(h2 _).2 ?_⟩;have hper:itS f (k-i) (itS f i s)=itS f i s:=by rw[←it_add,show i+(k-i)=k by omega];exact h'
    have e:itS f j s=itS f (n*i+j-i) (itS f i s):=by
     have h3:=it_mul hp i;have h4:i≤n*i:=Nat.le_mul_of_pos_left i hn;rw[←it_add,show i+(n*i+j-i)=j+n*i by omega,it_add,h3]
    rw[e];obtain ⟨q,hq,e2⟩:=orb_mem.1 (it_orb (show 0<k-i by omega) hper (n*i+j-i));exact ⟨i+q,by omega,by omega,by rw[e2,←it_add]⟩
  ·obtain ⟨c,hc,hm⟩:=h.all t ht n hn hp hb
   exact ⟨c,List.mem_append_left _ hc,hm⟩
 ·rw[List.pairwise_append]
  refine ⟨h.dis,by cases r<;>simp,fun c hc d hd t htc htd => ?_⟩;cases hr with
  | out=>simp at hd
  | old=>simp at hd
  | new i c' u hi h' h1 h2 =>
   obtain rfl:d=c':=by simpa using hd
   obtain ⟨j,_,hj,rfl⟩:=(h2 t).1 htd;exact hk.nw _ (orb_mem.2 ⟨j,hj,rfl⟩) ((h.cyc c hc).2 _ htc)
structure CycList (f:List Int→List Int) (g:List Int→Int) (box:List Int) (l:List (List (List Int) × List Int)):Prop where
 cyc : ∀ c∈l,∃ s k,IsCyc f g (inB box) c s k
 all : ∀ c s k,IsCyc f g (inB box) c s k→c∈l
 asc:l.Pairwise fun c d => ∀ s t,c.1[0]? = some s→d.1[0]? = some t→cmpL s t<0
theorem IsCyc.head {B:List Int→Prop} {c:List (List Int) × List Int} {s:List Int} {k:Nat} (h:IsCyc f g B c s k):c.1[0]? = some s:=by
 rw[h.st,orb_get h.pos];rfl
theorem Found.full {seen:List (List Int × Int)} {l l':List (List (List Int) × List Int)} {w:Int} (h:Found f g box seen l w) (hf : ∀ t,inB box t→t∈keyS seen) (hp:l'.Perm l) (ho : ∀ (i j:Nat) (x y:List (List Int) × List Int),l'[i]? = some x→l'[j]? = some y→i<j → ∀ s t,x.1[0]? = some s→y.1[0]? = some t→cmpL s t<0):CycList f g box l':=by
 refine ⟨fun c hc=>(h.cyc c (hp.mem_iff.1 hc)).1,fun c s k hc=>hp.mem_iff.2 ?_,?_⟩
 ·have hs:s∈orbS f k s:=orb_mem.2 ⟨0,hc.pos,rfl⟩
  obtain ⟨d,hd,hm⟩:=h.all s (hf s (hc.box s hs)) k hc.pos hc.per hc.box;obtain ⟨u,m,hu⟩:=(h.cyc d hd).1;rw[(hc.uniq hu (by rw[hc.st];exact hs) hm).1];exact hd
 ·rw[List.pairwise_iff_getElem]
  intro i j hi hj hij;exact ho i j _ _ (List.getElem?_eq_getElem hi) (List.getElem?_eq_getElem hj) hij
theorem Found.heads {seen:List (List Int × Int)} {l:List (List (List Int) × List Int)} {w:Int} (h:Found f g box seen l w) {i j:Nat} {c d:List (List Int) × List Int} {s t:List Int} (hi:l[i]? = some c) (hj:l[j]? = some d) (hc:c.1[0]? = some s) (hd:d.1[0]? = some t) (e:s=t):i=j:=by
 obtain ⟨i1,rfl⟩:=List.getElem?_eq_some_iff.1 hi;obtain ⟨j1,rfl⟩:=List.getElem?_eq_some_iff.1 hj;have hp:=List.pairwise_iff_getElem.1 h.dis;subst e;rcases Nat.lt_trichotomy i j with h1|h1|h1
 ·exact absurd (List.mem_of_getElem? hd) (hp i j i1 j1 h1 s (List.mem_of_getElem? hc))
 ·exact h1
 ·exact absurd (List.mem_of_getElem? hc) (hp j i j1 i1 h1 s (List.mem_of_getElem? hd))
theorem CycList.uniq {l l':List (List (List Int) × List Int)} (h:CycList f g box l) (h':CycList f g box l'):l=l':=by
 have lt : ∀ {l:List (List (List Int) × List Int)},CycList f g box l→l.Pairwise fun c d => ∀ s t,c.1[0]? = some s→d.1[0]? = some t→cmpL s t<0:=fun h=>h.asc
 have nd : ∀ {l:List (List (List Int) × List Int)},CycList f g box l→l.Nodup:=fun {l} h=>by
  refine List.Pairwise.imp_of_mem ?_ h.asc;intro a b ha hb hab e;subst e;obtain ⟨s,k,hc⟩:=h.cyc a ha;have:=hab s s hc.head hc.head
  rw[cmpL_self]at this;omega
 have hm : ∀ c,c∈l↔c∈l':=fun c=>⟨fun hc=>by obtain ⟨s,k,h1⟩:=h.cyc c hc;exact h'.all c s k h1,fun hc=>by obtain ⟨s,k,h1⟩:=h'.cyc c hc;exact h.all c s k h1⟩
 have hp:l.Perm l':=(List.perm_ext_iff_of_nodup (nd h) (nd h')).2 hm;refine List.Perm.eq_of_pairwise (fun a b ha hb hab hba => ?_) h.asc h'.asc hp;obtain ⟨s,k,h1⟩:=h.cyc a ha;obtain ⟨t,m,h2⟩:=h'.cyc b hb;have q1:=hab s t h1.head h2.head;have q2:=hba t s h2.head h1.head;rw[cmpL_neg]at q2;omega
end
end Go.Eng

namespace Go.Eng.F
open C
namespace cmp_isNaN_int
def r0:=[o 2 (.mov (.c (.bool false)))]
def r1:=[m 3 0,m 4 0,o 5 (.bin .neq 3 4),m 2 5]
def c:=(s (d r0 [2]) (s (d r1 [0,3,4,5]) .ret))
end cmp_isNaN_int
def cmp_isNaN_int:AFn:=⟨1,cmp_isNaN_int.c,[.tmp 2],false⟩
namespace cmp_Compare_int
def r0:=[o 4 (.mov (k 0))]
def r1:=[m 7 0,o 8 (.call 58 [7]),m 5 8]
def r2:=[m 9 1,o 10 (.call 58 [9]),m 6 10]
def r3:=[m 11 5]
def r4:=[m 12 6]
def r5:=[o 4 (.mov (k 0))]
def r6:=[o 4 (.mov (k (-1)))]
def r7:=[m 13 6]
def r8:=[o 4 (.mov (k 1))]
def r9:=[m 14 0,m 15 1,o 16 (.bin .lss 14 15)]
def r10:=[o 4 (.mov (k (-1)))]
def r11:=[m 17 0,m 18 1,o 19 (.bin .gtr 17 18)]
def r12:=[o 4 (.mov (k 1))]
def r13:=[o 4 (.mov (k 0))]
def c:=(s (d r0 [4]) (s (d r1 [7,8]) (s (d r2 [9,10]) (s (s (d r3 [5]) (i 11 (s (s (d r4 [0,1,6,11]) (i 12 (s (d r5 [12]) .ret) .skip)) (s (d r6 [12]) .ret)) .skip)) (s (s (d r7 [6,11]) (i 13 (s (d r8 [0,1,13]) .ret) .skip)) (s (s (d r9 [13,14,15]) (i 16 (s (d r10 [0,1,16]) .ret) .skip)) (s (s (d r11 [0,1,16,17,18]) (i 19 (s (d r12 [19]) .ret) .skip)) (s (d r13 [19]) .ret))))))))
end cmp_Compare_int
def cmp_Compare_int:AFn:=⟨2,cmp_Compare_int.c,[.tmp 4],false⟩
structure NatGLib (L:Lib):Prop where
 cmp_isNaN_int:L 58=some F.cmp_isNaN_int
 cmp_Compare_int:L 60=some F.cmp_Compare_int
end Go.Eng.F

namespace Go.Eng.F
open C
namespace fixed_mode
def r0:=[o 2 (.mov (.c (.bool false)))]
def r1:=[m 3 0,o 4 (.bin .geq 3 (k 1)),m 5 4,g 6 5 true (.mov 0),g 7 5 true (.bin .leq 6 (k 3)),o 8 (.pick 5 7 (.c (.bool false))),m 2 8]
def c:=(s (d r0 [2]) (s (d r1 [0,3,4,5,6,7,8]) .ret))
end fixed_mode
def fixed_mode:AFn:=⟨1,fixed_mode.c,[.tmp 2],false⟩
namespace fixed_Valid
def r0:=[o 1 (.box 1 0),o 2 (.mov (.c (.bool false)))]
def r1:=[o 3 (.fadr 1 0),o 4 (.ld false 1 3),o 5 (.bin .lss 4 (k 4)),m 6 5,g 7 6 false (.fadr 1 0),g 8 6 false (.ld false 1 7),g 9 6 false (.bin .gtr 8 (k 24)),
 o 10 (.pick 6 (.c (.bool true)) 9),m 11 10,g 12 11 false (.fadr 1 1),g 13 11 false (.ld false 1 12),g 14 11 false (.bin .lss 13 (k 0)),
 o 15 (.pick 11 (.c (.bool true)) 14),m 16 15,g 17 16 false (.fadr 1 1),g 18 16 false (.ld false 1 17),g 19 16 false (.fadr 1 0),
 g 20 16 false (.ld false 1 19),g 21 16 false (.bin .geq 18 20),o 22 (.pick 16 (.c (.bool true)) 21)]
def r2:=[o 2 (.mov (.c (.bool false)))]
def r3:=[o 23 (.fadr 1 2),o 24 (.ld false 1 23),o 25 (.call 1 [24]),m 26 25,g 27 26 true (.fadr 1 3),g 28 26 true (.ld false 1 27),
 g 29 26 true (.bin .eql 28 (k 1)),g 30 26 true (.mov 29),g 31 30 false (.fadr 1 3),g 32 30 false (.ld false 1 31),g 33 30 false (.bin .eql 32 (k 2)),
 g 34 26 true (.pick 30 (.c (.bool true)) 33),o 35 (.pick 26 34 (.c (.bool false))),m 2 35]
def c:=(s (d r0 [0,2]) (s (s (d r1 [3,4,5,6,7,8,9,10,11,12,13,14,15,16,17,18,19,20,21]) (i 22 (s (d r2 [1,22]) .ret) .skip)) (s (d r3 [1,22,23,24,25,26,27,28,29,30,31,32,33,34,35]) .ret)))
end fixed_Valid
def fixed_Valid:AFn:=⟨1,fixed_Valid.c,[.tmp 2],false⟩
namespace fixed_Low
def r0:=[o 1 (.box 1 0),o 2 (.mov (k 0))]
def r1:=[o 3 (.ld true 4 1),o 4 (.call 2 [3]),o 5 (.un .not 4)]
def r2:=[o 2 (.mov (k 0))]
def r3:=[o 6 (.fadr 1 0),o 7 (.ld false 1 6),o 8 (.bin .sub 7 (k 1)),o 9 (.bin .shl (k 1) 8),o 10 (.un .neg 9),m 2 10]
def c:=(s (d r0 [0,2]) (s (s (d r1 [3,4]) (i 5 (s (d r2 [1,5]) .ret) .skip)) (s (d r3 [1,5,6,7,8,9,10]) .ret)))
end fixed_Low
def fixed_Low:AFn:=⟨1,fixed_Low.c,[.tmp 2],false⟩
namespace fixed_High
def r0:=[o 1 (.box 1 0),o 2 (.mov (k 0))]
def r1:=[o 3 (.ld true 4 1),o 4 (.call 2 [3]),o 5 (.un .not 4)]
def r2:=[o 2 (.mov (k 0))]
def r3:=[o 6 (.fadr 1 0),o 7 (.ld false 1 6),o 8 (.bin .sub 7 (k 1)),o 9 (.bin .shl (k 1) 8),o 10 (.bin .sub 9 (k 1)),m 2 10]
def c:=(s (d r0 [0,2]) (s (s (d r1 [3,4]) (i 5 (s (d r2 [1,5]) .ret) .skip)) (s (d r3 [1,5,6,7,8,9,10]) .ret)))
end fixed_High
def fixed_High:AFn:=⟨1,fixed_High.c,[.tmp 2],false⟩
namespace fixed_Fits
def r0:=[o 2 (.box 2 0),o 4 (.mov (.c (.bool false)))]
def r1:=[o 5 (.ld true 4 2),o 6 (.call 2 [5]),m 7 6,g 8 7 true (.mov 1),g 9 7 true (.ld true 4 2),g 10 7 true (.call 3 [9]),g 11 7 true (.bin .geq 8 10),
 o 12 (.pick 7 11 (.c (.bool false))),m 13 12,g 14 13 true (.mov 1),g 15 13 true (.ld true 4 2),g 16 13 true (.call 4 [15]),g 17 13 true (.bin .leq 14 16),
 o 18 (.pick 13 17 (.c (.bool false))),m 4 18]
def c:=(s (d r0 [0,4]) (s (d r1 [1,2,5,6,7,8,9,10,11,12,13,14,15,16,17,18]) .ret))
end fixed_Fits
def fixed_Fits:AFn:=⟨2,fixed_Fits.c,[.tmp 4],false⟩
namespace fixed_Shift
def r0:=[o 6 (.mov (k 0))]
def r1:=[m 9 1,o 10 (.bin .lss 9 (k 0)),m 11 10,g 12 11 false (.mov 1),g 13 11 false (.bin .gtr 12 (k 62)),o 14 (.pick 11 (.c (.bool true)) 13),m 15 14,
 g 16 15 false (.mov 2),g 17 15 false (.call 1 [16]),g 18 15 false (.un .not 17),o 19 (.pick 15 (.c (.bool true)) 18)]
def r2:=[o 6 (.mov (k 0))]
def r3:=[m 20 1,o 21 (.bin .eql 20 (k 0))]
def r4:=[m 22 0,m 6 22]
def r5:=[m 23 0,m 24 1,o 25 (.bin .shr 23 24),m 7 25]
def r6:=[m 26 7,m 27 7,m 28 0,m 29 1,o 30 (.bin .sub 29 (k 1)),o 31 (.bin .shr 28 30),o 32 (.bin .and 31 (k 1)),o 33 (.bin .add 27 32),m 34 7,
 o 35 (.build [z,z,z] [(0,1,26),(1,1,33),(2,1,34)]),o 8 (.alloc 8 [z,z,z]),n (.st 3 8 35)]
def r7:=[m 36 0,o 37 (.bin .lss 36 (k 0)),m 38 37,g 39 38 true (.mov 0),g 40 38 true (.mov 1),g 41 38 true (.bin .shl (k 1) 40),g 42 38 true (.bin .sub 41 (k 1)),
 g 43 38 true (.bin .and 39 42),g 44 38 true (.bin .neq 43 (k 0)),o 45 (.pick 38 44 (.c (.bool false)))]
def r8:=[o 46 (.iadr (some 3) 1 8 (k 2)),o 47 (.ld false 1 46),o 48 (.bin .add 47 (k 1)),o 49 (.iadr (some 3) 1 8 (k 2)),n (.st 1 49 48)]
def r9:=[m 50 2,o 51 (.bin .sub 50 (k 1)),o 52 (.iadr (some 3) 1 8 51),o 53 (.ld false 1 52),m 6 53]
def c:=(s (d r0 [6]) (s (s (d r1 [9,10,11,12,13,14,15,16,17,18]) (i 19 (s (d r2 [0,1,2,19]) .ret) .skip)) (s (s (d r3 [19,20]) (i 21 (s (d r4 [0,1,2,21,22]) .ret) .skip)) (s (d r5 [21,23,24,25]) (s (d r6 [7,26,27,28,29,30,31,32,33,34,35]) (s (s (d r7 [0,1,36,37,38,39,40,41,42,43,44]) (i 45 (d r8 [45,46,47,48,49]) .skip)) (s (d r9 [2,8,45,50,51,52,53]) .ret)))))))
end fixed_Shift
def fixed_Shift:AFn:=⟨3,fixed_Shift.c,[.tmp 6],false⟩
namespace fixed_Wrap
def r0:=[o 4 (.mov (k 0))]
def r1:=[m 6 0,o 7 (.bin .lss 6 (k 1)),m 8 7,g 9 8 false (.mov 0),g 10 8 false (.bin .gtr 9 (k 62)),o 11 (.pick 8 (.c (.bool true)) 10)]
def r2:=[o 4 (.mov (k 0))]
def r3:=[m 12 1,m 13 0,o 14 (.bin .shl (k 1) 13),o 15 (.bin .sub 14 (k 1)),o 16 (.bin .and 12 15),m 5 16]
def r4:=[m 17 5,m 18 0,o 19 (.bin .sub 18 (k 1)),o 20 (.bin .shl (k 1) 19),o 21 (.bin .geq 17 20)]
def r5:=[m 22 5,m 23 0,o 24 (.bin .shl (k 1) 23),o 25 (.bin .sub 22 24),m 5 25]
def r6:=[m 26 5,m 4 26]
def c:=(s (d r0 [4]) (s (s (d r1 [6,7,8,9,10]) (i 11 (s (d r2 [0,1,11]) .ret) .skip)) (s (d r3 [1,11,12,13,14,15,16]) (s (s (d r4 [17,18,19,20]) (i 21 (d r5 [0,21,22,23,24,25]) .skip)) (s (d r6 [0,5,21,26]) .ret)))))
end fixed_Wrap
def fixed_Wrap:AFn:=⟨2,fixed_Wrap.c,[.tmp 4],false⟩
namespace fixed_Saturate
def r0:=[o 2 (.box 2 0),o 4 (.mov (k 0))]
def r1:=[m 5 1,o 6 (.ld true 4 2),o 7 (.call 3 [6]),o 8 (.mm true [5,7]),o 9 (.ld true 4 2),o 10 (.call 4 [9]),o 11 (.mm false [8,10]),m 4 11]
def c:=(s (d r0 [0,4]) (s (e r1 [1,2,5,6,7,8,9,10,11]) .ret))
end fixed_Saturate
def fixed_Saturate:AFn:=⟨2,fixed_Saturate.c,[.tmp 4],false⟩
namespace fixed_Reduce
def r0:=[o 2 (.box 2 0),o 4 (.mov (k 0))]
def r1:=[o 5 (.ld true 4 2),o 6 (.call 2 [5]),o 7 (.un .not 6)]
def r2:=[o 4 (.mov (k 0))]
def r3:=[o 8 (.fadr 2 3),o 9 (.ld false 1 8),o 10 (.bin .eql 9 (k 2))]
def r4:=[o 11 (.fadr 2 0),o 12 (.ld false 1 11),m 13 1,o 14 (.call 7 [12,13]),m 4 14]
def r5:=[o 15 (.ld true 4 2),m 16 1,o 17 (.call 8 [15,16]),m 4 17]
def c:=(s (d r0 [0,4]) (s (s (d r1 [5,6]) (i 7 (s (d r2 [1,2,7]) .ret) .skip)) (s (s (d r3 [7,8,9]) (i 10 (s (d r4 [1,2,10,11,12,13,14]) .ret) .skip)) (s (d r5 [1,2,10,15,16,17]) .ret))))
end fixed_Reduce
def fixed_Reduce:AFn:=⟨2,fixed_Reduce.c,[.tmp 4],false⟩
namespace ref21_In
def r0:=[o 6 (.mov (.c (.bool false)))]
def r1:=[m 7 0,m 8 1,o 9 (.bin .geq 7 8),m 10 9,g 11 10 true (.mov 0),g 12 10 true (.mov 2),g 13 10 true (.bin .leq 11 12),o 14 (.pick 10 13 (.c (.bool false))),
 m 6 14]
def c:=(s (d r0 [6]) (s (d r1 [0,1,2,7,8,9,10,11,12,13,14]) .ret))
end ref21_In
def ref21_In:AFn:=⟨3,ref21_In.c,[.tmp 6],false⟩
namespace ref21_Valid
def r0:=[o 1 (.box 1 0),o 2 (.mov (.c (.bool false)))]
def r1:=[o 3 (.fadr 1 0),o 4 (.ld false 1 3),o 5 (.call 10 [4,(k 4),(k 24)]),m 6 5,g 7 6 true (.fadr 1 1),g 8 6 true (.ld false 1 7),g 9 6 true (.fadr 1 0),
 g 10 6 true (.ld false 1 9),g 11 6 true (.bin .sub 10 (k 1)),g 12 6 true (.call 10 [8,(k 0),11]),o 13 (.pick 6 12 (.c (.bool false))),m 14 13,
 g 15 14 true (.fadr 1 2),g 16 14 true (.ld false 1 15),g 17 14 true (.call 10 [16,(k 1),(k 3)]),o 18 (.pick 14 17 (.c (.bool false))),m 19 18,
 g 20 19 true (.fadr 1 3),g 21 19 true (.ld false 1 20),g 22 19 true (.call 10 [21,(k 1),(k 2)]),o 23 (.pick 19 22 (.c (.bool false))),m 2 23]
def c:=(s (d r0 [0,2]) (s (d r1 [1,3,4,5,6,7,8,9,10,11,12,13,14,15,16,17,18,19,20,21,22,23]) .ret))
end ref21_Valid
def ref21_Valid:AFn:=⟨1,ref21_Valid.c,[.tmp 2],false⟩
namespace ref21_Low
def r0:=[o 1 (.box 1 0),o 2 (.mov (k 0))]
def r1:=[o 3 (.ld true 4 1),o 4 (.call 11 [3]),o 5 (.un .not 4)]
def r2:=[o 2 (.mov (k 0))]
def r3:=[o 6 (.fadr 1 0),o 7 (.ld false 1 6),o 8 (.bin .sub 7 (k 1)),o 9 (.conv .u64 8),o 10 (.bin .shl (k 1) 9),o 11 (.un .neg 10),m 2 11]
def c:=(s (d r0 [0,2]) (s (s (d r1 [3,4]) (i 5 (s (d r2 [1,5]) .ret) .skip)) (s (d r3 [1,5,6,7,8,9,10,11]) .ret)))
end ref21_Low
def ref21_Low:AFn:=⟨1,ref21_Low.c,[.tmp 2],false⟩
namespace ref21_High
def r0:=[o 1 (.box 1 0),o 2 (.mov (k 0))]
def r1:=[o 3 (.ld true 4 1),o 4 (.call 11 [3]),o 5 (.un .not 4)]
def r2:=[o 2 (.mov (k 0))]
def r3:=[o 6 (.fadr 1 0),o 7 (.ld false 1 6),o 8 (.bin .sub 7 (k 1)),o 9 (.conv .u64 8),o 10 (.bin .shl (k 1) 9),o 11 (.bin .sub 10 (k 1)),m 2 11]
def c:=(s (d r0 [0,2]) (s (s (d r1 [3,4]) (i 5 (s (d r2 [1,5]) .ret) .skip)) (s (d r3 [1,5,6,7,8,9,10,11]) .ret)))
end ref21_High
def ref21_High:AFn:=⟨1,ref21_High.c,[.tmp 2],false⟩
namespace ref21_Fits
def r0:=[o 2 (.box 2 0),o 4 (.mov (.c (.bool false)))]
def r1:=[o 5 (.ld true 4 2),o 6 (.call 11 [5]),m 7 6,g 8 7 true (.mov 1),g 9 7 true (.ld true 4 2),g 10 7 true (.call 12 [9]),g 11 7 true (.ld true 4 2),
 g 12 7 true (.call 13 [11]),g 13 7 true (.call 10 [8,10,12]),o 14 (.pick 7 13 (.c (.bool false))),m 4 14]
def c:=(s (d r0 [0,4]) (s (e r1 [1,2,5,6,7,8,9,10,11,12,13,14]) .ret))
end ref21_Fits
def ref21_Fits:AFn:=⟨2,ref21_Fits.c,[.tmp 4],false⟩
namespace ref21_SameInts
def r0:=[o 4 (.mov (.c (.bool false)))]
def r1:=[m 6 0,o 7 (.len 6),m 8 1,o 9 (.len 8),o 10 (.bin .neq 7 9)]
def r2:=[o 4 (.mov (.c (.bool false)))]
def r3:=[o 5 (.mov (k 0))]
def r4:=[m 11 5,m 12 0,o 13 (.len 12),o 14 (.bin .lss 11 13)]
def r6:=[m 17 0,m 18 5,o 19 (.iadr none 1 17 18),o 20 (.ld false 1 19),m 21 1,m 22 5,o 23 (.iadr none 1 21 22),o 24 (.ld false 1 23),o 25 (.bin .neq 20 24)]
def r7:=[o 4 (.mov (.c (.bool false)))]
def r5:=[m 15 5,o 16 (.bin .add 15 (k 1)),m 5 16]
def r8:=[o 4 (.mov (.c (.bool true)))]
def l1:=(s (s (d r4 [11,12,13]) (i 14 .skip (x 0))) (s (b 1 (s (e r6 [14,17,18,19,20,21,22,23,24]) (i 25 (s (d r7 [0,1,5,25]) .ret) .skip))) (d r5 [15,16,25])))
def c:=(s (d r0 [4]) (s (s (d r1 [6,7,8,9]) (i 10 (s (d r2 [0,1,10]) .ret) .skip)) (s (s (d r3 [10]) (b 0 (w l1))) (s (d r8 [0,1,5,14]) .ret))))
end ref21_SameInts
def ref21_SameInts:AFn:=⟨2,ref21_SameInts.c,[.tmp 4],false⟩
structure FixedLib (L:Lib):Prop where
 fixed_mode:L 1=some F.fixed_mode
 fixed_Valid:L 2=some F.fixed_Valid
 fixed_Low:L 3=some F.fixed_Low
 fixed_High:L 4=some F.fixed_High
 fixed_Fits:L 5=some F.fixed_Fits
 fixed_Shift:L 6=some F.fixed_Shift
 fixed_Wrap:L 7=some F.fixed_Wrap
 fixed_Saturate:L 8=some F.fixed_Saturate
 fixed_Reduce:L 9=some F.fixed_Reduce
 ref21_In:L 10=some F.ref21_In
 ref21_Valid:L 11=some F.ref21_Valid
 ref21_Low:L 12=some F.ref21_Low
 ref21_High:L 13=some F.ref21_High
 ref21_Fits:L 14=some F.ref21_Fits
 ref21_SameInts:L 20=some F.ref21_SameInts
end Go.Eng.F

namespace Go.Eng.F
open C
namespace network_Valid
def r0:=[o 1 (.box 1 0),o 2 (.mov (.c (.bool false)))]
def r1:=[o 10 (.fadr 1 0),o 11 (.ld true 4 10),o 12 (.call 2 [11]),o 13 (.un .not 12),m 14 13,g 15 14 false (.fadr 1 4),g 16 14 false (.ld true 4 15),
 g 17 14 false (.call 2 [16]),g 18 14 false (.un .not 17),o 19 (.pick 14 (.c (.bool true)) 18)]
def r2:=[o 2 (.mov (.c (.bool false)))]
def r3:=[o 20 (.fadr 1 8),o 21 (.ld false 1 20),o 22 (.bin .lss 21 (k 0)),m 23 22,g 24 23 false (.fadr 1 8),g 25 23 false (.ld false 1 24),
 g 26 23 false (.bin .gtr 25 (k 64)),o 27 (.pick 23 (.c (.bool true)) 26),m 28 27,g 29 28 false (.fadr 1 9),g 30 28 false (.ld false 1 29),
 g 31 28 false (.len 30),g 32 28 false (.bin .gtr 31 (k 64)),o 33 (.pick 28 (.c (.bool true)) 32),m 34 33,g 35 34 false (.fadr 1 10),
 g 36 34 false (.ld false 1 35),g 37 34 false (.len 36),g 38 34 false (.fadr 1 8),g 39 34 false (.ld false 1 38),g 40 34 false (.bin .neq 37 39),
 o 41 (.pick 34 (.c (.bool true)) 40)]
def r4:=[o 2 (.mov (.c (.bool false)))]
def r5:=[o 42 (.fadr 1 9),o 43 (.ld false 1 42),o 44 (.len 43),o 45 (.mov (k 0))]
def r6:=[o 46 (.bin .lss 45 44)]
def r7:=[m 47 45,o 48 (.iadr none 1 43 45),o 49 (.ld true 1 48),o 4 (.alloc 4 [.nil]),m 3 47,n (.st 1 4 49)]
def r8:=[o 50 (.fadr 4 0),o 51 (.ld false 1 50),o 52 (.len 51),o 53 (.bin .gtr 52 (k 64))]
def r9:=[o 2 (.mov (.c (.bool false)))]
def r10:=[o 54 (.fadr 4 0),o 55 (.ld false 1 54),o 56 (.len 55),o 57 (.mov (k 0))]
def r11:=[o 58 (.bin .lss 57 56)]
def r12:=[o 59 (.iadr none 2 55 57),o 60 (.ld true 2 59),o 6 (.alloc 6 [z,z]),n (.st 2 6 60)]
def r13:=[o 61 (.fadr 6 0),o 62 (.ld false 1 61),o 63 (.bin .lss 62 (k 0)),m 64 63,g 65 64 false (.fadr 6 0),g 66 64 false (.ld false 1 65),
 g 67 64 false (.fadr 1 8),g 68 64 false (.ld false 1 67),g 69 64 false (.mov 3),g 70 64 false (.bin .add 68 69),g 71 64 false (.bin .gtr 66 70),
 o 72 (.pick 64 (.c (.bool true)) 71)]
def r14:=[o 2 (.mov (.c (.bool false)))]
def r15:=[o 73 (.fadr 6 1),o 74 (.ld false 1 73),o 75 (.fadr 1 4),o 76 (.fadr 75 1),o 77 (.ld false 1 76),o 78 (.bin .shl (k 1) 77),o 79 (.bin .neq 74 78),m 80 79,
 g 81 80 true (.fadr 1 4),g 82 80 true (.ld true 4 81),g 83 80 true (.fadr 6 1),g 84 80 true (.ld false 1 83),g 85 80 true (.call 5 [82,84]),
 g 86 80 true (.un .not 85),o 87 (.pick 80 86 (.c (.bool false)))]
def r16:=[o 2 (.mov (.c (.bool false)))]
def r17:=[o 88 (.bin .add 57 (k 1)),m 57 88]
def r18:=[o 89 (.bin .add 45 (k 1)),m 45 89]
def r19:=[o 90 (.fadr 1 8),o 91 (.ld false 1 90),o 92 (.fadr 1 9),o 93 (.ld false 1 92),o 94 (.len 93),o 95 (.bin .add 91 94),m 7 95]
def r20:=[o 96 (.fadr 1 10),o 97 (.ld false 1 96),o 98 (.len 97),o 99 (.mov (k 0))]
def r21:=[o 100 (.bin .lss 99 98)]
def r22:=[o 101 (.iadr none 1 97 99),o 102 (.ld false 1 101),m 9 102]
def r23:=[m 103 9,o 104 (.bin .lss 103 (k 0)),m 105 104,g 106 105 false (.mov 9),g 107 105 false (.mov 7),g 108 105 false (.bin .gtr 106 107),
 o 109 (.pick 105 (.c (.bool true)) 108)]
def r24:=[o 2 (.mov (.c (.bool false)))]
def r25:=[o 110 (.bin .add 99 (k 1)),m 99 110]
def r26:=[o 111 (.fadr 1 11),o 112 (.ld false 1 111),o 113 (.bin .geq 112 (k 0)),m 114 113,g 115 114 true (.fadr 1 11),g 116 114 true (.ld false 1 115),
 g 117 114 true (.mov 7),g 118 114 true (.bin .leq 116 117),o 119 (.pick 114 118 (.c (.bool false))),m 2 119]
def l2:=(s (p r11) (s (i 58 .skip (x 2)) (s (b 3 (s (d r12 [58,59,60]) (s (s (d r13 [61,62,63,64,65,66,67,68,69,70,71]) (i 72 (s (d r14 [1,3,6,43,44,45,55,56,57,72]) .ret) .skip)) (s (e r15 [6,72,73,74,75,76,77,78,79,80,81,82,83,84,85,86]) (i 87 (s (d r16 [1,3,43,44,45,55,56,57,87]) .ret) .skip))))) (d r17 [87,88]))))
def l1:=(s (p r6) (s (i 46 .skip (x 0)) (s (b 1 (s (d r7 [46,47,48,49]) (s (s (d r8 [50,51,52]) (i 53 (s (d r9 [1,3,4,43,44,45,53]) .ret) .skip)) (s (d r10 [4,53,54]) (b 2 (w l2)))))) (d r18 [3,55,56,57,58,89]))))
def l3:=(s (p r21) (s (i 100 .skip (x 4)) (s (b 5 (s (d r22 [100,101,102]) (s (d r23 [9,103,104,105,106,107,108]) (i 109 (s (d r24 [1,7,97,98,99,109]) .ret) .skip)))) (d r25 [109,110]))))
def c:=(s (d r0 [0,2]) (s (s (d r1 [10,11,12,13,14,15,16,17,18]) (i 19 (s (d r2 [1,19]) .ret) .skip)) (s (s (d r3 [19,20,21,22,23,24,25,26,27,28,29,30,31,32,33,34,35,36,37,38,39,40]) (i 41 (s (d r4 [1,41]) .ret) .skip)) (s (s (d r5 [41,42]) (b 0 (w l1))) (s (d r19 [43,44,45,46,90,91,92,93,94,95]) (s (s (d r20 [96]) (b 4 (w l3))) (s (d r26 [1,7,97,98,99,100,111,112,113,114,115,116,117,118,119]) .ret)))))))
end network_Valid
def network_Valid:AFn:=⟨1,network_Valid.c,[.tmp 2],false⟩
namespace network_wrong
def r0:=[o 3 (.box 3 0),o 6 (.mov (k 0))]
def r1:=[m 11 1,o 12 (.len 11),o 13 (.fadr 3 8),o 14 (.ld false 1 13),o 15 (.bin .neq 12 14)]
def r2:=[o 6 (.mov (k 1))]
def r3:=[m 16 1,o 17 (.len 16),o 18 (.mov (k 0))]
def r4:=[o 19 (.bin .lss 18 17)]
def r5:=[o 20 (.iadr none 1 16 18),o 21 (.ld false 1 20),m 8 21]
def r6:=[o 22 (.fadr 3 0),o 23 (.ld true 4 22),m 24 8,o 25 (.call 5 [23,24]),o 26 (.un .not 25)]
def r7:=[o 6 (.mov (k 17))]
def r8:=[o 27 (.bin .add 18 (k 1)),m 18 27]
def r9:=[m 28 2,o 29 (.len 28),o 30 (.mov (k 0))]
def r10:=[o 31 (.bin .lss 30 29)]
def r11:=[o 32 (.iadr none 1 28 30),o 33 (.ld false 1 32),m 10 33]
def r12:=[o 34 (.fadr 3 0),o 35 (.ld true 4 34),m 36 10,o 37 (.call 5 [35,36]),o 38 (.un .not 37)]
def r13:=[o 6 (.mov (k 17))]
def r14:=[o 39 (.bin .add 30 (k 1)),m 30 39]
def r15:=[o 6 (.mov (k 0))]
def l1:=(s (p r4) (s (i 19 .skip (x 0)) (s (b 1 (s (d r5 [19,20,21]) (s (d r6 [8,22,23,24,25]) (i 26 (s (d r7 [2,3,16,17,18,26]) .ret) .skip)))) (d r8 [26,27]))))
def l2:=(s (p r10) (s (i 31 .skip (x 2)) (s (b 3 (s (d r11 [31,32,33]) (s (d r12 [10,34,35,36,37]) (i 38 (s (d r13 [3,28,29,30,38]) .ret) .skip)))) (d r14 [38,39]))))
def c:=(s (d r0 [0,6]) (s (s (d r1 [11,12,13,14]) (i 15 (s (d r2 [1,2,3,15]) .ret) .skip)) (s (s (d r3 [1,15]) (b 0 (w l1))) (s (s (d r9 [2,16,17,18,19]) (b 2 (w l2))) (s (d r15 [3,28,29,30,31]) .ret)))))
end network_wrong
def network_wrong:AFn:=⟨3,network_wrong.c,[.tmp 6],false⟩
namespace network_compute
def r0:=[o 3 (.box 3 0),o 6 (.mov (.c .nil)),o 7 (.mov (.c (.bool false)))]
def r1:=[o 16 (.fadr 3 8),o 17 (.ld false 1 16),o 18 (.bin .add (k 1) 17),o 19 (.fadr 3 9),o 20 (.ld false 1 19),o 21 (.len 20),o 22 (.bin .add 18 21),
 o 23 (.mk 23 1 8 [z] (k 0) 22),m 8 23]
def r2:=[m 24 8,m 25 2,o 26 (.bslice 26 1 [25]),o 27 (.app 27 1 8 24 26),m 8 27]
def r3:=[m 28 8,m 29 1,o 30 (.app 30 1 8 28 29),m 8 30]
def r4:=[o 9 (.mov (.c (.bool false)))]
def r5:=[o 31 (.fadr 3 9),o 32 (.ld false 1 31),o 33 (.len 32),o 34 (.mov (k 0))]
def r6:=[o 35 (.bin .lss 34 33)]
def r7:=[o 36 (.iadr none 1 32 34),o 37 (.ld true 1 36),o 11 (.alloc 11 [.nil]),n (.st 1 11 37)]
def r8:=[o 12 (.mov (k 0))]
def r9:=[o 38 (.fadr 11 0),o 39 (.ld false 1 38),o 40 (.len 39),o 41 (.mov (k 0))]
def r10:=[o 42 (.bin .lss 41 40)]
def r11:=[o 43 (.iadr none 2 39 41),o 44 (.ld true 2 43),o 14 (.alloc 14 [z,z]),n (.st 2 14 44)]
def r12:=[m 45 12,o 46 (.fadr 14 1),o 47 (.ld false 1 46),m 48 8,o 49 (.fadr 14 0),o 50 (.ld false 1 49),o 51 (.iadr none 1 48 50),o 52 (.ld false 1 51),
 o 53 (.bin .mul 47 52),o 54 (.bin .add 45 53),m 12 54]
def r13:=[o 55 (.bin .add 41 (k 1)),m 41 55]
def r14:=[m 56 12,o 57 (.fadr 3 4),o 58 (.fadr 57 1),o 59 (.ld false 1 58),o 60 (.fadr 3 0),o 61 (.fadr 60 2),o 62 (.ld false 1 61),o 63 (.call 6 [56,59,62]),
 m 15 63]
def r15:=[m 64 9,m 65 64,g 66 65 false (.fadr 3 0),g 67 65 false (.ld true 4 66),g 68 65 false (.mov 15),g 69 65 false (.call 5 [67,68]),
 g 70 65 false (.un .not 69),o 71 (.pick 65 (.c (.bool true)) 70),m 9 71]
def r16:=[m 72 8,o 73 (.fadr 3 0),o 74 (.ld true 4 73),m 75 15,o 76 (.call 9 [74,75]),o 77 (.bslice 77 1 [76]),o 78 (.app 78 1 8 72 77),m 8 78]
def r17:=[o 79 (.bin .add 34 (k 1)),m 34 79]
def r18:=[m 80 8,m 81 9,m 6 80,m 7 81]
def l2:=(s (p r10) (s (i 42 .skip (x 2)) (s (b 3 (s (d r11 [42,43,44]) (e r12 [14,45,46,47,48,49,50,51,52,53,54]))) (d r13 [55]))))
def l1:=(s (p r6) (s (i 35 .skip (x 0)) (s (b 1 (s (d r7 [35,36,37]) (s (p r8) (s (s (d r9 [11,38]) (b 2 (w l2))) (s (d r14 [12,39,40,41,42,56,57,58,59,60,61,62,63]) (s (d r15 [64,65,66,67,68,69,70,71]) (d r16 [15,72,73,74,75,76,77,78]))))))) (d r17 [79]))))
def c:=(s (d r0 [0,6,7]) (s (d r1 [16,17,18,19,20,21,22,23]) (s (d r2 [2,24,25,26,27]) (s (d r3 [1,28,29,30]) (s (p r4) (s (s (d r5 [31]) (b 0 (w l1))) (s (d r18 [3,8,9,32,33,34,35,80,81]) .ret)))))))
end network_compute
def network_compute:AFn:=⟨3,network_compute.c,[.tmp 6,.tmp 7],false⟩
namespace network_Values
def r0:=[o 3 (.box 3 0),o 6 (.mov (.c .nil)),o 7 (.mov (.c (.bool false))),o 8 (.mov (k 0))]
def r1:=[o 12 (.ld true 12 3),o 13 (.call 21 [12]),o 14 (.un .not 13)]
def r2:=[o 6 (.mov (.c .nil)),o 7 (.mov (.c (.bool false))),o 8 (.mov (k 2))]
def r3:=[o 15 (.ld true 12 3),m 16 1,m 17 2,o 18 (.bslice 18 1 [17]),o 19 (.call 22 [15,16,18]),m 9 19]
def r4:=[m 20 9,o 21 (.bin .neq 20 (k 0))]
def r5:=[m 22 9,o 6 (.mov (.c .nil)),o 7 (.mov (.c (.bool false))),m 8 22]
def r6:=[o 24 (.ld true 12 3),m 25 1,m 26 2,o 27 (.call 23 [24,25,26]),m 23 27,o 28 (.ext 23 0),o 29 (.ext 23 1),m 10 28,m 11 29]
def r7:=[m 30 10,m 31 11,m 6 30,m 7 31,o 8 (.mov (k 0))]
def c:=(s (d r0 [0,6,7,8]) (s (s (d r1 [12,13]) (i 14 (s (d r2 [1,2,3,14]) .ret) .skip)) (s (s (d r3 [14,15,16,17,18,19]) (s (d r4 [20]) (i 21 (s (d r5 [1,2,3,9,21,22]) .ret) .skip))) (s (d r6 [1,2,3,9,21,23,24,25,26,27,28,29]) (s (d r7 [10,11,30,31]) .ret)))))
end network_Values
def network_Values:AFn:=⟨3,network_Values.c,[.tmp 6,.tmp 7,.tmp 8],false⟩
namespace network_follow
def r0:=[o 2 (.box 2 0),o 4 (.mov (.c .nil))]
def r1:=[o 8 (.fadr 2 8),o 9 (.ld false 1 8),o 10 (.mk 10 1 8 [z] 9 9),m 5 10]
def r2:=[o 11 (.fadr 2 10),o 12 (.ld false 1 11),o 13 (.len 12),o 14 (.mov (k 0))]
def r3:=[o 15 (.bin .lss 14 13)]
def r4:=[m 16 14,o 17 (.iadr none 1 12 14),o 18 (.ld false 1 17),m 6 16,m 7 18]
def r5:=[m 19 5,m 20 6,m 21 1,m 22 7,o 23 (.iadr none 1 21 22),o 24 (.ld false 1 23),o 25 (.iadr none 1 19 20),n (.st 1 25 24)]
def r6:=[o 26 (.bin .add 14 (k 1)),m 14 26]
def r7:=[m 27 5,m 4 27]
def l1:=(s (p r3) (s (i 15 .skip (x 0)) (s (b 1 (s (d r4 [15,16,17,18]) (d r5 [6,7,19,20,21,22,23,24,25]))) (d r6 [26]))))
def c:=(s (d r0 [0,4]) (s (d r1 [8,9,10]) (s (s (d r2 [2,11]) (b 0 (w l1))) (s (d r7 [1,5,12,13,14,15,27]) .ret))))
end network_follow
def network_follow:AFn:=⟨2,network_follow.c,[.tmp 4],false⟩
namespace network_Step
def r0:=[o 3 (.box 3 0),o 6 (.mov (.c .nil)),o 7 (.mov (k 0)),o 8 (.mov (.c (.bool false))),o 9 (.mov (k 0))]
def r1:=[o 14 (.ld true 12 3),m 15 1,m 16 2,o 17 (.call 24 [14,15,16]),m 13 17,o 18 (.ext 13 0),o 19 (.ext 13 1),o 20 (.ext 13 2),m 10 18,m 11 19,m 12 20]
def r2:=[m 21 12,o 22 (.bin .neq 21 (k 0))]
def r3:=[m 23 12,o 6 (.mov (.c .nil)),o 7 (.mov (k 0)),o 8 (.mov (.c (.bool false))),m 9 23]
def r4:=[o 24 (.ld true 12 3),m 25 10,o 26 (.call 25 [24,25]),m 27 10,o 28 (.fadr 3 11),o 29 (.ld false 1 28),o 30 (.iadr none 1 27 29),o 31 (.ld false 1 30),
 m 32 11,m 6 26,m 7 31,m 8 32,o 9 (.mov (k 0))]
def c:=(s (d r0 [0,6,7,8,9]) (s (d r1 [1,2,13,14,15,16,17,18,19,20]) (s (s (d r2 [21]) (i 22 (s (d r3 [3,10,11,12,22,23]) .ret) .skip)) (s (e r4 [3,10,11,12,22,24,25,26,27,28,29,30,31,32]) .ret))))
end network_Step
def network_Step:AFn:=⟨3,network_Step.c,[.tmp 6,.tmp 7,.tmp 8,.tmp 9],false⟩
namespace ref22_Valid
def r0:=[o 1 (.box 1 0),o 2 (.mov (.c (.bool false)))]
def r1:=[o 8 (.fadr 1 0),o 9 (.ld true 4 8),o 10 (.call 11 [9]),o 11 (.un .not 10),m 12 11,g 13 12 false (.fadr 1 4),g 14 12 false (.ld true 4 13),
 g 15 12 false (.call 11 [14]),g 16 12 false (.un .not 15),o 17 (.pick 12 (.c (.bool true)) 16),m 18 17,g 19 18 false (.fadr 1 8),
 g 20 18 false (.ld false 1 19),g 21 18 false (.call 10 [20,(k 0),(k 64)]),g 22 18 false (.un .not 21),o 23 (.pick 18 (.c (.bool true)) 22),m 24 23,
 g 25 24 false (.fadr 1 9),g 26 24 false (.ld false 1 25),g 27 24 false (.len 26),g 28 24 false (.bin .gtr 27 (k 64)),o 29 (.pick 24 (.c (.bool true)) 28),
 m 30 29,g 31 30 false (.fadr 1 10),g 32 30 false (.ld false 1 31),g 33 30 false (.len 32),g 34 30 false (.fadr 1 8),g 35 30 false (.ld false 1 34),
 g 36 30 false (.bin .neq 33 35),o 37 (.pick 30 (.c (.bool true)) 36)]
def r2:=[o 2 (.mov (.c (.bool false)))]
def r3:=[o 3 (.mov (k 0))]
def r4:=[m 38 3,o 39 (.fadr 1 9),o 40 (.ld false 1 39),o 41 (.len 40),o 42 (.bin .lss 38 41)]
def r6:=[o 45 (.fadr 1 9),o 46 (.ld false 1 45),m 47 3,o 48 (.iadr none 1 46 47),o 49 (.fadr 48 0),o 50 (.ld false 1 49),o 51 (.len 50),
 o 52 (.bin .gtr 51 (k 64))]
def r7:=[o 2 (.mov (.c (.bool false)))]
def r8:=[o 4 (.mov (k 0))]
def r9:=[m 53 4,o 54 (.fadr 1 9),o 55 (.ld false 1 54),m 56 3,o 57 (.iadr none 1 55 56),o 58 (.fadr 57 0),o 59 (.ld false 1 58),o 60 (.len 59),
 o 61 (.bin .lss 53 60)]
def r11:=[o 64 (.fadr 1 9),o 65 (.ld false 1 64),m 66 3,o 67 (.iadr none 1 65 66),o 68 (.fadr 67 0),o 69 (.ld false 1 68),m 70 4,o 71 (.iadr none 2 69 70),
 o 72 (.ld true 2 71),o 5 (.alloc 5 [z,z]),n (.st 2 5 72)]
def r12:=[o 73 (.fadr 5 0),o 74 (.ld false 1 73),o 75 (.fadr 1 8),o 76 (.ld false 1 75),m 77 3,o 78 (.bin .add 76 77),o 79 (.call 10 [74,(k 0),78]),
 o 80 (.un .not 79),m 81 80,g 82 81 false (.fadr 1 4),g 83 81 false (.ld true 4 82),g 84 81 false (.fadr 5 1),g 85 81 false (.ld false 1 84),
 g 86 81 false (.call 14 [83,85]),g 87 81 false (.un .not 86),g 88 81 false (.mov 87),g 89 88 true (.fadr 5 1),g 90 88 true (.ld false 1 89),
 g 91 88 true (.fadr 1 4),g 92 88 true (.fadr 91 1),g 93 88 true (.ld false 1 92),g 94 88 true (.conv .u64 93),g 95 88 true (.bin .shl (k 1) 94),
 g 96 88 true (.bin .neq 90 95),g 97 81 false (.pick 88 96 (.c (.bool false))),o 98 (.pick 81 (.c (.bool true)) 97)]
def r13:=[o 2 (.mov (.c (.bool false)))]
def r10:=[m 62 4,o 63 (.bin .add 62 (k 1)),m 4 63]
def r5:=[m 43 3,o 44 (.bin .add 43 (k 1)),m 3 44]
def r14:=[o 99 (.fadr 1 8),o 100 (.ld false 1 99),o 101 (.fadr 1 9),o 102 (.ld false 1 101),o 103 (.len 102),o 104 (.bin .add 100 103),m 6 104]
def r15:=[o 7 (.mov (k 0))]
def r16:=[m 105 7,o 106 (.fadr 1 8),o 107 (.ld false 1 106),o 108 (.bin .lss 105 107)]
def r18:=[o 111 (.fadr 1 10),o 112 (.ld false 1 111),m 113 7,o 114 (.iadr none 1 112 113),o 115 (.ld false 1 114),m 116 6,o 117 (.call 10 [115,(k 0),116]),
 o 118 (.un .not 117)]
def r19:=[o 2 (.mov (.c (.bool false)))]
def r17:=[m 109 7,o 110 (.bin .add 109 (k 1)),m 7 110]
def r20:=[o 119 (.fadr 1 11),o 120 (.ld false 1 119),m 121 6,o 122 (.call 10 [120,(k 0),121]),m 2 122]
def l2:=(s (s (d r9 [53,54,55,56,57,58,59,60]) (i 61 .skip (x 2))) (s (b 3 (s (d r11 [61,64,65,66,67,68,69,70,71,72]) (s (d r12 [5,73,74,75,76,77,78,79,80,81,82,83,84,85,86,87,88,89,90,91,92,93,94,95,96,97]) (i 98 (s (d r13 [1,3,4,98]) .ret) .skip)))) (d r10 [62,63,98])))
def l1:=(s (s (d r4 [38,39,40,41]) (i 42 .skip (x 0))) (s (b 1 (s (s (d r6 [42,45,46,47,48,49,50,51]) (i 52 (s (d r7 [1,3,52]) .ret) .skip)) (s (d r8 [52]) (b 2 (w l2))))) (d r5 [4,43,44,61])))
def l3:=(s (s (d r16 [105,106,107]) (i 108 .skip (x 4))) (s (b 5 (s (d r18 [108,111,112,113,114,115,116,117]) (i 118 (s (d r19 [1,6,7,118]) .ret) .skip))) (d r17 [109,110,118])))
def c:=(s (d r0 [0,2]) (s (s (d r1 [8,9,10,11,12,13,14,15,16,17,18,19,20,21,22,23,24,25,26,27,28,29,30,31,32,33,34,35,36]) (i 37 (s (d r2 [1,37]) .ret) .skip)) (s (s (d r3 [37]) (b 0 (w l1))) (s (d r14 [3,42,99,100,101,102,103,104]) (s (s (p r15) (b 4 (w l3))) (s (d r20 [1,6,7,108,119,120,121,122]) .ret))))))
end ref22_Valid
def ref22_Valid:AFn:=⟨1,ref22_Valid.c,[.tmp 2],false⟩
structure NetLib (L:Lib):Prop extends FixedLib L where
 network_Valid:L 21=some F.network_Valid
 network_wrong:L 22=some F.network_wrong
 network_compute:L 23=some F.network_compute
 network_Values:L 24=some F.network_Values
 network_follow:L 25=some F.network_follow
 network_Step:L 26=some F.network_Step
 ref22_Valid:L 27=some F.ref22_Valid
end Go.Eng.F

namespace Go.Eng.F
open C
namespace world_Within
def r0:=[o 4 (.mov (k 0))]
def r1:=[m 5 1,o 6 (.bin .lss 5 (k 1))]
def r2:=[o 4 (.mov (k 0))]
def r3:=[m 7 0,m 8 1,o 9 (.bin .rem 7 8),m 0 9]
def r4:=[m 10 0,o 11 (.bin .lss 10 (k 0))]
def r5:=[m 12 0,m 13 1,o 14 (.bin .add 12 13),m 0 14]
def r6:=[m 15 0,m 4 15]
def c:=(s (d r0 [4]) (s (s (d r1 [5]) (i 6 (s (d r2 [0,1,6]) .ret) .skip)) (s (d r3 [6,7,8,9]) (s (s (d r4 [10]) (i 11 (d r5 [1,11,12,13,14]) .skip)) (s (d r6 [0,1,11,15]) .ret)))))
end world_Within
def world_Within:AFn:=⟨2,world_Within.c,[.tmp 4],false⟩
namespace world_At
def r0:=[o 4 (.mov (k 0))]
def r1:=[m 5 1,o 6 (.bin .geq 5 (k 0)),m 7 6,g 8 7 true (.mov 1),g 9 7 true (.mov 0),g 10 7 true (.len 9),g 11 7 true (.bin .lss 8 10),
 o 12 (.pick 7 11 (.c (.bool false)))]
def r2:=[m 13 0,m 14 1,o 15 (.iadr none 1 13 14),o 16 (.ld false 1 15),m 4 16]
def r3:=[o 4 (.mov (k 0))]
def c:=(s (d r0 [4]) (s (s (d r1 [5,6,7,8,9,10,11]) (i 12 (s (d r2 [0,1,12,13,14,15,16]) .ret) .skip)) (s (d r3 [0,1,12]) .ret)))
end world_At
def world_At:AFn:=⟨2,world_At.c,[.tmp 4],false⟩
namespace world_Word
def r0:=[o 8 (.alloc 8 [z,z,z,z])]
def r1:=[m 10 0,o 11 (.call 34 [10,(k 1099511627776)]),m 0 11]
def r2:=[m 12 1,m 13 0,m 14 2,m 15 1,o 16 (.bin .sub 14 15),o 17 (.bin .add 16 (k 1)),o 18 (.bin .rem 13 17),o 19 (.bin .add 12 18),
 o 20 (.build [z,z,z,z] [(0,1,19)]),o 9 (.alloc 9 [z,z,z,z]),n (.st 4 9 20)]
def r3:=[m 21 0,m 22 2,m 23 1,o 24 (.bin .sub 22 23),o 25 (.bin .add 24 (k 1)),o 26 (.bin .quo 21 25),m 0 26]
def r4:=[o 27 (.fadr 9 0),o 28 (.ld false 1 27),o 29 (.bin .sub 28 (k 1)),m 30 3,o 31 (.bin .sub 29 30),m 32 0,o 33 (.bin .rem 32 (k 2)),o 34 (.bin .sub 31 33),
 o 35 (.fadr 9 1),n (.st 1 35 34)]
def r5:=[m 36 0,o 37 (.bin .quo 36 (k 2)),m 0 37]
def r6:=[o 38 (.fadr 9 1),o 39 (.ld false 1 38),o 40 (.mm true [39,(k 0)]),o 41 (.fadr 9 1),n (.st 1 41 40)]
def r7:=[m 42 0,o 43 (.bin .rem 42 (k 3)),o 44 (.bin .add (k 1) 43),m 45 0,o 46 (.bin .quo 45 (k 3)),o 47 (.bin .rem 46 (k 2)),o 48 (.bin .add (k 1) 47),
 o 49 (.fadr 9 2),n (.st 1 49 44),o 50 (.fadr 9 3),n (.st 1 50 48)]
def r8:=[o 51 (.ld true 4 9),n (.st 4 8 51)]
def c:=(s (p r0) (s (d r1 [10,11]) (s (d r2 [12,13,14,15,16,17,18,19,20]) (s (d r3 [1,2,21,22,23,24,25,26]) (s (d r4 [3,27,28,29,30,31,32,33,34,35]) (s (d r5 [36,37]) (s (d r6 [38,39,40,41]) (s (d r7 [0,42,43,44,45,46,47,48,49,50]) (s (d r8 [9,51]) .ret)))))))))
end world_Word
def world_Word:AFn:=⟨4,world_Word.c,[.cell 8 true 4],false⟩
namespace world_Below
def r0:=[o 6 (.mov (.c .nil))]
def r1:=[o 7 (.vrow 7 1)]
def r2:=[o 8 (.mov (k 0))]
def r3:=[m 9 8,m 10 2,o 11 (.bin .lss 9 10)]
def r5:=[m 14 7,m 15 1,m 16 8,o 17 (.call 35 [15,16]),m 18 0,o 19 (.bin .add 17 18),m 20 0,o 21 (.bin .mul (k 2) 20),o 22 (.bin .add 21 (k 1)),
 o 23 (.call 34 [19,22]),m 24 0,o 25 (.bin .sub 23 24),o 26 (.bslice 26 1 [25]),o 27 (.app 27 1 8 14 26),m 7 27]
def r4:=[m 12 8,o 13 (.bin .add 12 (k 1)),m 8 13]
def r6:=[m 28 7,m 6 28]
def l1:=(s (s (d r3 [9,10]) (i 11 .skip (x 0))) (s (b 1 (d r5 [11,14,15,16,17,18,19,20,21,22,23,24,25,26,27])) (d r4 [12,13])))
def c:=(s (d r0 [6]) (s (p r1) (s (s (p r2) (b 0 (w l1))) (s (d r6 [0,1,2,7,8,11,28]) .ret))))
end world_Below
def world_Below:AFn:=⟨3,world_Below.c,[.tmp 6],false⟩
namespace world_Unit
def r0:=[o 1 (.box 1 0),o 2 (.mov (k 0))]
def r1:=[o 3 (.fadr 1 1),o 4 (.ld false 1 3),o 5 (.conv .u64 4),o 6 (.bin .shl (k 1) 5),m 2 6]
def c:=(s (d r0 [0,2]) (s (d r1 [1,3,4,5,6]) .ret))
end world_Unit
def world_Unit:AFn:=⟨1,world_Unit.c,[.tmp 2],false⟩
structure WorldLib (L:Lib):Prop extends FixedLib L where
 world_Within:L 34=some F.world_Within
 world_At:L 35=some F.world_At
 world_Word:L 36=some F.world_Word
 world_Below:L 40=some F.world_Below
 world_Unit:L 41=some F.world_Unit
end Go.Eng.F

namespace Go.Eng.F
open C
structure RunGLib (L:Lib):Prop extends NetLib L,WorldLib L where
end Go.Eng.F

namespace Go.Eng.F
open C
def kn435:Nat:=30
namespace slices_Compare_int_int
def r0:=[o 4 (.mov (k 0))]
def r1:=[m 9 0,o 10 (.len 9),o 11 (.mov (k 0))]
def r2:=[o 12 (.bin .lss 11 10)]
def r3:=[m 13 11,o 14 (.iadr none 1 9 11),o 15 (.ld false 1 14),m 5 13,m 6 15]
def r4:=[m 16 5,m 17 1,o 18 (.len 17),o 19 (.bin .geq 16 18)]
def r5:=[o 4 (.mov (k 1))]
def r6:=[m 20 1,m 21 5,o 22 (.iadr none 1 20 21),o 23 (.ld false 1 22),m 7 23]
def r7:=[m 24 6,m 25 7,o 26 (.call 60 [24,25]),m 8 26]
def r8:=[m 27 8,o 28 (.bin .neq 27 (k 0))]
def r9:=[m 29 8,m 4 29]
def r10:=[o 30 (.bin .add 11 (k 1)),m 11 30]
def r11:=[m 31 0,o 32 (.len 31),m 33 1,o 34 (.len 33),o 35 (.bin .lss 32 34)]
def r12:=[o 4 (.mov (k (-1)))]
def r13:=[o 4 (.mov (k 0))]
def l1:=(s (p r2) (s (i 12 .skip (x 0)) (s (b 1 (s (d r3 [12,13,14,15]) (s (s (d r4 [16,17,18]) (i 19 (s (d r5 [0,1,5,6,9,10,11,19]) .ret) .skip)) (s (d r6 [5,19,20,21,22,23]) (s (d r7 [6,7,24,25,26]) (s (d r8 [27]) (i 28 (s (d r9 [0,1,8,9,10,11,28,29]) .ret) .skip))))))) (d r10 [8,28,30]))))
def c:=(s (d r0 [4]) (s (s (p r1) (b 0 (w l1))) (s (s (d r11 [0,1,9,10,11,12,31,32,33,34]) (i 35 (s (d r12 [35]) .ret) .skip)) (s (d r13 [35]) .ret))))
end slices_Compare_int_int
def slices_Compare_int_int:AFn:=⟨2,slices_Compare_int_int.c,[.tmp 4],false⟩
namespace limitcycle_within
def r0:=[o 4 (.mov (.c (.bool false)))]
def r1:=[m 7 0,o 8 (.len 7),o 9 (.mov (k 0))]
def r2:=[o 10 (.bin .lss 9 8)]
def r3:=[m 11 9,o 12 (.iadr none 1 7 9),o 13 (.ld false 1 12),m 5 11,m 6 13]
def r4:=[m 14 6,m 15 1,m 16 5,o 17 (.iadr none 1 15 16),o 18 (.ld false 1 17),o 19 (.bin .gtr 14 18),m 20 19,g 21 20 false (.mov 6),g 22 20 false (.mov 1),
 g 23 20 false (.mov 5),g 24 20 false (.iadr none 1 22 23),g 25 20 false (.ld false 1 24),g 26 20 false (.un .neg 25),g 27 20 false (.bin .lss 21 26),
 o 28 (.pick 20 (.c (.bool true)) 27)]
def r5:=[o 4 (.mov (.c (.bool false)))]
def r6:=[o 29 (.bin .add 9 (k 1)),m 9 29]
def r7:=[o 4 (.mov (.c (.bool true)))]
def l1:=(s (p r2) (s (i 10 .skip (x 0)) (s (b 1 (s (d r3 [10,11,12,13]) (s (d r4 [5,6,14,15,16,17,18,19,20,21,22,23,24,25,26,27]) (i 28 (s (d r5 [1,7,8,9,28]) .ret) .skip)))) (d r6 [28,29]))))
def c:=(s (d r0 [4]) (s (s (d r1 [0]) (b 0 (w l1))) (s (d r7 [1,7,8,9,10]) .ret)))
end limitcycle_within
def limitcycle_within:AFn:=⟨2,limitcycle_within.c,[.tmp 4],false⟩
namespace limitcycle_next
def r0:=[o 4 (.mov (.c (.bool false)))]
def r1:=[m 6 0,o 7 (.len 6),o 8 (.bin .sub 7 (k 1)),m 5 8]
def r2:=[m 9 5,o 10 (.bin .geq 9 (k 0))]
def r4:=[m 13 0,m 14 5,o 15 (.iadr none 1 13 14),o 16 (.ld false 1 15),m 17 1,m 18 5,o 19 (.iadr none 1 17 18),o 20 (.ld false 1 19),o 21 (.bin .lss 16 20)]
def r5:=[m 22 0,m 23 5,o 24 (.iadr none 1 22 23),o 25 (.ld false 1 24),o 26 (.bin .add 25 (k 1)),o 27 (.iadr none 1 22 23),n (.st 1 27 26)]
def r6:=[o 4 (.mov (.c (.bool true)))]
def r7:=[m 28 0,m 29 5,m 30 1,m 31 5,o 32 (.iadr none 1 30 31),o 33 (.ld false 1 32),o 34 (.un .neg 33),o 35 (.iadr none 1 28 29),n (.st 1 35 34)]
def r3:=[m 11 5,o 12 (.bin .sub 11 (k 1)),m 5 12]
def r8:=[o 4 (.mov (.c (.bool false)))]
def l1:=(s (s (d r2 [9]) (i 10 .skip (x 0))) (s (b 1 (s (s (e r4 [10,13,14,15,16,17,18,19,20]) (i 21 (s (d r5 [0,1,5,21,22,23,24,25,26,27]) (s (p r6) .ret)) .skip)) (d r7 [21,28,29,30,31,32,33,34,35]))) (d r3 [11,12])))
def c:=(s (d r0 [4]) (s (s (d r1 [6,7,8]) (b 0 (w l1))) (s (d r8 [0,1,5,10]) .ret)))
end limitcycle_next
def limitcycle_next:AFn:=⟨2,limitcycle_next.c,[.tmp 4],false⟩
namespace limitcycle_cycle
def r0:=[o 4 (.alloc 4 [.nil,.nil])]
def r1:=[o 5 (.mov (k 0))]
def r2:=[m 10 0,o 11 (.len 10),o 12 (.mov (k 0))]
def r3:=[o 13 (.bin .lss 12 11)]
def r4:=[m 14 12,m 6 14]
def r5:=[m 15 0,m 16 6,o 17 (.iadr none 1 15 16),o 18 (.ld false 1 17),m 19 0,m 20 5,o 21 (.iadr none 1 19 20),o 22 (.ld false 1 21),o 23 (.call 424 [18,22]),
 o 24 (.bin .lss 23 (k 0))]
def r6:=[m 25 6,m 5 25]
def r7:=[o 26 (.bin .add 12 (k 1)),m 12 26]
def r8:=[o 7 (.alloc 7 [.nil,.nil])]
def r9:=[m 27 0,o 28 (.len 27),o 29 (.mov (k 0))]
def r10:=[o 30 (.bin .lss 29 28)]
def r11:=[m 31 29,m 8 31]
def r12:=[m 32 5,m 33 8,o 34 (.bin .add 32 33),m 35 0,o 36 (.len 35),o 37 (.bin .rem 34 36),m 9 37]
def r13:=[o 38 (.fadr 7 0),q 39 [40,46] (.ld false 1 38),o 40 (.bslice 40 1 []),m 41 0,m 42 9,o 43 (.iadr none 1 41 42),
 q 44 [40] (.ld false 1 43),o 45 (.appo 40 1 8 40 44),o 46 (.bslice 46 1 [45]),o 47 (.app 47 1 24 39 46),o 48 (.fadr 7 0),n (.st 1 48 47)]
def r14:=[o 49 (.fadr 7 1),q 50 [55] (.ld false 1 49),m 51 1,m 52 9,o 53 (.iadr none 1 51 52),o 54 (.ld false 1 53),o 55 (.bslice 55 1 [54]),
 o 56 (.app 56 1 8 50 55),o 57 (.fadr 7 1),n (.st 1 57 56)]
def r15:=[o 58 (.bin .add 29 (k 1)),m 29 58]
def r16:=[o 59 (.ld true 2 7),n (.st 2 4 59)]
def l1:=(s (p r3) (s (i 13 .skip (x 0)) (s (b 1 (s (d r4 [13,14]) (s (e r5 [15,16,17,18,19,20,21,22,23]) (i 24 (d r6 [6,24,25]) .skip)))) (d r7 [6,24,26]))))
def l2:=(s (p r10) (s (i 30 .skip (x 2)) (s (b 3 (s (d r11 [30,31]) (s (d r12 [8,32,33,34,35,36,37]) (s (e r13 [38,39,40,41,42,43,44,45,46,47,48]) (e r14 [9,49,50,51,52,53,54,55,56,57]))))) (d r15 [58]))))
def c:=(s (p r0) (s (p r1) (s (s (d r2 [10]) (b 0 (w l1))) (s (d r8 [11,12,13]) (s (s (d r9 [27]) (b 2 (w l2))) (s (d r16 [0,1,5,7,28,29,30,59]) .ret))))))
end limitcycle_cycle
def limitcycle_cycle:AFn:=⟨2,limitcycle_cycle.c,[.cell 4 true 2],false⟩
namespace limitcycle_check
def r0:=[o 3 (.box 3 0),o 6 (.mov (k 0))]
def r1:=[o 14 (.ld true 12 3),o 15 (.call 21 [14]),o 16 (.un .not 15)]
def r2:=[o 6 (.mov (k 2))]
def r3:=[m 17 2,o 18 (.len 17),o 19 (.fadr 3 8),o 20 (.ld false 1 19),o 21 (.bin .neq 18 20)]
def r4:=[o 6 (.mov (k 1))]
def r5:=[m 22 2,o 23 (.len 22),o 24 (.mov (k 0))]
def r6:=[o 25 (.bin .lss 24 23)]
def r7:=[o 26 (.iadr none 1 22 24),o 27 (.ld false 1 26),m 8 27]
def r8:=[m 28 8,o 29 (.bin .lss 28 (k 0))]
def r9:=[o 6 (.mov (k 1))]
def r10:=[o 30 (.bin .add 24 (k 1)),m 24 30]
def r11:=[o 31 (.fadr 3 0),o 32 (.ld true 4 31),m 33 1,o 34 (.call 5 [32,33]),o 35 (.un .not 34)]
def r12:=[o 6 (.mov (k 17))]
def r13:=[m 36 2,o 37 (.len 36),o 38 (.mov (k 0))]
def r14:=[o 39 (.bin .lss 38 37)]
def r15:=[o 40 (.iadr none 1 36 38),o 41 (.ld false 1 40),m 10 41]
def r16:=[o 42 (.fadr 3 0),o 43 (.ld true 4 42),m 44 10,o 45 (.call 5 [43,44]),o 46 (.un .not 45)]
def r17:=[o 6 (.mov (k 17))]
def r18:=[o 47 (.bin .add 38 (k 1)),m 38 47]
def r19:=[o 11 (.mov (k 1))]
def r20:=[m 48 2,o 49 (.len 48),o 50 (.mov (k 0))]
def r21:=[o 51 (.bin .lss 50 49)]
def r22:=[o 52 (.iadr none 1 48 50),o 53 (.ld false 1 52),m 13 53]
def r23:=[m 54 11,m 55 13,o 56 (.bin .mul (k 2) 55),o 57 (.bin .add 56 (k 1)),o 58 (.bin .mul 54 57),m 11 58]
def r24:=[m 59 11,o 60 (.bin .gtr 59 (k 4096))]
def r25:=[o 6 (.mov (k 5))]
def r26:=[o 61 (.bin .add 50 (k 1)),m 50 61]
def r27:=[o 6 (.mov (k 0))]
def l1:=(s (p r6) (s (i 25 .skip (x 0)) (s (b 1 (s (d r7 [25,26,27]) (s (d r8 [8,28]) (i 29 (s (d r9 [1,2,3,22,23,24,29]) .ret) .skip)))) (d r10 [29,30]))))
def l2:=(s (p r14) (s (i 39 .skip (x 2)) (s (b 3 (s (d r15 [39,40,41]) (s (d r16 [10,42,43,44,45]) (i 46 (s (d r17 [2,3,36,37,38,46]) .ret) .skip)))) (d r18 [46,47]))))
def l3:=(s (p r21) (s (i 51 .skip (x 4)) (s (b 5 (s (d r22 [51,52,53]) (s (d r23 [13,54,55,56,57,58]) (s (d r24 [59]) (i 60 (s (d r25 [11,48,49,50,60]) .ret) .skip))))) (d r26 [60,61]))))
def c:=(s (d r0 [0,6]) (s (s (d r1 [14,15]) (i 16 (s (d r2 [1,2,3,16]) .ret) .skip)) (s (s (d r3 [16,17,18,19,20]) (i 21 (s (d r4 [1,2,3,21]) .ret) .skip)) (s (s (d r5 [21]) (b 0 (w l1))) (s (s (d r11 [1,22,23,24,25,31,32,33,34]) (i 35 (s (d r12 [2,3,35]) .ret) .skip)) (s (s (d r13 [35]) (b 2 (w l2))) (s (d r19 [3,36,37,38,39]) (s (s (d r20 [2]) (b 4 (w l3))) (s (d r27 [11,48,49,50,51]) .ret)))))))))
end limitcycle_check
def limitcycle_check:AFn:=⟨3,limitcycle_check.c,[.tmp 6],false⟩
namespace limitcycle_explorer_walk
def r0:=[o 4 (.alloc 431004 [.nil,.nil]),o 5 (.mov (.c (.bool false))),o 6 (.mov (k 0))]
def r1:=[m 17 0,o 18 (.nck 17),o 19 (.fadr 18 15),o 20 (.ld false 1 19),o 21 (.bin .add 20 (k 1)),o 22 (.nck 17),o 23 (.fadr 22 15),n (.st 1 23 21)]
def r2:=[o 7 (.vrow 431007 1)]
def r3:=[o 8 (.vrow 431008 1)]
def r4:=[m 24 1,m 25 0,o 26 (.nck 25),o 27 (.fadr 26 13),o 28 (.ld false 1 27),o 29 (.call 425 [24,28])]
def r5:=[m 30 1,o 31 (.call 432 [30]),m 9 31]
def r6:=[m 33 0,o 34 (.nck 33),o 35 (.fadr 34 14),o 36 (.ld false 1 35),m 37 9,o 38 (.mlk 36 37),m 32 38,o 39 (.ext 32 0),o 40 (.ext 32 1),m 10 39,m 11 40]
def r7:=[m 41 11]
def r8:=[m 42 10,m 43 0,o 44 (.nck 43),o 45 (.fadr 44 15),o 46 (.ld false 1 45),o 47 (.bin .neq 42 46)]
def r9:=[o 48 (.build [.nil,.nil] []),n (.st 2 4 48),o 5 (.mov (.c (.bool false))),o 6 (.mov (k 0))]
def r10:=[o 12 (.mov (k 0))]
def r11:=[m 49 7,m 50 12,o 51 (.iadr none 1 49 50),o 52 (.ld false 1 51),m 53 1,o 54 (.call 424 [52,53]),o 55 (.bin .neq 54 (k 0))]
def r12:=[m 56 12,o 57 (.bin .add 56 (k 1)),m 12 57]
def r13:=[m 58 7,m 59 12,o 60 (.slc 1 58 (some 59) none),m 61 8,m 62 12,o 63 (.slc 1 61 (some 62) none),o 64 (.call 427 [60,63]),n (.st 2 4 64),
 o 5 (.mov (.c (.bool true))),o 6 (.mov (k 0))]
def r14:=[m 65 0,o 66 (.nck 65),o 67 (.fadr 66 14),o 68 (.ld false 1 67),m 69 9,m 70 0,o 71 (.nck 70),o 72 (.fadr 71 15),o 73 (.ld false 1 72),n (.mup 68 69 73)]
def r15:=[m 75 0,o 76 (.nck 75),o 77 (.fadr 76 0),o 78 (.ld true 12 77),m 79 1,m 80 0,o 81 (.nck 80),o 82 (.fadr 81 12),o 83 (.ld false 1 82),
 o 84 (.call 26 [78,79,83]),m 74 84,o 85 (.ext 74 0),o 86 (.ext 74 1),o 87 (.ext 74 2),o 88 (.ext 74 3),m 13 85,m 14 86,m 15 87,m 16 88]
def r16:=[m 89 16,o 90 (.bin .neq 89 (k 0))]
def r17:=[o 91 (.build [.nil,.nil] []),m 92 16,n (.st 2 4 91),o 5 (.mov (.c (.bool false))),m 6 92]
def r18:=[m 93 7,m 94 1,o 95 (.bslice 431095 1 [94]),o 96 (.app 431096 1 24 93 95),m 7 96]
def r19:=[m 97 8,m 98 14,o 99 (.bslice 431099 1 [98]),o 100 (.app 431100 1 8 97 99),m 8 100]
def r20:=[m 101 13,m 1 101]
def r21:=[o 102 (.build [.nil,.nil] []),n (.st 2 4 102),o 5 (.mov (.c (.bool false))),o 6 (.mov (k 0))]
def l2:=(s (s (d r11 [49,50,51,52,53,54]) (i 55 .skip (x 2))) (b 3 (d r12 [55,56,57])))
def l1:=(s (s (d r4 [24,25,26,27,28]) (i 29 .skip (x 0))) (b 1 (s (d r5 [29,30,31]) (s (s (d r6 [32,33,34,35,36,37,38,39,40]) (s (d r7 [11]) (i 41 (s (s (d r8 [0,9,10,41,42,43,44,45,46]) (i 47 (s (d r9 [1,7,8,47,48]) .ret) .skip)) (s (d r10 [47]) (s (b 2 (w l2)) (s (e r13 [1,7,8,12,55,58,59,60,61,62,63,64]) .ret)))) .skip))) (s (e r14 [9,10,41,65,66,67,68,69,70,71,72,73]) (s (e r15 [15,74,75,76,77,78,79,80,81,82,83,84,85,86,87,88]) (s (s (d r16 [89]) (i 90 (s (d r17 [0,1,7,8,13,14,16,90,91,92]) .ret) .skip)) (s (d r18 [1,16,90,93,94,95,96]) (s (d r19 [14,97,98,99,100]) (d r20 [13,101]))))))))))
def c:=(s (d r0 [5,6]) (s (d r1 [17,18,19,20,21,22,23]) (s (p r2) (s (p r3) (s (b 0 (w l1)) (s (d r21 [0,1,7,8,29,102]) .ret))))))
end limitcycle_explorer_walk
def limitcycle_explorer_walk:AFn:=⟨2,limitcycle_explorer_walk.c,[.cell 4 true 2,.tmp 5,.tmp 6],false⟩
namespace limitcycle_Cycles
def r0:=[o 3 (.box 3 0),o 6 (.mov (.c .nil)),o 7 (.mov (k 0))]
def r1:=[o 18 (.ld true 12 3),m 19 1,m 20 2,o 21 (.call 428 [18,19,20]),m 8 21]
def r2:=[m 22 8,o 23 (.bin .neq 22 (k 0))]
def r3:=[m 24 8,o 6 (.mov (.c .nil)),m 7 24]
def r4:=[o 25 (.ld true 12 3),m 26 1,m 27 2,o 28 (.mkm 960028),
 o 29 (.build [z,z,z,z,z,z,z,z,z,.nil,.nil,z,z,.nil,(.con (.map none)),z] [(0,12,25),(12,1,26),(13,1,27),(14,1,28)]),
 o 9 (.alloc 9 [z,z,z,z,z,z,z,z,z,.nil,.nil,z,z,.nil,(.con (.map none)),z]),n (.st 16 9 29)]
def r5:=[m 30 2,o 31 (.len 30),o 32 (.mk 32 1 8 [z] 31 31),m 10 32]
def r6:=[m 33 2,o 34 (.len 33),o 35 (.mov (k 0))]
def r7:=[o 36 (.bin .lss 35 34)]
def r8:=[m 37 35,o 38 (.iadr none 1 33 35),o 39 (.ld false 1 38),m 11 37,m 12 39]
def r9:=[m 40 10,m 41 11,m 42 12,o 43 (.un .neg 42),o 44 (.iadr none 1 40 41),n (.st 1 44 43)]
def r10:=[o 45 (.bin .add 35 (k 1)),m 35 45]
def r11:=[o 13 (.vrow 13 2)]
def r12:=[o 14 (.mov (.c (.bool true)))]
def r13:=[m 46 14]
def r15:=[o 51 (.bslice 51 1 []),m 52 10,o 53 (.apf 1 8 51 52),o 54 (.calli 431 [9,53]),m 50 54,o 55 (.ext 50 0),o 56 (.ext 50 1),o 57 (.ext 50 2),
 o 15 (.alloc 15 [.nil,.nil]),n (.st 2 15 55),m 16 56,m 17 57]
def r16:=[m 58 17,o 59 (.bin .neq 58 (k 0))]
def r17:=[m 60 17,o 6 (.mov (.c .nil)),m 7 60]
def r18:=[m 61 16]
def r19:=[m 62 13,o 63 (.ld true 2 15),o 64 (.bslice 64 2 [63]),o 65 (.app 65 2 48 62 64),m 13 65]
def r14:=[m 47 10,m 48 2,o 49 (.calli 426 [47,48]),m 14 49]
def r20:=[m 66 13,o 67 (.srt 434 435 2 66 (.c (.fn true 435 kn435 [])))]
def r21:=[m 68 13,m 6 68,o 7 (.mov (k 0))]
def l1:=(s (p r7) (s (i 36 .skip (x 0)) (s (b 1 (s (d r8 [36,37,38,39]) (d r9 [11,12,40,41,42,43,44]))) (d r10 [45]))))
def l2:=(s (s (d r13 [14]) (i 46 .skip (x 2))) (s (b 3 (s (d r15 [46,50,51,52,53,54,55,56,57]) (s (s (d r16 [58]) (i 59 (s (d r17 [2,9,10,13,15,16,17,59,60]) .ret) .skip)) (s (d r18 [16,17,59]) (i 61 (d r19 [15,61,62,63,64,65]) .skip))))) (d r14 [15,47,48,49,61])))
def c:=(s (d r0 [0,6,7]) (s (s (d r1 [18,19,20,21]) (s (d r2 [22]) (i 23 (s (d r3 [1,2,3,8,23,24]) .ret) .skip))) (s (d r4 [1,3,8,23,25,26,27,28,29]) (s (d r5 [30,31,32]) (s (s (p r6) (b 0 (w l1))) (s (d r11 [33,34,35,36]) (s (s (p r12) (b 2 (w l2))) (s (d r20 [2,9,10,46,66,67]) (s (d r21 [13,68]) .ret)))))))))
end limitcycle_Cycles
def limitcycle_Cycles:AFn:=⟨3,limitcycle_Cycles.c,[.tmp 6,.tmp 7],false⟩
namespace limitcycle_Cycles_1
def r0:=[o 2 (.box 2 0),o 3 (.box 3 1),o 4 (.mov (k 0))]
def r1:=[o 5 (.fadr 2 0),o 6 (.ld false 1 5),o 7 (.iadr none 1 6 (k 0)),o 8 (.ld false 1 7),o 9 (.fadr 3 0),o 10 (.ld false 1 9),o 11 (.iadr none 1 10 (k 0)),
 o 12 (.ld false 1 11),o 13 (.call 424 [8,12]),m 4 13]
def c:=(s (d r0 [0,1,4]) (s (e r1 [2,3,5,6,7,8,9,10,11,12,13]) .ret))
end limitcycle_Cycles_1
def limitcycle_Cycles_1:AFn:=⟨2,limitcycle_Cycles_1.c,[.tmp 4],false⟩
structure LimGLib (L:Lib):Prop extends NatGLib L,NetLib L,RunGLib L,WorldLib L where
 slices_Compare_int_int:L 424=some F.slices_Compare_int_int
 limitcycle_within:L 425=some F.limitcycle_within
 limitcycle_next:L 426=some F.limitcycle_next
 limitcycle_cycle:L 427=some F.limitcycle_cycle
 limitcycle_check:L 428=some F.limitcycle_check
 limitcycle_explorer_walk:L 431=some F.limitcycle_explorer_walk
 limitcycle_Cycles:L 433=some F.limitcycle_Cycles
 limitcycle_Cycles_1:L 435=some F.limitcycle_Cycles_1
end Go.Eng.F

namespace Go.Eng.F
open C
namespace law31_known
def r0:=[o 0 (.mov (.c (.bool false)))]
def r1:=[o 5 (.build [z,z,z,z] [(0,1,(k 6)),(1,1,(k 0)),(2,1,(k 1)),(3,1,(k 1))]),o 1 (.alloc 1 [z,z,z,z]),n (.st 4 1 5)]
def r2:=[o 6 (.ld true 4 1),o 7 (.ld true 4 1),o 8 (.build [z,z] [(0,1,(k 1)),(1,1,(k (-1)))]),o 9 (.bslice 9 2 [8]),o 10 (.build [.nil] [(0,1,9)]),
 o 11 (.bslice 11 1 [10]),o 12 (.bslice 12 1 [(k 2)]),
 o 13 (.build [z,z,z,z,z,z,z,z,z,.nil,.nil,z] [(0,4,6),(4,4,7),(8,1,(k 1)),(9,1,11),(10,1,12),(11,1,(k 2))]),
 o 2 (.alloc 2 [z,z,z,z,z,z,z,z,z,.nil,.nil,z]),n (.st 12 2 13)]
def r3:=[o 15 (.ld true 12 2),o 16 (.bslice 16 1 [(k 1)]),o 17 (.call 433 [15,(k 0),16]),m 14 17,o 18 (.ext 14 0),o 19 (.ext 14 1),m 3 18,m 4 19]
def r4:=[m 20 4,o 21 (.bin .eql 20 (k 0)),m 22 21,g 23 22 true (.mov 3),g 24 22 true (.len 23),g 25 22 true (.bin .eql 24 (k 2)),
 o 26 (.pick 22 25 (.c (.bool false))),m 27 26,g 28 27 true (.mov 3),g 29 27 true (.iadr none 2 28 (k 0)),g 30 27 true (.fadr 29 0),
 g 31 27 true (.ld false 1 30),g 32 27 true (.len 31),g 33 27 true (.bin .eql 32 (k 2)),o 34 (.pick 27 33 (.c (.bool false))),m 35 34,
 g 36 35 true (.mov 3),g 37 35 true (.iadr none 2 36 (k 1)),g 38 35 true (.fadr 37 0),g 39 35 true (.ld false 1 38),g 40 35 true (.len 39),
 g 41 35 true (.bin .eql 40 (k 1)),o 42 (.pick 35 41 (.c (.bool false))),m 43 42,g 44 43 true (.mov 3),g 45 43 true (.iadr none 2 44 (k 0)),
 g 46 43 true (.fadr 45 0),g 47 43 true (.ld false 1 46),g 48 43 true (.iadr none 1 47 (k 0)),g 49 43 true (.ld false 1 48),
 g 50 43 true (.bslice 50 1 [(k (-1))]),g 51 43 true (.call 20 [49,50]),o 52 (.pick 43 51 (.c (.bool false))),m 53 52,g 54 53 true (.mov 3),
 g 55 53 true (.iadr none 2 54 (k 0)),g 56 53 true (.fadr 55 1),g 57 53 true (.ld false 1 56),g 58 53 true (.bslice 58 1 [(k 1),(k (-1))]),
 g 59 53 true (.call 20 [57,58]),o 60 (.pick 53 59 (.c (.bool false))),m 0 60]
def c:=(s (d r0 [0]) (s (d r1 [5]) (s (d r2 [1,6,7,8,9,10,11,12,13]) (s (d r3 [2,14,15,16,17,18,19]) (s (d r4 [3,4,20,21,22,23,24,25,26,27,28,29,30,31,32,33,34,35,36,37,38,39,40,41,42,43,44,45,46,47,48,49,50,51,52,53,54,55,56,57,58,59,60]) .ret)))))
end law31_known
def law31_known:AFn:=⟨0,law31_known.c,[.tmp 0],false⟩
structure LawLCLib (L:Lib):Prop extends LimGLib L where
 law31_known:L 437=some F.law31_known
end Go.Eng.F

namespace Go.Eng.F
open C
namespace direct_wrong
def r0:=[o 6 (.box 6 2),o 7 (.box 7 3),o 8 (.mov (k 0))]
def r1:=[o 13 (.ld true 4 6),o 14 (.call 2 [13]),o 15 (.un .not 14),m 16 15,g 17 16 false (.ld true 4 7),g 18 16 false (.call 2 [17]),g 19 16 false (.un .not 18),
 o 20 (.pick 16 (.c (.bool true)) 19)]
def r2:=[o 8 (.mov (k 2))]
def r3:=[m 21 0,o 22 (.len 21),o 23 (.bin .eql 22 (k 0)),m 24 23,g 25 24 false (.mov 0),g 26 24 false (.len 25),g 27 24 false (.bin .gtr 26 (k 49)),
 o 28 (.pick 24 (.c (.bool true)) 27),m 29 28,g 30 29 false (.mov 1),g 31 29 false (.len 30),g 32 29 false (.bin .gtr 31 (k 8)),
 o 33 (.pick 29 (.c (.bool true)) 32)]
def r4:=[o 8 (.mov (k 12))]
def r5:=[m 34 0,o 35 (.len 34),o 36 (.mov (k 0))]
def r6:=[o 37 (.bin .lss 36 35)]
def r7:=[o 38 (.iadr none 1 34 36),o 39 (.ld false 1 38),m 10 39]
def r8:=[o 40 (.ld true 4 7),m 41 10,o 42 (.call 5 [40,41]),o 43 (.un .not 42)]
def r9:=[o 8 (.mov (k 17))]
def r10:=[o 44 (.bin .add 36 (k 1)),m 36 44]
def r11:=[m 45 1,o 46 (.len 45),o 47 (.mov (k 0))]
def r12:=[o 48 (.bin .lss 47 46)]
def r13:=[o 49 (.iadr none 1 45 47),o 50 (.ld false 1 49),m 12 50]
def r14:=[o 51 (.ld true 4 7),m 52 12,o 53 (.call 5 [51,52]),o 54 (.un .not 53),m 55 54,g 56 55 false (.ld true 4 7),g 57 55 false (.mov 12),
 g 58 55 false (.un .neg 57),g 59 55 false (.call 5 [56,58]),g 60 55 false (.un .not 59),o 61 (.pick 55 (.c (.bool true)) 60)]
def r15:=[o 8 (.mov (k 17))]
def r16:=[o 62 (.bin .add 47 (k 1)),m 47 62]
def r17:=[o 8 (.mov (k 0))]
def l1:=(s (p r6) (s (i 37 .skip (x 0)) (s (b 1 (s (d r7 [37,38,39]) (s (d r8 [10,40,41,42]) (i 43 (s (d r9 [1,7,34,35,36,43]) .ret) .skip)))) (d r10 [43,44]))))
def l2:=(s (p r12) (s (i 48 .skip (x 2)) (s (b 3 (s (d r13 [48,49,50]) (s (d r14 [12,51,52,53,54,55,56,57,58,59,60]) (i 61 (s (d r15 [7,45,46,47,61]) .ret) .skip)))) (d r16 [61,62]))))
def c:=(s (d r0 [2,3,8]) (s (s (d r1 [6,13,14,15,16,17,18,19]) (i 20 (s (d r2 [0,1,7,20]) .ret) .skip)) (s (s (d r3 [20,21,22,23,24,25,26,27,28,29,30,31,32]) (i 33 (s (d r4 [0,1,7,33]) .ret) .skip)) (s (s (d r5 [0,33]) (b 0 (w l1))) (s (s (d r11 [1,34,35,36,37]) (b 2 (w l2))) (s (d r17 [7,45,46,47,48]) .ret))))))
end direct_wrong
def direct_wrong:AFn:=⟨4,direct_wrong.c,[.tmp 8],false⟩
namespace direct_row
def r0:=[o 6 (.mov (.c .nil))]
def r1:=[m 10 0,o 11 (.len 10),o 12 (.mk 12 2 16 [z,z] 11 11),m 7 12]
def r2:=[m 13 0,o 14 (.len 13),o 15 (.mov (k 0))]
def r3:=[o 16 (.bin .lss 15 14)]
def r4:=[m 17 15,o 18 (.iadr none 1 13 15),o 19 (.ld false 1 18),m 8 17,m 9 19]
def r5:=[m 20 7,m 21 8,m 22 2,m 23 8,o 24 (.bin .add 22 23),m 25 1,m 26 9,o 27 (.bin .mul 25 26),o 28 (.build [z,z] [(0,1,24),(1,1,27)]),
 o 29 (.iadr none 2 20 21),n (.st 2 29 28)]
def r6:=[o 30 (.bin .add 15 (k 1)),m 15 30]
def r7:=[m 31 7,m 6 31]
def l1:=(s (p r3) (s (i 16 .skip (x 0)) (s (b 1 (s (d r4 [16,17,18,19]) (d r5 [8,9,20,21,22,23,24,25,26,27,28,29]))) (d r6 [30]))))
def c:=(s (d r0 [6]) (s (d r1 [10,11,12]) (s (s (d r2 [0]) (b 0 (w l1))) (s (d r7 [1,2,7,13,14,15,16,31]) .ret))))
end direct_row
def direct_row:AFn:=⟨3,direct_row.c,[.tmp 6],false⟩
namespace direct_join
def r0:=[o 2 (.mov (.c .nil))]
def r1:=[o 3 (.vrow 3 2)]
def r2:=[m 6 0,o 7 (.len 6),o 8 (.mov (k 0))]
def r3:=[o 9 (.bin .lss 8 7)]
def r4:=[o 10 (.iadr none 1 6 8),o 11 (.ld false 1 10),m 5 11]
def r5:=[m 12 3,m 13 5,o 14 (.app 14 2 16 12 13),m 3 14]
def r6:=[o 15 (.bin .add 8 (k 1)),m 8 15]
def r7:=[m 16 3,m 2 16]
def l1:=(s (p r3) (s (i 9 .skip (x 0)) (s (b 1 (s (d r4 [9,10,11]) (d r5 [5,12,13,14]))) (d r6 [15]))))
def c:=(s (d r0 [2]) (s (p r1) (s (s (d r2 [0]) (b 0 (w l1))) (s (d r7 [3,6,7,8,9,16]) .ret))))
end direct_join
def direct_join:AFn:=⟨1,direct_join.c,[.tmp 2],false⟩
namespace direct_delay
def r0:=[m 7 0,o 8 (.len 7),o 9 (.mov (k 0))]
def r1:=[o 10 (.bin .lss 9 8)]
def r2:=[m 11 9,m 6 11]
def r3:=[m 12 6,o 13 (.bin .eql 12 (k 0))]
def r4:=[m 14 0,m 15 6,m 16 2,o 17 (.iadr none 1 14 15),n (.st 1 17 16)]
def r5:=[m 18 0,m 19 6,m 20 1,m 21 6,o 22 (.bin .add 20 21),o 23 (.bin .sub 22 (k 1)),o 24 (.iadr none 1 18 19),n (.st 1 24 23)]
def r6:=[o 25 (.bin .add 9 (k 1)),m 9 25]
def l1:=(s (p r1) (s (i 10 .skip (x 0)) (s (b 1 (s (d r2 [10,11]) (s (d r3 [12]) (i 13 (d r4 [6,13,14,15,16,17]) (d r5 [6,13,18,19,20,21,22,23,24]))))) (d r6 [25]))))
def c:=(s (d r0 [7]) (b 0 (w l1)))
end direct_delay
def direct_delay:AFn:=⟨3,direct_delay.c,[],false⟩
namespace direct_FormOne
def r0:=[o 6 (.box 6 2),o 7 (.box 7 3),o 8 (.alloc 8 [z,z,z,z,z,z,z,z,z,.nil,.nil,z]),o 9 (.mov (k 0))]
def r1:=[m 14 0,m 15 1,o 16 (.ld true 4 6),o 17 (.ld true 4 7),o 18 (.call 46 [14,15,16,17]),m 10 18]
def r2:=[m 19 10,o 20 (.bin .neq 19 (k 0))]
def r3:=[o 21 (.build [z,z,z,z,z,z,z,z,z,.nil,.nil,z] []),m 22 10,n (.st 12 8 21),m 9 22]
def r4:=[m 23 0,o 24 (.len 23),o 25 (.bin .sub 24 (k 1)),m 11 25]
def r5:=[m 26 11,m 27 1,o 28 (.len 27),o 29 (.bin .add 26 28),m 12 29]
def r6:=[q 30 [34,13] (.ld true 4 6),q 31 [34,13] (.ld true 4 7),m 32 12,m 33 12,o 34 (.mk 34 1 8 [z] 33 33),m 35 12,
 o 36 (.bin .add 35 (k 1)),o 37 (.build [z,z,z,z,z,z,z,z,z,.nil,.nil,z] [(0,4,30),(4,4,31),(8,1,32),(10,1,34),(11,1,36)]),
 o 13 (.alloc 13 [z,z,z,z,z,z,z,z,z,.nil,.nil,z]),n (.st 12 13 37)]
def r7:=[m 38 0,o 39 (.call 47 [38,(k 1),(k 0)]),m 40 1,m 41 11,o 42 (.bin .add 41 (k 1)),o 43 (.call 47 [40,(k (-1)),42]),o 44 (.bslice 44 1 [39,43]),
 o 45 (.call 48 [44]),o 46 (.build [.nil] [(0,1,45)]),o 47 (.bslice 47 1 [46]),o 48 (.fadr 13 9),n (.st 1 48 47)]
def r8:=[o 49 (.fadr 13 10),o 50 (.ld false 1 49),m 51 11,o 52 (.slc 1 50 none (some 51)),o 53 (.calli 49 [52,(k 1),(k 0)])]
def r9:=[o 54 (.fadr 13 10),o 55 (.ld false 1 54),m 56 11,o 57 (.slc 1 55 (some 56) none),m 58 11,o 59 (.bin .add 58 (k 1)),o 60 (.fadr 13 11),
 o 61 (.ld false 1 60),o 62 (.calli 49 [57,59,61])]
def r10:=[o 63 (.ld true 12 13),n (.st 12 8 63),o 9 (.mov (k 0))]
def c:=(s (d r0 [2,3,9]) (s (s (d r1 [14,15,16,17,18]) (s (d r2 [19]) (i 20 (s (d r3 [0,1,6,7,10,20,21,22]) .ret) .skip))) (s (d r4 [10,20,23,24,25]) (s (d r5 [26,27,28,29]) (s (e r6 [6,7,12,30,31,32,33,34,35,36,37]) (s (d r7 [0,1,38,39,40,41,42,43,44,45,46,47,48]) (s (d r8 [49,50,51,52,53]) (s (e r9 [11,54,55,56,57,58,59,60,61,62]) (s (d r10 [13,63]) .ret)))))))))
end direct_FormOne
def direct_FormOne:AFn:=⟨4,direct_FormOne.c,[.cell 8 true 12,.tmp 9],false⟩
structure DirectGLib (L:Lib):Prop extends RunGLib L where
 direct_wrong:L 46=some F.direct_wrong
 direct_row:L 47=some F.direct_row
 direct_join:L 48=some F.direct_join
 direct_delay:L 49=some F.direct_delay
 direct_FormOne:L 50=some F.direct_FormOne
end Go.Eng.F

namespace Go.Eng.F
open C
namespace law31_LimitcycleTruncates
def r0:=[o 6 (.mov (.c (.bool false)))]
def r1:=[m 14 0,o 15 (.call 36 [14,(k 4),(k 8),(k 0)]),o 7 (.alloc 7 [z,z,z,z]),n (.st 4 7 15)]
def r2:=[o 16 (.build [z,z,z,z] [(0,1,(k 10)),(1,1,(k 0)),(2,1,(k 3)),(3,1,(k 1))]),o 8 (.alloc 8 [z,z,z,z]),n (.st 4 8 16)]
def r3:=[o 17 (.ld true 4 7),o 18 (.call 41 [17]),o 19 (.bin .sub 18 (k 1)),m 20 1,o 21 (.bslice 21 1 [20]),o 22 (.call 40 [19,21,(k 1)]),
 o 23 (.iadr none 1 22 (k 0)),o 24 (.ld false 1 23),m 9 24]
def r4:=[o 26 (.bslice 26 1 [(k 0)]),m 27 9,o 28 (.bslice 28 1 [27]),o 29 (.ld true 4 8),o 30 (.ld true 4 7),o 31 (.call 50 [26,28,29,30]),m 25 31,
 o 32 (.ext 25 0),o 33 (.ext 25 1),o 10 (.alloc 10 [z,z,z,z,z,z,z,z,z,.nil,.nil,z]),n (.st 12 10 32),m 11 33]
def r5:=[q 35 [38] (.ld true 12 10),m 36 2,o 37 (.call 34 [36,(k 300)]),o 38 (.bslice 38 1 [37]),o 39 (.call 433 [35,(k 0),38]),m 34 39,
 o 40 (.ext 34 0),o 41 (.ext 34 1),m 12 40,m 13 41]
def r6:=[o 42 (.call 437 []),m 43 42,g 44 43 true (.mov 11),g 45 43 true (.bin .eql 44 (k 0)),o 46 (.pick 43 45 (.c (.bool false))),m 47 46,g 48 47 true (.mov 13),
 g 49 47 true (.bin .eql 48 (k 0)),o 50 (.pick 47 49 (.c (.bool false))),m 51 50,g 52 51 true (.mov 12),g 53 51 true (.len 52),
 g 54 51 true (.bin .eql 53 (k 1)),o 55 (.pick 51 54 (.c (.bool false))),m 56 55,g 57 56 true (.mov 12),g 58 56 true (.iadr none 2 57 (k 0)),
 g 59 56 true (.fadr 58 0),g 60 56 true (.ld false 1 59),g 61 56 true (.len 60),g 62 56 true (.bin .eql 61 (k 1)),o 63 (.pick 56 62 (.c (.bool false))),
 m 64 63,g 65 64 true (.mov 12),g 66 64 true (.iadr none 2 65 (k 0)),g 67 64 true (.fadr 66 0),g 68 64 true (.ld false 1 67),
 g 69 64 true (.iadr none 1 68 (k 0)),g 70 64 true (.ld false 1 69),g 71 64 true (.bslice 71 1 [(k 0)]),g 72 64 true (.call 20 [70,71]),
 o 73 (.pick 64 72 (.c (.bool false))),m 74 73,g 75 74 true (.ld true 12 10),g 76 74 true (.call 27 [75]),o 77 (.pick 74 76 (.c (.bool false))),m 6 77]
def c:=(s (d r0 [6]) (s (d r1 [0,14,15]) (s (d r2 [16]) (s (d r3 [1,17,18,19,20,21,22,23,24]) (s (d r4 [7,8,9,25,26,27,28,29,30,31,32,33]) (s (e r5 [2,34,35,36,37,38,39,40,41]) (s (d r6 [10,11,12,13,42,43,44,45,46,47,48,49,50,51,52,53,54,55,56,57,58,59,60,61,62,63,64,65,66,67,68,69,70,71,72,73,74,75,76,77]) .ret)))))))
end law31_LimitcycleTruncates
def law31_LimitcycleTruncates:AFn:=⟨3,law31_LimitcycleTruncates.c,[.tmp 6],false⟩
structure LawLTLib (L:Lib):Prop extends LawLCLib L,DirectGLib L where
 law31_LimitcycleTruncates:L 441=some F.law31_LimitcycleTruncates
end Go.Eng.F

namespace Go.Eng
open Go.RowKit
theorem add_none (b o n:Nat):(⟨b,o,none⟩:Addr).add n=⟨b,o+n,none⟩:=by
 unfold Addr.add;split<;>simp_all
inductive Rd (w:World) (R:Bool→Nat→Prop):AV→Value→Prop
 | int (k:IntKind) (n:Int):Rd w R (.int k n) (.int k n)
 | bool (b:Bool):Rd w R (.bool b) (.bool b)
 | str (s:ByteArray):Rd w R (.con (.string s)) (.string s)
 | nilf:Rd w R (.con .nilFunc) .nilFunc
 | nilm:Rd w R (.con (.map none)) (.map none)
 | sl0 (l:Bool) (a:Option Addr) (cap:Nat):Rd w R (.sl l []) (.slice a 0 cap)
 | emp (b:Bool) (a:Option Addr) (cap:Nat) (h:a.isNone=b):Rd w R (.con (.bool b)) (.slice a 0 cap)
 | sl (l:Bool) (es:List (List AV)) (b o esz cap:Nat) (u:Nat→Nat→Value) (hne:es≠[]) (hp:0<esz) (hR:R l b) (hcap:es.length≤cap) (hz : ∀ e∈es,e.length=esz)
   (hc : ∀ i e,es[i]? = some e → ∀ j c,e[j]? = some c→w.cell? ⟨b,o+(i*esz+j),none⟩=some (u i j))
   (hr : ∀ i e,es[i]? = some e → ∀ j c,e[j]? = some c→Rd w R c (u i j)) :
   Rd w R (.sl l es) (.slice (some ⟨b,o,none⟩) es.length cap)
theorem Rd.one {w:World} {R:Bool→Nat→Prop} {a:AV} {v:Value} (h:Rd w R a v):v.oneCell'=true:=by
 cases h<;>rfl
theorem cell_lt {w:World} {a:Addr} {u:Value} (h:w.cell? a=some u):a.block<w.heap.size:=by
 unfold World.cell? at h;split at h
 ·rename_i hh
  exact (Array.getElem?_eq_some_iff.1 hh).1
 ·cases h
theorem first_cell {es:List (List AV)} {esz:Nat} (hne:es≠[]) (hp:0<esz) (hz : ∀ e∈es,e.length=esz) : ∃ e c,es[0]? = some e∧e[0]? = some c:=by
 cases es with
 | nil=>exact absurd rfl hne
 | cons e r =>
  have:=hz e (by simp)
  cases e with
  | nil=>simp at this;omega
  | cons c q=>exact ⟨c::q,c,rfl,rfl⟩
theorem Rd.mono {w w':World} {R R':Bool→Nat→Prop} (hR : ∀ l b,b<w.heap.size→R l b→R' l b)
  (hw : ∀ l b,b<w.heap.size→R l b→w'.heap[b]? = w.heap[b]?) {a:AV} {v:Value} (h:Rd w R a v):Rd w' R' a v:=by
 induction h with
 | int k n=>exact .int k n
 | bool b=>exact .bool b
 | str s=>exact .str s
 | nilf=>exact .nilf
 | nilm=>exact .nilm
 | sl0 l a cap=>exact .sl0 l a cap
 | emp b a cap h=>exact .emp b a cap h
 | sl l es b o esz cap u hne hp h1 hcap hz hc hr ih =>
  obtain ⟨e,c,he,hc0⟩:=first_cell hne hp hz;have hb:b<w.heap.size:=cell_lt (hc 0 e he 0 c hc0);refine .sl l es b o esz cap u hne hp (hR l b hb h1) hcap hz (fun i e he j c hcj => ?_) ih;rw[World.cell?_of_block (w:=w) (hw l b hb h1)];exact hc i e he j c hcj
structure Base where
 w:World
 D:Prop
structure Bel (D:Prop) (B:Nat) (w w':World):Prop extends Below B w w' where
 drawn:D→w.drawn≤w'.drawn
section
variable {D:Prop} {B B':Nat} {a b c:World}
theorem Bel.refl (D:Prop) (B:Nat) (w:World):Bel D B w w:=⟨Below.refl B w,fun _=>Nat.le_refl _⟩
theorem Bel.trans (h:Bel D B a b) (k:Bel D B b c):Bel D B a c:=⟨h.toBelow.trans k.toBelow,fun d=>Nat.le_trans (h.drawn d) (k.drawn d)⟩
theorem Bel.mono (h:Bel D B a b) (hB:B'≤B):Bel D B' a b:=⟨h.toBelow.mono hB,h.drawn⟩
theorem Bel.weak {D':Prop} (h:Bel D B a b) (k:D'→D):Bel D' B a b:=⟨h.toBelow,fun d=>h.drawn (k d)⟩
theorem Bel.drew (h:Bel D B a b):Bel D B a b.drew:=⟨h.toBelow.drew,fun d=>Nat.le_succ_of_le (h.drawn d)⟩
theorem Bel.alloc (h:Bel D B a b) (hB:B≤b.heap.size) (o:Obj):Bel D B a (b.alloc o):=⟨h.toBelow.alloc hB o,h.drawn⟩
end
structure M where
 ν:Nat→Nat→Option Nat
 own:Own
 w:World
section
variable (B:Nat) (S:Nat→Prop)
def safe (m:M) (l:Bool) (b:Nat):Prop :=
 (S b∧b<B)∨(B≤b ∧ ∀ s t,(m.own.get s t).isSome=true→m.ν s t≠some b)∨(l=true∧b<B)
inductive CC (m:M):AV→Value→Prop
 | rd {a:AV} {v:Value} (h:Rd m.w (safe B S m) a v):CC m a v
 | nil:CC m .nil (.slice none 0 0)
 | row (s t z off len:Nat) (a:Option Addr) (cap:Nat) (ht:t<m.own.cnt s) (hz0:0<z) (hlc:len≤cap) (ha:0<len→a.isSome=true)
   (h : ∀ b,m.own.get s t=some b→b.esz=z∧((len=0∧cap=0) ∨ ∃ g arr e,m.ν s t=some g∧a=some ⟨g,off*z,none⟩∧m.w.heap[g]? = some (.cells arr e (0,0))∧(off+cap)*z≤arr.size)) (hs:s<mapLo) :
   CC m (.row s t z off len) (.slice a len cap)
 | ptr (s t i j:Nat) (a:Addr) (ht:t<m.own.cnt s) (h : ∀ b,m.own.get s t=some b → ∃ g,m.ν s t=some g∧a=⟨g,i*b.esz+j,none⟩) (hs:s<mapLo):CC m (.ptr s t i j) (.pointer (some a))
 | mp (s t g:Nat) (ht:t<m.own.cnt s) (h : ∀ b,m.own.get s t=some b→m.ν s t=some g) (hs:mapLo≤s):CC m (.mp s t) (.map (some g))
 | dptr (cs:List AV) (b o:Nat) (u:Nat→Value) (l:Bool) (hR:cs≠[]→safe B S m l b) (hc : ∀ j c,cs[j]? = some c→m.w.cell? ⟨b,o+j,none⟩=some (u j)) (hr : ∀ j c,cs[j]? = some c→Rd m.w (safe B S m) c (u j)) :
   CC m (.dptr cs) (.pointer (some ⟨b,o,none⟩))
def CL (m:M) (cs:List AV) (vs:List Value):Prop:=cs.length=vs.length ∧ ∀ (j:Nat) (c:AV) (v:Value),cs[j]? = some c→vs[j]? = some v→CC B S m c v
inductive CA (m:M):AV→Value→Prop
 | one {a:AV} {v:Value} (h:CC B S m a v):CA m a v
 | agg (cs:List AV) (vs:List Value) (h:CL B S m cs vs):CA m (.agg cs) (.agg vs.toArray)
 | fn (p:Bool) (f g:Nat) (cs:List AV) (vs:List Value) (hp:p=true→cs=[]) (h:CL B S m cs vs):CA m (.fn p f g cs) (.func (.func g) #[] vs.toArray)
 | fnb (f g:Nat) (cs:List AV) (vs:List Value) (hp:cs≠[]) (h:CL B S m cs vs):CA m (.fn true f g cs) (.func (.func g) #[.agg vs.toArray] #[])
inductive CV (m:M):AV→Value→Prop
 | any (v:Value):CV m .any v
 | ca {a:AV} {v:Value} (h:CA B S m a v):CV m a v
 | tup (as:List AV) (vs:List Value) (hl:as.length=vs.length) (h : ∀ (j:Nat) (c:AV) (v:Value),as[j]? = some c→vs[j]? = some v→CA B S m c v):CV m (.tup as) (.tuple vs.toArray)
def entV (c:List AV):Value × Value:=match c with
 | [.con (.string s),.int .i64 n]=>(.string s,.int .i64 n)
 | _=>(.bool false,.bool false)
def MapIs (es:Array MapEntry) (clock:Nat) (l:List (List AV)):Prop :=
 MapKept.Stamped es clock∧es.size≤l.length∧(es.toList.map fun x=>(x.key,x.val)).Perm (l.map entV) ∧
  ∀ c∈l,∃ (s:ByteArray) (n:Int),c=[.con (.string s),.int .i64 n]∧s.size≤maxLen∧(Lit.int .i64 n).wf=true
def BlkC (m:M) (s t:Nat) (b:Blk):Prop :=
 (∀ e∈b.es,e.length=b.esz)∧match m.ν s t with
  | none=>b.es=[]
  | some g=>B≤g ∧ ∃ arr e,m.w.heap[g]? = some (.cells arr e (0,0)) ∧
    ∀ i cs,b.es[i]? = some cs → ∀ j c,cs[j]? = some c → ∃ u,arr[i*b.esz+j]? = some u∧CC B S m c u
def BlkM (m:M) (s t:Nat) (b:Blk):Prop := ∃ g es clock,m.ν s t=some g∧B≤g∧m.w.heap[g]? = some (.map es clock)∧MapIs es clock b.es
def BlkAt (m:M) (s t:Nat) (b:Blk):Prop:=(s<mapLo→BlkC B S m s t b)∧(mapLo≤s→BlkM B m s t b)
structure MemOK (w0:Base) (m:M):Prop where
 below:Bel w0.D B w0.w m.w
 size:B≤m.w.heap.size
 fresh : ∀ s t,m.own.cnt s≤t→m.own.get s t=none
 blk : ∀ s t b,m.own.get s t=some b→BlkAt B S m s t b
 inj : ∀ s t s' t' b b' g,m.own.get s t=some b→m.own.get s' t'=some b'→m.ν s t=some g→m.ν s' t'=some g→s=s'∧t=t'
structure Ext (m m':M):Prop where
 size:m.w.heap.size≤m'.w.heap.size
 keep : ∀ b,b<m.w.heap.size→safe B S m true b→m'.w.heap[b]? = m.w.heap[b]?
 saf : ∀ l b,b<m.w.heap.size→safe B S m l b→safe B S m' l b
 cnt : ∀ s,m.own.cnt s≤m'.own.cnt s
 name : ∀ s t b',t<m.own.cnt s→m'.own.get s t=some b' → ∃ b,m.own.get s t=some b∧b'.esz=b.esz∧m'.ν s t=m.ν s t ∧
   ∀ g arr e,m.ν s t=some g→m.w.heap[g]? = some (.cells arr e (0,0)) → ∃ arr',m'.w.heap[g]? = some (.cells arr' e (0,0))∧arr'.size=arr.size
end
section
variable {B:Nat} {S:Nat→Prop}
theorem safe_true {m:M} {l:Bool} {b:Nat} (h:safe B S m l b):safe B S m true b:=by
 rcases h with h|h|⟨_,h⟩
 ·exact .inl h
 ·exact .inr (.inl h)
 ·exact .inr (.inr ⟨rfl,h⟩)
theorem Ext.rd {m m':M} (h:Ext B S m m') {a:AV} {v:Value} (hr:Rd m.w (safe B S m) a v):Rd m'.w (safe B S m') a v :=
 hr.mono h.saf (fun _ b hb hs=>h.keep b hb (safe_true hs))
theorem Ext.cc {m m':M} (h:Ext B S m m') {a:AV} {v:Value} (hc:CC B S m a v):CC B S m' a v:=by
 cases hc with
 | rd hr=>exact .rd (h.rd hr)
 | nil=>exact .nil
 | row s t z off len a cap ht hz0 hlc ha hb =>
  rename_i hs;refine .row s t z off len a cap (Nat.lt_of_lt_of_le ht (h.cnt s)) hz0 hlc ha (fun b' hb' => ?_) hs;obtain ⟨b,h1,h2,h3,h4⟩:=h.name s t b' ht hb';obtain ⟨hz,hor⟩:=hb b h1;refine ⟨h2.trans hz,?_⟩;rcases hor with h0|⟨g,arr,e,hg,hae,hh,hle⟩
  ·exact .inl h0
  ·obtain ⟨arr',ha',hs'⟩:=h4 g arr e hg hh
   exact .inr ⟨g,arr',e,h3.trans hg,hae,ha',hs' ▸ hle⟩
 | ptr s t i j a ht hb =>
  rename_i hs;refine .ptr s t i j a (Nat.lt_of_lt_of_le ht (h.cnt s)) (fun b' hb' => ?_) hs;obtain ⟨b,h1,h2,h3,_⟩:=h.name s t b' ht hb';obtain ⟨g,hg,hae⟩:=hb b h1;exact ⟨g,h3.trans hg,h2 ▸ hae⟩
 | mp s t g ht hb hs =>
  refine .mp s t g (Nat.lt_of_lt_of_le ht (h.cnt s)) (fun b' hb' => ?_) hs;obtain ⟨b,h1,h2,h3,_⟩:=h.name s t b' ht hb';exact h3.trans (hb b h1)
 | dptr cs b o u l hR hc hr =>
  have hlt:cs≠[]→b<m.w.heap.size:=fun hne=>by
   cases cs with
   | nil=>exact absurd rfl hne
   | cons c r=>exact cell_lt (hc 0 c rfl)
  refine .dptr cs b o u l (fun hne=>h.saf l b (hlt hne) (hR hne)) (fun j c hj => ?_) (fun j c hj=>h.rd (hr j c hj));have hne:cs≠[]:=fun e=>by subst e;simp at hj
  rw[World.cell?_of_block (w:=m.w) (h.keep b (hlt hne) (safe_true (hR hne)))];exact hc j c hj
theorem Ext.cl {m m':M} (h:Ext B S m m') {cs:List AV} {vs:List Value} (hc:CL B S m cs vs):CL B S m' cs vs :=
 ⟨hc.1,fun j c v h1 h2=>h.cc (hc.2 j c v h1 h2)⟩
theorem Ext.ca {m m':M} (h:Ext B S m m') {a:AV} {v:Value} (hc:CA B S m a v):CA B S m' a v:=by
 cases hc with
 | one hc=>exact .one (h.cc hc)
 | agg cs vs hc=>exact .agg cs vs (h.cl hc)
 | fn p f g cs vs hp hc=>exact .fn p f g cs vs hp (h.cl hc)
 | fnb f g cs vs hp hc=>exact .fnb f g cs vs hp (h.cl hc)
theorem Ext.cv {m m':M} (h:Ext B S m m') {a:AV} {v:Value} (hc:CV B S m a v):CV B S m' a v:=by
 cases hc with
 | any v=>exact .any v
 | ca hc=>exact .ca (h.ca hc)
 | tup as vs hl hc=>exact .tup as vs hl fun j c v h1 h2=>h.ca (hc j c v h1 h2)
theorem Ext.refl (m:M):Ext B S m m :=
 ⟨Nat.le_refl _,fun _ _ _=>rfl,fun _ _ _ h=>h,fun _=>Nat.le_refl _,fun _ _ b' _ h=>⟨b',h,rfl,rfl,fun _ arr _ _ h=>⟨arr,h,rfl⟩⟩⟩
theorem Ext.trans {m m' m'':M} (h:Ext B S m m') (k:Ext B S m' m''):Ext B S m m'' where
 size:=Nat.le_trans h.size k.size
 keep b hb hs:=(k.keep b (Nat.lt_of_lt_of_le hb h.size) (h.saf true b hb hs)).trans (h.keep b hb hs)
 saf l b hb hs:=k.saf l b (Nat.lt_of_lt_of_le hb h.size) (h.saf l b hb hs)
 cnt s:=Nat.le_trans (h.cnt s) (k.cnt s)
 name s t b'' ht hb'':=by
  obtain ⟨b',h1,h2,h3,h4⟩:=k.name s t b'' (Nat.lt_of_lt_of_le ht (h.cnt s)) hb'';obtain ⟨b,g1,g2,g3,g4⟩:=h.name s t b' ht h1;refine ⟨b,g1,h2.trans g2,h3.trans g3,fun g arr e hg ha => ?_⟩;obtain ⟨arr',ha',hs'⟩:=g4 g arr e hg ha;obtain ⟨arr'',ha'',hs''⟩:=h4 g arr' e (g3.trans hg) ha';exact ⟨arr'',ha'',hs''.trans hs'⟩
theorem CC.one {m:M} {a:AV} {v:Value} (h:CC B S m a v):v.oneCell'=true:=by
 cases h with
 | rd h=>exact h.one
 | _=>rfl
end
end Go.Eng

namespace Go.Eng
open Go.RowKit
section
variable {B:Nat} {S:Nat→Prop} {w0:Base}
def live (m:M) (s t:Nat):Prop := ∃ b,m.own.get s t=some b
theorem MemOK.blkC {m:M} (h:MemOK B S w0 m) {s t:Nat} {b:Blk} (hb:m.own.get s t=some b) (hs:s<mapLo):BlkC B S m s t b:=(h.blk s t b hb).1 hs
theorem MemOK.ge {m:M} (h:MemOK B S w0 m) {s t g:Nat} (hl:live m s t) (hg:m.ν s t=some g):B≤g ∧ ∃ x,m.w.heap[g]? = some x:=by
 obtain ⟨b,hb⟩:=hl;rcases Nat.lt_or_ge s mapLo with hs|hs
 ·obtain ⟨_,h2⟩:=h.blkC hb hs
  rw[hg]at h2;obtain ⟨h3,arr,e,h4,_⟩:=h2;exact ⟨h3,_,h4⟩
 ·obtain ⟨g',es,clock,h1,h2,h3,_⟩:=(h.blk s t b hb).2 hs
  obtain rfl:g'=g:=Option.some.inj (h1.symm.trans hg);exact ⟨h2,_,h3⟩
theorem BlkAt.ext {m m':M} {s t:Nat} {b:Blk} (h:BlkAt B S m s t b) (he:Ext B S m m') (hν:m'.ν s t=m.ν s t) (hk : ∀ g x,m.ν s t=some g→m.w.heap[g]? = some x→m'.w.heap[g]? = some x):BlkAt B S m' s t b:=by
 refine ⟨fun hs => ?_,fun hs => ?_⟩
 ·obtain ⟨h1,h2⟩:=h.1 hs
  refine ⟨h1,?_⟩;rw[hν];cases hv:m.ν s t with
  | none=>rw[hv]at h2;exact h2
  | some g =>
   rw[hv]at h2;obtain ⟨h3,ar,e',h4,h5⟩:=h2;refine ⟨h3,ar,e',hk g _ hv h4,fun i cs hi j c hj => ?_⟩;obtain ⟨u,hu,hcc⟩:=h5 i cs hi j c hj;exact ⟨u,hu,he.cc hcc⟩
 ·obtain ⟨g,es,clock,h1,h2,h3,h4⟩:=h.2 hs
  exact ⟨g,es,clock,hν.trans h1,h2,hk g _ h1 h3,h4⟩
theorem ext_of {m m':M} (hm:MemOK B S w0 m) (hs:m.w.heap.size≤m'.w.heap.size)
  (hk : ∀ b,b<m.w.heap.size→(∀ s t,live m s t→m.ν s t≠some b)→m'.w.heap[b]? = m.w.heap[b]?) (hcnt : ∀ s,m.own.cnt s≤m'.own.cnt s)
  (hname : ∀ s t b',t<m.own.cnt s→m'.own.get s t=some b' → ∃ b,m.own.get s t=some b∧b'.esz=b.esz∧m'.ν s t=m.ν s t ∧
   ∀ g arr e,m.ν s t=some g→m.w.heap[g]? = some (.cells arr e (0,0)) → ∃ arr',m'.w.heap[g]? = some (.cells arr' e (0,0))∧arr'.size=arr.size)
  (hnew : ∀ s t g,live m' s t→m'.ν s t=some g→g<m.w.heap.size → ∃ s0 t0,live m s0 t0∧m.ν s0 t0=some g):Ext B S m m':=by
 have hnl : ∀ b,safe B S m true b → ∀ s t,live m s t→m.ν s t≠some b:=by
  intro b hb s t hl hg;have hge:=(hm.ge hl hg).1;rcases hb with ⟨_,h⟩|⟨_,h⟩|⟨_,h⟩
  ·omega
  ·obtain ⟨b',hb'⟩:=hl
   exact h s t (by simp [hb']) hg
  ·omega
 refine ⟨hs,fun b hb hsafe=>hk b hb (hnl b hsafe),fun l b hb hsafe => ?_,hcnt,hname⟩;rcases hsafe with h|⟨h,hn⟩|h
 ·exact .inl h
 ·refine .inr (.inl ⟨h,fun s t hl hg => ?_⟩)
  obtain ⟨b',hb'⟩:=Option.isSome_iff_exists.1 hl;obtain ⟨s0,t0,⟨b0,hb0⟩,hg0⟩:=hnew s t b ⟨b',hb'⟩ hg hb;exact hn s0 t0 (by simp [hb0]) hg0
 ·exact .inr (.inr h)
theorem grow {m:M} (hm:MemOK B S w0 m) {w':World} (hb:Bel w0.D m.w.heap.size m.w w') :
  MemOK B S w0 ⟨m.ν,m.own,w'⟩∧Ext B S m ⟨m.ν,m.own,w'⟩:=by
 have he:Ext B S m ⟨m.ν,m.own,w'⟩:=by
  refine ext_of hm hb.size (fun b hb' _=>hb.block b hb') (fun _=>Nat.le_refl _) (fun s t b' _ hb'=>⟨b',hb',rfl,rfl,fun g arr e hg ha=>⟨arr,?_,rfl⟩⟩) (fun s t g hl hg _=>⟨s,t,hl,hg⟩);have:g<m.w.heap.size:=(Array.getElem?_eq_some_iff.1 ha).1
  exact (hb.block g this).trans ha
 refine ⟨⟨hm.below.trans (hb.mono hm.size),Nat.le_trans hm.size hb.size,hm.fresh,fun s t b hg => ?_,hm.inj⟩,he⟩;exact (hm.blk s t b hg).ext he rfl fun g x _ hx=>(hb.block g (Array.getElem?_eq_some_iff.1 hx).1).trans hx
theorem get_new (o:Own) (s s' t':Nat) (b:Blk):(o.put s ((o s).new b)).get s' t'=if s'=s∧t'=o.cnt s then some b else o.get s' t':=by
 unfold Own.get Own.put Site.new Own.cnt;by_cases h:s'=s
 ·subst h
  by_cases h2:t'=(o s').cnt<;>simp [h2]
 ·simp [h]
theorem cnt_new (o:Own) (s s':Nat) (b:Blk):(o.put s ((o s).new b)).cnt s'=if s'=s then o.cnt s+1 else o.cnt s':=by
 unfold Own.cnt Own.put Site.new;by_cases h:s'=s<;>simp [h]
theorem get_upd (o:Own) (s t s' t':Nat) (b:Option Blk):(o.put s ((o s).upd t b)).get s' t'=if s'=s∧t'=t then b else o.get s' t':=by
 unfold Own.get Own.put Site.upd;by_cases h:s'=s
 ·subst h
  by_cases h2:t'=t<;>simp [h2]
 ·simp [h]
theorem cnt_upd (o:Own) (s t s':Nat) (b:Option Blk):(o.put s ((o s).upd t b)).cnt s'=o.cnt s':=by
 unfold Own.cnt Own.put Site.upd;by_cases h:s'=s<;>simp [h]
def newν (m:M) (s:Nat) (g:Option Nat):Nat→Nat→Option Nat:=fun s' t'=>if s'=s∧t'=m.own.cnt s then g else m.ν s' t'
theorem not_live_cnt {m:M} (hm:MemOK B S w0 m) (s:Nat) : ¬ live m s (m.own.cnt s):=fun ⟨b,hb⟩=>by
 rw[hm.fresh s _ (Nat.le_refl _)]at hb;cases hb
theorem alloc_ok {m:M} (hm:MemOK B S w0 m) (s:Nat) (hlo:s<mapLo) (b:Blk) (arr:Array Value) (e:TypeId) (hz : ∀ x∈b.es,x.length=b.esz)
  (hc : ∀ i cs,b.es[i]? = some cs → ∀ j c,cs[j]? = some c → ∃ u,arr[i*b.esz+j]? = some u∧CC B S m c u) :
  MemOK B S w0 ⟨newν m s (some m.w.heap.size),m.own.put s ((m.own s).new b),m.w.alloc (.cells arr e)⟩ ∧
  Ext B S m ⟨newν m s (some m.w.heap.size),m.own.put s ((m.own s).new b),m.w.alloc (.cells arr e)⟩:=by
 have hsz:(m.w.alloc (.cells arr e)).heap.size=m.w.heap.size+1:=by simp
 have hν : ∀ s' t',live m s' t'→newν m s (some m.w.heap.size) s' t'=m.ν s' t':=fun s' t' hl=>by
  unfold newν;rw[if_neg];rintro ⟨rfl,rfl⟩
  exact not_live_cnt hm _ hl
 have he:Ext B S m ⟨newν m s (some m.w.heap.size),m.own.put s ((m.own s).new b),m.w.alloc (.cells arr e)⟩:=by
  refine ext_of hm (by rw[hsz];omega) (fun k hk _=>Below.heap_alloc _ _ _ hk) (fun s' => ?_) (fun s' t' b' ht hb' => ?_) (fun s' t' g hl hg hlt => ?_)
  ·rw[cnt_new];split
   ·rename_i h;subst h;omega
   ·exact Nat.le_refl _
  ·rw[get_new]at hb'
   rw[if_neg (by rintro ⟨rfl,rfl⟩;omega)]at hb';refine ⟨b',hb',rfl,hν s' t' ⟨b',hb'⟩,fun g ar e' hg ha=>⟨ar,?_,rfl⟩⟩;exact (Below.heap_alloc _ _ _ (Array.getElem?_eq_some_iff.1 ha).1).trans ha
  ·obtain ⟨b',hb'⟩:=hl
   have hb2:=hb';rw[get_new]at hb';by_cases h:s'=s∧t'=m.own.cnt s
   ·simp only[newν,if_pos h,Option.some.injEq]at hg
    omega
   ·rw[if_neg h]at hb'
    exact ⟨s',t',⟨b',hb'⟩,by rw[←hν s' t' ⟨b',hb'⟩];exact hg⟩
 refine ⟨⟨hm.below.alloc hm.size _,by rw[hsz];have:=hm.size;omega,fun s' t' ht => ?_,fun s' t' b' hb' => ?_,fun s1 t1 s2 t2 b1 b2 g h1 h2 g1 g2 => ?_⟩,he⟩
 ·rw[cnt_new]at ht
  rw[get_new,if_neg]
  ·refine hm.fresh s' t' ?_
   split at ht
   ·rename_i h;subst h;omega
   ·exact ht
  ·rintro ⟨rfl,rfl⟩
   simp at ht;omega
 ·rw[get_new]at hb'
  by_cases h:s'=s∧t'=m.own.cnt s
  ·rw[if_pos h]at hb'
   obtain rfl:b=b':=by simpa using hb'
   refine ⟨fun _=>⟨hz,?_⟩,fun hge=>by have:=h.1;omega⟩;show match newν m s (some m.w.heap.size) s' t' with|none=>_|some g=>_
   rw[show newν m s (some m.w.heap.size) s' t'=some m.w.heap.size by simp [newν,h]];refine ⟨hm.size,arr,e,heap_alloc_new _ _,fun i cs hi j c hj => ?_⟩;obtain ⟨u,hu,hcc⟩:=hc i cs hi j c hj;exact ⟨u,hu,he.cc hcc⟩
  ·rw[if_neg h]at hb'
   exact (hm.blk s' t' b' hb').ext he (hν s' t' ⟨b',hb'⟩) fun g x _ hx=>(Below.heap_alloc _ _ _ (Array.getElem?_eq_some_iff.1 hx).1).trans hx
 ·rw[get_new]at h1 h2
  have lt : ∀ s' t' b',m.own.get s' t'=some b'→newν m s (some m.w.heap.size) s' t'=some g→g<m.w.heap.size:=fun s' t' b' hb hg=>by
   rw[hν s' t' ⟨b',hb⟩]at hg;obtain ⟨_,x,h4⟩:=hm.ge ⟨b',hb⟩ hg;exact (Array.getElem?_eq_some_iff.1 h4).1
  have at_ : ∀ s' t',s'=s∧t'=m.own.cnt s→newν m s (some m.w.heap.size) s' t'=some g→g=m.w.heap.size:=fun s' t' h hg=>by
   simp only[newν,if_pos h,Option.some.injEq]at hg;exact hg.symm
  by_cases p1:s1=s∧t1=m.own.cnt s<;>by_cases p2:s2=s∧t2=m.own.cnt s
  ·exact ⟨p1.1.trans p2.1.symm,p1.2.trans p2.2.symm⟩
  ·rw[if_neg p2]at h2
   have:=lt s2 t2 b2 h2 g2
   have:=at_ s1 t1 p1 g1
   omega
  ·rw[if_neg p1]at h1
   have:=lt s1 t1 b1 h1 g1
   have:=at_ s2 t2 p2 g2
   omega
  ·rw[if_neg p1]at h1
   rw[if_neg p2]at h2;exact hm.inj s1 t1 s2 t2 b1 b2 g h1 h2 (by rw[←hν s1 t1 ⟨b1,h1⟩];exact g1) (by rw[←hν s2 t2 ⟨b2,h2⟩];exact g2)
theorem vir_ok {m:M} (hm:MemOK B S w0 m) (s esz:Nat) (hlo:s<mapLo) :
  MemOK B S w0 ⟨newν m s none,m.own.put s ((m.own s).new ⟨esz,[]⟩),m.w⟩∧Ext B S m ⟨newν m s none,m.own.put s ((m.own s).new ⟨esz,[]⟩),m.w⟩:=by
 have hν : ∀ s' t',live m s' t'→newν m s none s' t'=m.ν s' t':=fun s' t' hl=>by
  unfold newν;rw[if_neg];rintro ⟨rfl,rfl⟩
  exact not_live_cnt hm _ hl
 have he:Ext B S m ⟨newν m s none,m.own.put s ((m.own s).new ⟨esz,[]⟩),m.w⟩:=by
  refine ext_of hm (Nat.le_refl _) (fun k hk _=>rfl) (fun s' => ?_) (fun s' t' b' ht hb' => ?_) (fun s' t' g hl hg hlt => ?_)
  ·rw[cnt_new];split
   ·rename_i h;subst h;omega
   ·exact Nat.le_refl _
  ·rw[get_new]at hb'
   rw[if_neg (by rintro ⟨rfl,rfl⟩;omega)]at hb';exact ⟨b',hb',rfl,hν s' t' ⟨b',hb'⟩,fun g ar e' hg ha=>⟨ar,ha,rfl⟩⟩
  ·obtain ⟨b',hb'⟩:=hl
   rw[get_new]at hb';by_cases h:s'=s∧t'=m.own.cnt s
   ·simp [newν,if_pos h]at hg
   ·rw[if_neg h]at hb'
    exact ⟨s',t',⟨b',hb'⟩,by rw[←hν s' t' ⟨b',hb'⟩];exact hg⟩
 refine ⟨⟨hm.below,hm.size,fun s' t' ht => ?_,fun s' t' b' hb' => ?_,fun s1 t1 s2 t2 b1 b2 g h1 h2 g1 g2 => ?_⟩,he⟩
 ·rw[cnt_new]at ht
  rw[get_new,if_neg]
  ·refine hm.fresh s' t' ?_
   split at ht
   ·rename_i h;subst h;omega
   ·exact ht
  ·rintro ⟨rfl,rfl⟩
   simp at ht;omega
 ·rw[get_new]at hb'
  by_cases h:s'=s∧t'=m.own.cnt s
  ·rw[if_pos h]at hb'
   obtain rfl:(⟨esz,[]⟩:Blk)=b':=by simpa using hb'
   refine ⟨fun _=>⟨by simp,?_⟩,fun hge=>by have:=h.1;omega⟩;show match newν m s none s' t' with|none=>_|some g=>_
   rw[show newν m s none s' t'=none by simp [newν,h]]
  ·rw[if_neg h]at hb'
   exact (hm.blk s' t' b' hb').ext he (hν s' t' ⟨b',hb'⟩) fun g x _ hx=>hx
 ·rw[get_new]at h1 h2
  by_cases p1:s1=s∧t1=m.own.cnt s
  ·simp [newν,if_pos p1]at g1
  ·by_cases p2:s2=s∧t2=m.own.cnt s
   ·simp [newν,if_pos p2]at g2
   ·rw[if_neg p1]at h1
    rw[if_neg p2]at h2;exact hm.inj s1 t1 s2 t2 b1 b2 g h1 h2 (by rw[←hν s1 t1 ⟨b1,h1⟩];exact g1) (by rw[←hν s2 t2 ⟨b2,h2⟩];exact g2)
theorem upd_ok {m:M} (hm:MemOK B S w0 m) (s t:Nat) (hlo:s<mapLo) (b b':Blk) (hb:m.own.get s t=some b) (g:Nat) (hg:m.ν s t=some g) (arr arr':Array Value) (e:TypeId)
  (ha:m.w.heap[g]? = some (.cells arr e (0,0))) (hz':b'.esz=b.esz) (hz : ∀ x∈b'.es,x.length=b'.esz) (hsz:arr'.size=arr.size)
  (hc : ∀ i cs,b'.es[i]? = some cs → ∀ j c,cs[j]? = some c → ∃ u,arr'[i*b'.esz+j]? = some u∧CC B S m c u) (w':World) (hbel:Bel w0.D B w0.w w') (hsize:w'.heap.size=m.w.heap.size)
  (hk : ∀ k,k≠g→w'.heap[k]? = m.w.heap[k]?) (hgw:w'.heap[g]? = some (.cells arr' e (0,0))) :
  MemOK B S w0 ⟨m.ν,m.own.put s ((m.own s).upd t (some b')),w'⟩∧Ext B S m ⟨m.ν,m.own.put s ((m.own s).upd t (some b')),w'⟩:=by
 have hlt:t<m.own.cnt s:=by
  rcases Nat.lt_or_ge t (m.own.cnt s) with h|h
  ·exact h
  ·rw[hm.fresh s t h]at hb;cases hb
 have he:Ext B S m ⟨m.ν,m.own.put s ((m.own s).upd t (some b')),w'⟩:=by
  refine ext_of hm (by rw[hsize];exact Nat.le_refl _) (fun k hk' hn=>hk k (fun e=>hn s t ⟨b,hb⟩ (e ▸ hg))) (fun s'=>by rw[cnt_upd];exact Nat.le_refl _) (fun s' t' b2 ht hb2 => ?_) (fun s' t' g' hl hg' _ => ?_)
  ·rw[get_upd]at hb2
   by_cases h:s'=s∧t'=t
   ·obtain ⟨rfl,rfl⟩:=h
    rw[if_pos ⟨rfl,rfl⟩]at hb2;obtain rfl:b'=b2:=by simpa using hb2
    refine ⟨b,hb,hz',rfl,fun g2 ar e' hg2 ha2 => ?_⟩;obtain rfl:g=g2:=by rw[hg]at hg2;simpa using hg2
    rw[ha]at ha2;obtain ⟨rfl,rfl⟩:arr=ar∧e=e':=by simpa using ha2
    exact ⟨arr',hgw,hsz⟩
   ·rw[if_neg h]at hb2
    refine ⟨b2,hb2,rfl,rfl,fun g2 ar e' hg2 ha2=>⟨ar,?_,rfl⟩⟩;rw[←ha2];exact hk g2 (fun e2=>h (by
     subst e2;exact hm.inj s' t' s t b2 b g2 hb2 hb hg2 hg))
  ·obtain ⟨b2,hb2⟩:=hl
   rw[get_upd]at hb2;by_cases h:s'=s∧t'=t
   ·obtain ⟨rfl,rfl⟩:=h
    exact ⟨s',t',⟨b,hb⟩,hg'⟩
   ·rw[if_neg h]at hb2
    exact ⟨s',t',⟨b2,hb2⟩,hg'⟩
 refine ⟨⟨hbel,by rw[hsize];exact hm.size,fun s' t' ht => ?_,fun s' t' b2 hb2 => ?_,fun s1 t1 s2 t2 b1 b2 g1 h1 h2 e1 e2 => ?_⟩,he⟩
 ·rw[cnt_upd]at ht
  rw[get_upd,if_neg (by rintro ⟨rfl,rfl⟩;omega)];exact hm.fresh s' t' ht
 ·rw[get_upd]at hb2
  by_cases h:s'=s∧t'=t
  ·obtain ⟨rfl,rfl⟩:=h
   rw[if_pos ⟨rfl,rfl⟩]at hb2;obtain rfl:b'=b2:=by simpa using hb2
   refine ⟨fun _=>⟨hz,?_⟩,fun hge=>by omega⟩;show match m.ν s' t' with|none=>_|some g=>_
   rw[hg];refine ⟨(hm.ge ⟨b,hb⟩ hg).1,arr',e,hgw,fun i cs hi j c hj => ?_⟩;obtain ⟨u,hu,hcc⟩:=hc i cs hi j c hj;exact ⟨u,hu,he.cc hcc⟩
  ·rw[if_neg h]at hb2
   exact (hm.blk s' t' b2 hb2).ext he rfl fun g2 x hv hx=>(hk g2 (fun e2=>h (by
    subst e2;exact hm.inj s' t' s t b2 b g2 hb2 hb hv hg))).trans hx
 ·have old : ∀ s' t' b2,(m.own.put s ((m.own s).upd t (some b'))).get s' t'=some b2 → ∃ b3,m.own.get s' t'=some b3:=fun s' t' b2 h=>by
   rw[get_upd]at h;by_cases h':s'=s∧t'=t
   ·obtain ⟨rfl,rfl⟩:=h';exact ⟨b,hb⟩
   ·rw[if_neg h']at h;exact ⟨b2,h⟩
  obtain ⟨c1,k1⟩:=old s1 t1 b1 h1;obtain ⟨c2,k2⟩:=old s2 t2 b2 h2;exact hm.inj s1 t1 s2 t2 c1 c2 g1 k1 k2 e1 e2
theorem get_move (o:Own) (s t s' t':Nat) (b:Blk):(o.put s (((o s).upd t none).new b)).get s' t'=if s'=s∧t'=o.cnt s then some b else if s'=s∧t'=t then none else o.get s' t':=by
 unfold Own.get Own.put Site.new Site.upd Own.cnt;by_cases h:s'=s
 ·subst h
  by_cases h2:t'=(o s').cnt<;>by_cases h3:t'=t<;>simp [h2,h3]
 ·simp [h]
theorem cnt_move (o:Own) (s t s':Nat) (b:Blk):(o.put s (((o s).upd t none).new b)).cnt s'=if s'=s then o.cnt s+1 else o.cnt s':=by
 unfold Own.cnt Own.put Site.new Site.upd;by_cases h:s'=s<;>simp [h]
theorem move_ok {m:M} (hm:MemOK B S w0 m) (s t:Nat) (hlo:s<mapLo) (b b':Blk) (hb:m.own.get s t=some b) (gopt:Option Nat) (w':World) (hbel:Bel w0.D B w0.w w') (hsz:m.w.heap.size≤w'.heap.size)
  (hk : ∀ k,k<m.w.heap.size→m.ν s t≠some k→w'.heap[k]? = m.w.heap[k]?) (hz : ∀ x∈b'.es,x.length=b'.esz)
  (hnone:gopt=none→b'.es=[])
  (hsome : ∀ g,gopt=some g→B≤g∧(m.w.heap.size≤g∨m.ν s t=some g) ∧ ∃ arr e,w'.heap[g]? = some (.cells arr e (0,0)) ∧
   ∀ i cs,b'.es[i]? = some cs → ∀ j c,cs[j]? = some c → ∃ u,arr[i*b'.esz+j]? = some u∧CC B S m c u) :
  MemOK B S w0 ⟨newν m s gopt,m.own.put s (((m.own s).upd t none).new b'),w'⟩∧Ext B S m ⟨newν m s gopt,m.own.put s (((m.own s).upd t none).new b'),w'⟩:=by
 have hlt:t<m.own.cnt s:=by
  rcases Nat.lt_or_ge t (m.own.cnt s) with h|h
  ·exact h
  ·rw[hm.fresh s t h]at hb;cases hb
 have hν : ∀ s' t',live m s' t'→newν m s gopt s' t'=m.ν s' t':=fun s' t' hl=>by
  unfold newν;rw[if_neg];rintro ⟨rfl,rfl⟩
  exact not_live_cnt hm _ hl
 have he:Ext B S m ⟨newν m s gopt,m.own.put s (((m.own s).upd t none).new b'),w'⟩:=by
  refine ext_of hm hsz (fun k hk' hn=>hk k hk' (hn s t ⟨b,hb⟩)) (fun s' => ?_) (fun s' t' b2 ht hb2 => ?_) (fun s' t' g' hl hg' hlt' => ?_)
  ·rw[cnt_move];split
   ·rename_i h;subst h;omega
   ·exact Nat.le_refl _
  ·rw[get_move]at hb2
   rw[if_neg (by rintro ⟨rfl,rfl⟩;omega)]at hb2;by_cases h:s'=s∧t'=t
   ·rw[if_pos h]at hb2;cases hb2
   ·rw[if_neg h]at hb2
    refine ⟨b2,hb2,rfl,hν s' t' ⟨b2,hb2⟩,fun g2 ar e' hg2 ha2=>⟨ar,?_,rfl⟩⟩;rw[←ha2];exact hk g2 (Array.getElem?_eq_some_iff.1 ha2).1 (fun e2=>h (hm.inj s' t' s t b2 b g2 hb2 hb hg2 e2))
  ·obtain ⟨b2,hb2⟩:=hl
   rw[get_move]at hb2;by_cases h0:s'=s∧t'=m.own.cnt s
   ·simp only[newν,if_pos h0]at hg'
    obtain ⟨_,h2,_⟩:=hsome g' hg';rcases h2 with h2|h2
    ·omega
    ·exact ⟨s,t,⟨b,hb⟩,h2⟩
   ·rw[if_neg h0]at hb2
    by_cases h:s'=s∧t'=t
    ·rw[if_pos h]at hb2;cases hb2
    ·rw[if_neg h]at hb2
     exact ⟨s',t',⟨b2,hb2⟩,by rw[←hν s' t' ⟨b2,hb2⟩];exact hg'⟩
 refine ⟨⟨hbel,Nat.le_trans hm.size hsz,fun s' t' ht => ?_,fun s' t' b2 hb2 => ?_,fun s1 t1 s2 t2 b1 b2 g1 h1 h2 e1 e2 => ?_⟩,he⟩
 ·rw[cnt_move]at ht
  have ht':m.own.cnt s'≤t' ∧ ¬ (s'=s∧t'=m.own.cnt s):=by
   by_cases h:s'=s
   ·subst h
    simp at ht;exact ⟨by omega,by omega⟩
   ·simp [h]at ht
    exact ⟨ht,fun h'=>h h'.1⟩
  rw[get_move,if_neg ht'.2];split
  ·rfl
  ·exact hm.fresh s' t' ht'.1
 ·rw[get_move]at hb2
  by_cases h0:s'=s∧t'=m.own.cnt s
  ·rw[if_pos h0]at hb2
   obtain rfl:b'=b2:=by simpa using hb2
   refine ⟨fun _=>⟨hz,?_⟩,fun hge=>by have:=h0.1;omega⟩;show match newν m s gopt s' t' with|none=>_|some g=>_
   rw[show newν m s gopt s' t'=gopt by simp [newν,h0]];cases gopt with
   | none=>exact hnone rfl
   | some g =>
    obtain ⟨h1,_,arr,e,h4,h5⟩:=hsome g rfl;refine ⟨h1,arr,e,h4,fun i cs hi j c hj => ?_⟩;obtain ⟨u,hu,hcc⟩:=h5 i cs hi j c hj;exact ⟨u,hu,he.cc hcc⟩
  ·rw[if_neg h0]at hb2
   by_cases h:s'=s∧t'=t
   ·rw[if_pos h]at hb2;cases hb2
   ·rw[if_neg h]at hb2
    exact (hm.blk s' t' b2 hb2).ext he (hν s' t' ⟨b2,hb2⟩) fun g2 x hv hx=>(hk g2 (Array.getElem?_eq_some_iff.1 hx).1 (fun e2=>h (hm.inj s' t' s t b2 b g2 hb2 hb hv e2))).trans hx
 ·rw[get_move]at h1 h2
  have old : ∀ s' t' b2,(if s'=s∧t'=t then none else m.own.get s' t')=some b2→m.own.get s' t'=some b2 ∧ ¬ (s'=s∧t'=t):=fun s' t' b2 h=>by
   by_cases h':s'=s∧t'=t
   ·rw[if_pos h']at h;cases h
   ·rw[if_neg h']at h;exact ⟨h,h'⟩
  have clash : ∀ s' t' b2,m.own.get s' t'=some b2 → ¬ (s'=s∧t'=t)→newν m s gopt s' t'=some g1→gopt=some g1→False:=fun s' t' b2 hb2 hne e1 e2=>by
   rw[hν s' t' ⟨b2,hb2⟩]at e1;obtain ⟨_,h2,_⟩:=hsome g1 e2;obtain ⟨_,x,h4⟩:=hm.ge ⟨b2,hb2⟩ e1;have:=(Array.getElem?_eq_some_iff.1 h4).1
   rcases h2 with h2|h2
   ·omega
   ·exact hne (hm.inj s' t' s t b2 b g1 hb2 hb e1 h2)
  have at_ : ∀ s' t',s'=s∧t'=m.own.cnt s→newν m s gopt s' t'=some g1→gopt=some g1:=fun s' t' h hg=>by simpa [newν,if_pos h] using hg
  by_cases p1:s1=s∧t1=m.own.cnt s<;>by_cases p2:s2=s∧t2=m.own.cnt s
  ·exact ⟨p1.1.trans p2.1.symm,p1.2.trans p2.2.symm⟩
  ·rw[if_neg p2]at h2
   obtain ⟨k2,n2⟩:=old s2 t2 b2 h2;exact (clash s2 t2 b2 k2 n2 e2 (at_ s1 t1 p1 e1)).elim
  ·rw[if_neg p1]at h1
   obtain ⟨k1,n1⟩:=old s1 t1 b1 h1;exact (clash s1 t1 b1 k1 n1 e1 (at_ s2 t2 p2 e2)).elim
  ·rw[if_neg p1]at h1
   rw[if_neg p2]at h2;obtain ⟨k1,n1⟩:=old s1 t1 b1 h1;obtain ⟨k2,n2⟩:=old s2 t2 b2 h2;exact hm.inj s1 t1 s2 t2 b1 b2 g1 k1 k2 (by rw[←hν s1 t1 ⟨b1,k1⟩];exact e1) (by rw[←hν s2 t2 ⟨b2,k2⟩];exact e2)
theorem get_drop (o:Own) (l:List Nat) (s t:Nat):(o.drop l).get s t=if s∈l then none else o.get s t:=by
 induction l with
 | nil=>simp [Own.drop]
 | cons x r ih =>
  unfold Own.get at *;by_cases h:s=x
  ·subst h;simp [Own.drop,Own.put]
  ·simp only[Own.drop,Own.put,if_neg h,List.mem_cons]
   rw[ih];by_cases h2:s∈r<;>simp [h,h2]
theorem cnt_drop (o:Own) (l:List Nat) (s:Nat):(o.drop l).cnt s=o.cnt s:=by
 induction l with
 | nil=>simp [Own.drop]
 | cons x r ih =>
  unfold Own.cnt at *;by_cases h:s=x
  ·subst h;simp [Own.drop,Own.put]
  ·simp [Own.drop,Own.put,h,ih]
theorem drop_ok {m:M} (hm:MemOK B S w0 m) (l:List Nat):MemOK B S w0 ⟨m.ν,m.own.drop l,m.w⟩∧Ext B S m ⟨m.ν,m.own.drop l,m.w⟩:=by
 have old : ∀ s t b,(m.own.drop l).get s t=some b→m.own.get s t=some b:=fun s t b h=>by
  rw[get_drop]at h;split at h
  ·cases h
  ·exact h
 have he:Ext B S m ⟨m.ν,m.own.drop l,m.w⟩:=by
  refine ext_of hm (Nat.le_refl _) (fun _ _ _=>rfl) (fun s=>by rw[cnt_drop];exact Nat.le_refl _) (fun s t b' _ hb'=>⟨b',old s t b' hb',rfl,rfl,fun _ ar _ _ ha=>⟨ar,ha,rfl⟩⟩) (fun s t g hl hg _ => ?_);obtain ⟨b,hb⟩:=hl;exact ⟨s,t,⟨b,old s t b hb⟩,hg⟩
 refine ⟨⟨hm.below,hm.size,fun s t ht => ?_,fun s t b hb => ?_,fun s1 t1 s2 t2 b1 b2 g h1 h2=>hm.inj s1 t1 s2 t2 b1 b2 g (old _ _ _ h1) (old _ _ _ h2)⟩,he⟩
 ·rw[cnt_drop]at ht
  rw[get_drop];split
  ·rfl
  ·exact hm.fresh s t ht
 ·exact (hm.blk s t b (old s t b hb)).ext he rfl fun g x _ hx=>hx
end
end Go.Eng

namespace Go.Eng
section
variable {P:Program} {num:Nat→Nat} {op:Op}
theorem inv_mov {y:Opd} (h:okOp P num op (.mov y)=true) : ∃ x,(op = .move x∨op = .assign x)∧eqOpd x y=true:=by
 cases op with
 | move x=>exact ⟨x,.inl rfl,h⟩
 | assign x=>exact ⟨x,.inr rfl,h⟩
 | _=>exact Bool.noConfusion h
theorem inv_vrow {s z:Nat} (h:okOp P num op (.vrow s z)=true):(op = .move (.const (.slice none 0 0))∨op = .assign (.const (.slice none 0 0)))∧z≠0:=by
 simp only[okOp,Bool.and_eq_true,bne_iff_ne]at h;refine ⟨?_,h.1⟩;have h2:=h.2;split at h2<;>simp_all
theorem inv_pick {c' a' b':Opd} (h:okOp P num op (.pick c' a' b')=true) : ∃ c a b,op = .pick c a b∧eqOpd c c'=true∧eqOpd a a'=true∧eqOpd b b'=true:=by
 cases op with
 | pick c a b=>simp only[okOp,Bool.and_eq_true]at h;exact ⟨c,a,b,rfl,h.1.1,h.1.2,h.2⟩
 | _=>exact Bool.noConfusion h
theorem inv_bin {f:BinOp} {x' y':Opd} (h:okOp P num op (.bin f x' y')=true) : ∃ t x y u,op = .binOp f t x y u∧eqOpd x x'=true∧eqOpd y y'=true:=by
 cases op with
 | binOp f' t x y u =>
  simp only[okOp,Bool.and_eq_true,beq_iff_eq]at h;exact ⟨t,x,y,u,by rw[h.1.1],h.1.2,h.2⟩
 | _=>exact Bool.noConfusion h
theorem inv_beq {ne:Bool} {x' y':Opd} (h:okOp P num op (.beq ne x' y')=true) : ∃ t x y u,op = .binOp (if ne then .neq else .eql) t x y u∧P.underlying t=some .bool∧eqOpd x x'=true∧eqOpd y y'=true:=by
 cases op with
 | binOp f' t x y u =>
  simp only[okOp,Bool.and_eq_true]at h;obtain ⟨⟨⟨h1,h2⟩,h3⟩,h4⟩:=h;refine ⟨t,x,y,u,?_,?_,h3,h4⟩
  ·cases ne<;>simp_all
  ·split at h2<;>simp_all
 | _=>exact Bool.noConfusion h
theorem inv_un {f:UnOp} {x':Opd} (h:okOp P num op (.un f x')=true) : ∃ t x,op = .unOp f t x∧eqOpd x x'=true:=by
 cases op with
 | unOp f' t x =>
  simp only[okOp,Bool.and_eq_true,beq_iff_eq]at h;exact ⟨t,x,by rw[h.1],h.2⟩
 | _=>exact Bool.noConfusion h
theorem inv_conv {k:IntKind} {x':Opd} (h:okOp P num op (.conv k x')=true) : ∃ s d x ds,op = .convert s d x∧P.underlying s=some ds∧P.underlying d=some (.int k)∧eqOpd x x'=true:=by
 cases op with
 | convert s d x =>
  simp only[okOp,Bool.and_eq_true]at h;obtain ⟨⟨h1,h2⟩,h3⟩:=h;obtain ⟨ds,hds⟩:=Option.isSome_iff_exists.1 h1;refine ⟨s,d,x,ds,rfl,hds,?_,h3⟩;split at h2<;>simp_all
 | _=>exact Bool.noConfusion h
theorem inv_box {s:Nat} {x':Opd} (h:okOp P num op (.box s x')=true) : ∃ t x,op = .box t x∧eqOpd x x'=true:=by
 cases op with
 | box t x=>exact ⟨t,x,rfl,h⟩
 | _=>exact Bool.noConfusion h
theorem inv_alloc {s:Nat} {z:List AV} (h:okOp P num op (.alloc s z)=true) : ∃ t,op = .alloc t∧zeroIs P t z=true:=by
 cases op with
 | alloc t=>exact ⟨t,rfl,h⟩
 | _=>exact Bool.noConfusion h
theorem inv_build {z:List AV} {ps':List (Nat × Nat × Opd)} (h:okOp P num op (.build z ps')=true) : ∃ t ps,op = .build t ps∧zeroIs P t z=true∧buildIs P t ps.toList ps'=true:=by
 cases op with
 | build t ps=>simp only[okOp,Bool.and_eq_true]at h;exact ⟨t,ps,rfl,h.1,h.2⟩
 | _=>exact Bool.noConfusion h
theorem sliceIs_inv {t:TypeId} {f:TypeId→Bool} (h:sliceIs P t f=true) : ∃ e,P.underlying t=some (.slice e)∧f e=true:=by
 unfold sliceIs at h;split at h
 ·rename_i e he;exact ⟨e,he,h⟩
 ·cases h
theorem sizeIs_inv {t:TypeId} {n:Nat} (h:sizeIs P t n=true) : ∃ i,P.info? t=some i∧i.size=n:=by
 unfold sizeIs at h;split at h
 ·rename_i i hi;exact ⟨i,hi,by simpa using h⟩
 ·cases h
theorem bytesIs_inv {t:TypeId} {n:Nat} (h:bytesIs P t n=true) : ∃ i,P.info? t=some i∧i.bytes=n:=by
 unfold bytesIs at h;split at h
 ·rename_i i hi;exact ⟨i,hi,by simpa using h⟩
 ·cases h
theorem zeroIs_inv {t:TypeId} {l:List AV} (h:zeroIs P t l=true) : ∃ i z,P.info? t=some i∧i.zero=some z∧eqVals z.cells.toList l=true:=by
 unfold zeroIs at h;split at h
 ·rename_i i hi
  split at h
  ·rename_i z hz;exact ⟨i,z,hi,hz,h⟩
  ·cases h
 ·cases h
theorem aggOf_inv {t:TypeId} {b:Bool} (h:(aggOf P t == some b)=true) : ∀ w,(isAgg t).run P w = .ok b w:=by
 intro w;have h':aggOf P t=some b:=by simpa using h
 unfold aggOf at h';unfold isAgg;cases hu:P.underlying t with
 | none=>rw[hu]at h';cases h'
 | some d =>
  rw[hu]at h';rw[Sem.run_bind,run_underlying hu];cases d<;>simp_all<;>rfl
theorem zsz_inv {e:TypeId} {n:Nat} (h:(match P.info? e with|some i=>(match i.zero with|some z=>z.cells.size == n|none=>false)|none=>false)=true) : ∃ i z,P.info? e=some i∧i.zero=some z∧z.cells.size=n:=by
 split at h
 ·rename_i i hi
  split at h
  ·rename_i z hz;exact ⟨i,z,hi,hz,by simpa using h⟩
  ·cases h
 ·cases h
theorem inv_bslice {s esz:Nat} {ps':List Opd} (h:okOp P num op (.bslice s esz ps')=true) : ∃ t n ps e i,op = .buildSlice t n ps∧P.underlying t=some (.slice e)∧P.info? e=some i∧i.size=esz∧esz≠0∧n=ps'.length∧n*esz≤16777216∧elemsAre 0 ps.toList ps'=true∧(n=0 ∨ ∃ z,i.zero=some z∧z.cells.size=esz):=by
 cases op with
 | buildSlice t n ps =>
  simp only[okOp,Bool.and_eq_true,decide_eq_true_eq,bne_iff_ne,beq_iff_eq,Bool.or_eq_true]at h;obtain ⟨⟨⟨⟨⟨h1,h2⟩,h3⟩,h4⟩,h5⟩,h6⟩:=h;obtain ⟨e,he,h1⟩:=sliceIs_inv h1;obtain ⟨i,hi,hs⟩:=sizeIs_inv h1;refine ⟨t,n,ps,e,i,rfl,he,hi,hs,h2,h3,h4,h5,h6.imp id fun h6 => ?_⟩;obtain ⟨e',he',h6⟩:=sliceIs_inv h6;rw[he]at he';obtain rfl:e=e':=by simpa using he'
  obtain ⟨i',z,hi',hz,hs'⟩:=zsz_inv h6;rw[hi]at hi';obtain rfl:i=i':=by simpa using hi'
  exact ⟨z,hz,hs'⟩
 | _=>exact Bool.noConfusion h
theorem inv_fadr {x':Opd} {off:Nat} (h:okOp P num op (.fadr x' off)=true) : ∃ t x f fs fd i,op = .fieldAddr t x f∧eqOpd x x'=true∧P.underlying t=some (.struct fs)∧fs[f]? = some fd∧fd.offset=off∧P.info? fd.type=some i∧i.size≠0:=by
 cases op with
 | fieldAddr t x f =>
  simp only[okOp,Bool.and_eq_true]at h;obtain ⟨h1,h2⟩:=h;split at h2
  ·rename_i fs hfs
   split at h2
   ·rename_i fd hfd
    simp only[Bool.and_eq_true,beq_iff_eq]at h2;obtain ⟨h3,h4⟩:=h2;split at h4
    ·rename_i i hi
     exact ⟨t,x,f,fs,fd,i,rfl,h1,hfs,hfd,h3,hi,by simpa using h4⟩
    ·cases h4
   ·cases h2
  ·cases h2
 | _=>exact Bool.noConfusion h
theorem inv_fld {x':Opd} {off n:Nat} {agg:Bool} (h:okOp P num op (.fld x' off n agg)=true) : ∃ t x f fs fd i,op = .field t x f∧eqOpd x x'=true∧P.underlying t=some (.struct fs)∧fs[f]? = some fd∧fd.offset=off∧P.info? fd.type=some i∧i.size=n∧(∀ w,(isAgg fd.type).run P w = .ok agg w)∧n≠0:=by
 cases op with
 | field t x f =>
  simp only[okOp,Bool.and_eq_true]at h;obtain ⟨⟨h1,h2⟩,h3⟩:=h;unfold fieldIs at h2;unfold fieldTy at h3;split at h2
  ·rename_i fs hfs
   split at h2
   ·rename_i fd hfd
    simp only[Bool.and_eq_true,beq_iff_eq,bne_iff_ne]at h2;obtain ⟨⟨h4,h5⟩,h6⟩:=h2;obtain ⟨i,hi,hs⟩:=sizeIs_inv h5;rw[hfs]at h3;simp only[hfd]at h3;exact ⟨t,x,f,fs,fd,i,rfl,h1,hfs,hfd,h4,hi,hs,aggOf_inv h3,h6⟩
   ·cases h2
  ·cases h2
 | _=>exact Bool.noConfusion h
theorem inv_iadr {arr:Option Nat} {esz:Nat} {x' i':Opd} (h:okOp P num op (.iadr arr esz x' i')=true) : ∃ t x i e inf,op = .indexAddr t x i∧eqOpd x x'=true∧eqOpd i i'=true∧P.info? e=some inf∧inf.size=esz ∧
  ((∃ len,arr=some len∧P.underlying t=some (.array len e)∧1<len)∨(arr=none∧P.underlying t=some (.slice e)∧esz≠0)):=by
 cases op with
 | indexAddr t x i =>
  simp only[okOp,Bool.and_eq_true]at h;obtain ⟨⟨h1,h2⟩,h3⟩:=h;split at h3
  ·rename_i len e len' hu
   simp only[Bool.and_eq_true,beq_iff_eq,decide_eq_true_eq]at h3;obtain ⟨⟨h4,h5⟩,h6⟩:=h3;obtain ⟨inf,hi,hs⟩:=sizeIs_inv h5;exact ⟨t,x,i,e,inf,rfl,h1,h2,hi,hs,.inl ⟨len,by rw[h4],hu,h6⟩⟩
  ·rename_i e hu
   simp only[Bool.and_eq_true,bne_iff_ne]at h3;obtain ⟨inf,hi,hs⟩:=sizeIs_inv h3.1;exact ⟨t,x,i,e,inf,rfl,h1,h2,hi,hs,.inr ⟨rfl,hu,h3.2⟩⟩
  ·cases h3
 | _=>exact Bool.noConfusion h
theorem inv_ld {agg:Bool} {n:Nat} {x':Opd} (h:okOp P num op (.ld agg n x')=true) : ∃ t x,op = .load t x∧eqOpd x x'=true∧(∀ w,(isAgg t).run P w = .ok agg w)∧(if agg then ∃ i,P.info? t=some i∧i.size=n else n=1):=by
 cases op with
 | load t x =>
  simp only[okOp,Bool.and_eq_true]at h;obtain ⟨⟨h1,h2⟩,h3⟩:=h;refine ⟨t,x,rfl,h1,aggOf_inv h2,?_⟩;cases agg
  ·simpa using h3
  ·exact sizeIs_inv (by simpa using h3)
 | _=>exact Bool.noConfusion h
theorem inv_st {n:Nat} {x' v':Opd} (h:okOp P num op (.st n x' v')=true) : ∃ t x v i,op = .store t x v∧eqOpd x x'=true∧eqOpd v v'=true∧P.info? t=some i∧i.size=n:=by
 cases op with
 | store t x v =>
  simp only[okOp,Bool.and_eq_true]at h;obtain ⟨⟨h1,h2⟩,h3⟩:=h;obtain ⟨i,hi,hs⟩:=sizeIs_inv h3;exact ⟨t,x,v,i,rfl,h1,h2,hi,hs⟩
 | _=>exact Bool.noConfusion h
theorem inv_mk {s esz bytes:Nat} {zero:List AV} {l' c':Opd} (h:okOp P num op (.mk s esz bytes zero l' c')=true) : ∃ t l c e i z,op = .makeSlice t l c∧eqOpd l l'=true∧eqOpd c c'=true∧P.underlying t=some (.slice e)∧P.info? e=some i∧i.size=esz∧i.bytes=bytes∧i.zero=some z∧eqVals z.cells.toList zero=true∧esz≠0:=by
 cases op with
 | makeSlice t l c =>
  simp only[okOp,Bool.and_eq_true,bne_iff_ne]at h;obtain ⟨⟨⟨h1,h2⟩,h3⟩,h4⟩:=h;obtain ⟨e,he,h3⟩:=sliceIs_inv h3;simp only[Bool.and_eq_true]at h3;obtain ⟨⟨h5,h6⟩,h7⟩:=h3;obtain ⟨i,hi,hs⟩:=sizeIs_inv h5;obtain ⟨i2,hi2,hs2⟩:=bytesIs_inv h6;obtain ⟨i3,z,hi3,hz,hzz⟩:=zeroIs_inv h7;rw[hi]at hi2 hi3;obtain rfl:i=i2:=by simpa using hi2
  obtain rfl:i=i3:=by simpa using hi3
  exact ⟨t,l,c,e,i,z,rfl,h1,h2,he,hi,hs,hs2,hz,hzz,h4⟩
 | _=>exact Bool.noConfusion h
theorem inv_slc {esz:Nat} {x':Opd} {lo' hi':Option Opd} (h:okOp P num op (.slc esz x' lo' hi')=true) : ∃ t x lo hi e i,op = .slice t x lo hi none∧eqOpd x x'=true∧eqOpt lo lo'=true∧eqOpt hi hi'=true∧P.underlying t=some (.slice e)∧P.info? e=some i∧i.size=esz∧esz≠0:=by
 cases op with
 | slice t x lo hi mx =>
  cases mx with
  | some _=>exact Bool.noConfusion h
  | none =>
   simp only[okOp,Bool.and_eq_true,bne_iff_ne]at h;obtain ⟨⟨⟨⟨h1,h2⟩,h3⟩,h4⟩,h5⟩:=h;obtain ⟨e,he,h4⟩:=sliceIs_inv h4;obtain ⟨i,hi',hs⟩:=sizeIs_inv h4;exact ⟨t,x,lo,hi,e,i,rfl,h1,h2,h3,he,hi',hs,h5⟩
 | _=>exact Bool.noConfusion h
theorem inv_ext {x':Opd} {i:Nat} (h:okOp P num op (.ext x' i)=true) : ∃ x,op = .extract x i∧eqOpd x x'=true:=by
 cases op with
 | extract x j =>
  simp only[okOp,Bool.and_eq_true,beq_iff_eq]at h;exact ⟨x,by rw[h.2],h.1⟩
 | _=>exact Bool.noConfusion h
theorem toList_two {α:Type} {xs:Array α} {x y:α} (h:xs.toList=[x,y]):xs = #[x,y]:=by cases xs;simp_all
theorem toList_one {α:Type} {xs:Array α} {x:α} (h:xs.toList=[x]):xs = #[x]:=by cases xs;simp_all
theorem inv_len {x':Opd} (h:okOp P num op (.len x')=true) : ∃ x t e,op = .call ⟨.builtin .len,#[x],#[t]⟩∧eqOpd x x'=true∧P.underlying t=some (.slice e):=by
 cases op with
 | call c =>
  obtain ⟨cl,xs,ts⟩:=c;cases cl with
  | builtin b =>
   cases b<;>first|exact Bool.noConfusion h|skip
   simp only[okOp]at h;split at h
   ·rename_i x t hx ht
    simp only[Bool.and_eq_true]at h;obtain ⟨e,he,_⟩:=sliceIs_inv h.2;exact ⟨x,t,e,by rw[toList_one hx,toList_one ht],h.1,he⟩
   ·cases h
  | value f=>cases f<;>exact Bool.noConfusion h
  | invoke=>exact Bool.noConfusion h
 | _=>exact Bool.noConfusion h
theorem inv_mm {mx:Bool} {xs':List Opd} (h:okOp P num op (.mm mx xs')=true) : ∃ xs ts,op = .call ⟨.builtin (if mx then .max else .min),xs,ts⟩∧eqOpds xs.toList xs'=true:=by
 cases op with
 | call c =>
  obtain ⟨cl,xs,ts⟩:=c;cases cl with
  | builtin b =>
   cases b<;>first|exact Bool.noConfusion h|skip
   all_goals
    simp only[okOp,Bool.and_eq_true]at h;refine ⟨xs,ts,?_,h.2⟩;cases mx<;>simp_all
  | value f=>cases f<;>exact Bool.noConfusion h
  | invoke=>exact Bool.noConfusion h
 | _=>exact Bool.noConfusion h
theorem inv_app {s esz bytes:Nat} {x' y':Opd} (h:okOp P num op (.app s esz bytes x' y')=true) : ∃ x y t e i z tx ex,op = .call ⟨.builtin .append,#[x,y],#[t,tx]⟩∧eqOpd x x'=true∧eqOpd y y'=true∧P.underlying t=some (.slice e)∧P.info? e=some i∧i.size=esz∧i.bytes=bytes∧i.zero=some z∧z.cells.size=esz∧esz≠0∧P.underlying tx=some (.slice ex):=by
 cases op with
 | call c =>
  obtain ⟨cl,xs,ts⟩:=c;cases cl with
  | builtin b =>
   cases b<;>first|exact Bool.noConfusion h|skip
   simp only[okOp]at h;split at h
   ·rename_i x y t u hx ht
    simp only[Bool.and_eq_true,beq_iff_eq,bne_iff_ne]at h;obtain ⟨⟨⟨⟨h1,h2⟩,h3⟩,h4⟩,h5⟩:=h;obtain ⟨e,he,h3⟩:=sliceIs_inv h3;simp only[Bool.and_eq_true]at h3;obtain ⟨⟨h6,h7⟩,h8⟩:=h3;obtain ⟨i,hi,hs⟩:=sizeIs_inv h6;obtain ⟨i2,hi2,hs2⟩:=bytesIs_inv h7;obtain ⟨i3,z,hi3,hz,hzz⟩:=zsz_inv h8;rw[hi]at hi2 hi3;obtain rfl:i=i2:=by simpa using hi2
    obtain rfl:i=i3:=by simpa using hi3
    obtain ⟨ex,hex,_⟩:=sliceIs_inv h5;exact ⟨x,y,t,e,i,z,u,ex,by rw[toList_two hx,toList_two ht],h1,h2,he,hi,hs,hs2,hz,hzz,h4,hex⟩
   ·cases h
  | value f=>cases f<;>exact Bool.noConfusion h
  | invoke=>exact Bool.noConfusion h
 | _=>exact Bool.noConfusion h
theorem inv_call {f:Nat} {xs':List Opd} (h:okOp P num op (.call f xs')=true) : ∃ xs ts,op = .call ⟨.value (.func (num f)),xs,ts⟩∧eqOpds xs.toList xs'=true:=by
 cases op with
 | call c =>
  obtain ⟨cl,xs,ts⟩:=c;cases cl with
  | builtin b=>cases b<;>exact Bool.noConfusion h
  | value g =>
   cases g with
   | func g =>
    simp only[okOp,Bool.and_eq_true,beq_iff_eq]at h;exact ⟨xs,ts,by rw[h.1],h.2⟩
   | _=>exact Bool.noConfusion h
  | invoke=>exact Bool.noConfusion h
 | _=>exact Bool.noConfusion h
theorem inv_calli {f:Nat} {xs':List Opd} (h:okOp P num op (.calli f xs')=true) : ∃ xs ts,op = .call ⟨.value (.func (num f)),xs,ts⟩∧eqOpds xs.toList xs'=true:=by
 cases op with
 | call c =>
  obtain ⟨cl,xs,ts⟩:=c;cases cl with
  | builtin b=>cases b<;>exact Bool.noConfusion h
  | value g =>
   cases g with
   | func g =>
    simp only[okOp,Bool.and_eq_true,beq_iff_eq]at h;exact ⟨xs,ts,by rw[h.1],h.2⟩
   | _=>exact Bool.noConfusion h
  | invoke=>exact Bool.noConfusion h
 | _=>exact Bool.noConfusion h
theorem inv_callq {f:Nat} {xs':List Opd} (h:okOp P num op (.callq f xs')=true):okOp P num op (.call f xs')=true:=by
 cases op<;>exact h
theorem inv_nck {x':Opd} (h:okOp P num op (.nck x')=true) : ∃ x,op = .nilCheck x∧eqOpd x x'=true:=by
 cases op with
 | nilCheck x=>exact ⟨x,rfl,h⟩
 | _=>exact Bool.noConfusion h
theorem inv_cals {s f:Nat} {xs':List Opd} (h:okOp P num op (.cals s f xs')=true):okOp P num op (.calli f xs')=true:=by
 cases op<;>exact h
theorem inv_callr {s f:Nat} {xs':List Opd} (h:okOp P num op (.callr s f xs')=true):okOp P num op (.call f xs')=true:=by
 cases op<;>exact h
theorem inv_appo {s esz bytes:Nat} {x' y':Opd} (h:okOp P num op (.appo s esz bytes x' y')=true):okOp P num op (.app s esz bytes x' y')=true:=by
 cases op<;>exact h
theorem inv_callv {x':Opd} {xs':List Opd} (h:okOp P num op (.callv x' xs')=true) : ∃ x xs ts,op = .call ⟨.value x,xs,ts⟩∧eqOpd x x'=true∧eqOpds xs.toList xs'=true:=by
 cases op with
 | call c =>
  obtain ⟨cl,xs,ts⟩:=c;cases cl with
  | builtin b=>cases b<;>exact Bool.noConfusion h
  | value g =>
   simp only[okOp,Bool.and_eq_true]at h;exact ⟨g,xs,ts,rfl,h.1,h.2⟩
  | invoke=>exact Bool.noConfusion h
 | _=>exact Bool.noConfusion h
end
end Go.Eng


