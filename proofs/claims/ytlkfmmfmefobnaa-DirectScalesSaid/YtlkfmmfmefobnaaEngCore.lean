/-
  The abstract machine: data without memory. AV: a value; slices that are only read are lists ('sl'), rows and boxes of the call's own are named by a site and a stamp.
  Nothing here speaks of a program; EngSound ties it to the model.
-/
import Derived.Calls
set_option linter.unusedSimpArgs false
set_option linter.unusedVariables false
set_option linter.unnecessarySimpa false
namespace Go.Eng

inductive AV where
  | int (k : IntKind) (n : Int)
  | bool (b : Bool)
  | sl (l : Bool) (es : List (List AV))
  | row (s t z off len : Nat)
  | nil
  | ptr (s t i j : Nat)
  | dptr (cs : List AV)
  | agg (cs : List AV)
  | tup (vs : List AV)
  | con (v : Value)
  | any
  deriving Inhabited

inductive Opd where
  | t (n : Nat)
  | c (v : AV)
  deriving Inhabited

structure Blk where
  esz : Nat
  es : List (List AV)

structure Site where
  cnt : Nat
  blk : Nat → Option Blk

def Own := Nat → Site
def Own.emp : Own := fun _ => ⟨0, fun _ => none⟩
def Own.put (o : Own) (s : Nat) (x : Site) : Own := fun s' => if s' = s then x else o s'
def Own.get (o : Own) (s t : Nat) : Option Blk := (o s).blk t
def Own.cnt (o : Own) (s : Nat) : Nat := (o s).cnt
/-- one name turned -/
def Site.upd (x : Site) (t : Nat) (b : Option Blk) : Site := ⟨x.cnt, fun t' => if t' = t then b else x.blk t'⟩
/-- a new name -/
def Site.new (x : Site) (b : Blk) : Site := ⟨x.cnt + 1, fun t' => if t' = x.cnt then some b else x.blk t'⟩

theorem Own.put_same (o : Own) (s : Nat) (x : Site) : o.put s x s = x := by simp [Own.put]
theorem Own.put_ne (o : Own) (s s' : Nat) (x : Site) (h : s' ≠ s) : o.put s x s' = o s' := by simp [Own.put, h]
theorem Own.put_put (o : Own) (s : Nat) (x y : Site) : (o.put s x).put s y = o.put s y := by
  funext s'; by_cases h : s' = s <;> simp [Own.put, h]

inductive AOp where
  | mov (x : Opd)
  | vrow (s esz : Nat)
  | pick (c a b : Opd)
  | bin (op : BinOp) (x y : Opd)
  | beq (ne : Bool) (x y : Opd)
  | un (op : UnOp) (x : Opd)
  | conv (k : IntKind) (x : Opd)
  | box (s : Nat) (x : Opd)
  | alloc (s : Nat) (zero : List AV)
  | build (zero : List AV) (parts : List (Nat × Nat × Opd))
  | bslice (s esz : Nat) (parts : List Opd)
  | fadr (x : Opd) (off : Nat)
  | fld (x : Opd) (off n : Nat) (agg : Bool)
  | iadr (arr : Option Nat) (esz : Nat) (x i : Opd)
  | idx (len esz : Nat) (agg : Bool) (x i : Opd)
  | ld (agg : Bool) (n : Nat) (x : Opd)
  | st (n : Nat) (x v : Opd)
  | mk (s esz bytes : Nat) (zero : List AV) (l c : Opd)
  | slc (esz : Nat) (x : Opd) (lo hi : Option Opd)
  | ext (x : Opd) (i : Nat)
  | len (x : Opd)
  | mm (max : Bool) (xs : List Opd)
  | app (s esz bytes : Nat) (x y : Opd)
  | cpy (esz : Nat) (x y : Opd)
  | call (f : Nat) (xs : List Opd)
  | calli (f : Nat) (xs : List Opd)
  deriving Inhabited

structure AI where
  dst : Option Nat
  op : AOp
  guard : Option (Nat × Bool) := none
  ban : List Nat := []
  deriving Inhabited

inductive ACode where
  | skip
  | ops (l : List AI) (draw : Bool)
  | dr (c : ACode) (ts ss : List Nat)
  | scope (c : ACode)
  | seq (a b : ACode)
  | cond (c : Opd) (a b : ACode)
  | block (id : Nat) (c : ACode)
  | loop (c : ACode)
  | exit (id : Nat)
  | ret
  deriving Inhabited

inductive ARes where
  | tmp (t : Nat)
  | cell (t : Nat) (agg : Bool) (n : Nat)
  deriving Inhabited

structure AFn where
  pars : Nat
  body : ACode
  res : List ARes

/-- the slots, most by far not there -/
abbrev Tm := List (Nat × AV)
def tget : Tm → Nat → AV
  | [], _ => .any
  | (i, v) :: r, j => if j = i then v else tget r j
def tput : Tm → Nat → AV → Tm
  | [], j, u => [(j, u)]
  | (i, v) :: r, j, u => if j = i then (i, u) :: r else if j < i then (j, u) :: (i, v) :: r else (i, v) :: tput r j u
def tdrop : Tm → List Nat → Tm
  | [], _ => []
  | (i, v) :: r, l => if l.contains i then tdrop r l else (i, v) :: tdrop r l

theorem tget_tput (m : Tm) (i : Nat) (v : AV) (j : Nat) : tget (tput m i v) j = if j = i then v else tget m j := by
  induction m with
  | nil => by_cases h : j = i <;> simp [tput, tget, h]
  | cons x r ih =>
    obtain ⟨a, u⟩ := x
    by_cases h : i = a
    · subst h
      by_cases h2 : j = i <;> simp [tput, tget, h2]
    · by_cases hlt : i < a
      · by_cases h2 : j = i <;> simp [tput, tget, h, hlt, h2]
      · by_cases h2 : j = a
        · subst h2
          have : ¬ j = i := fun e => h e.symm
          simp [tput, tget, h, hlt, this]
        · simp [tput, tget, h, hlt, h2, ih]

structure St where
  tm : Tm
  own : Own

def St.ev (st : St) : Opd → AV
  | .t n => tget st.tm n
  | .c v => v

inductive Eff where
  | val (v : AV)
  | new (s : Nat) (b : Blk) (v : Nat → AV)
  | vir (s : Nat) (b : Blk) (v : Nat → AV)
  | tur (v : AV) (own : Own)

/-! ### values -/

def cellsOf : AV → Option (List AV)
  | .agg cs => some cs
  | .tup _ => none
  | .any => none
  | v => some [v]

/-- what a load of 'n' cells gives back -/
def ofCells (agg : Bool) (cs : List AV) : Option AV :=
  if agg then some (.agg cs) else match cs with | [c] => some c | _ => none

def part (cs : List AV) (off n : Nat) : Option (List AV) :=
  if off + n ≤ cs.length then some ((cs.drop off).take n) else none

def splice (cs : List AV) (off : Nat) (vs : List AV) : List AV := cs.take off ++ vs ++ cs.drop (off + vs.length)

def fill (cells : List AV) : List (Nat × Nat × AV) → Option (List AV)
  | [] => some cells
  | (off, n, v) :: r => match cellsOf v with
    | some vs => if vs.length = n ∧ off + n ≤ cells.length then fill (splice cells off vs) r else none
    | none => none

def intBin (op : BinOp) (k : IntKind) (a : Int) (k' : IntKind) (b : Int) : Option AV :=
  match op with
  | .shl => if b < 0 then none else some (.int k (k.wrap (a * 2 ^ (min b.toNat k.bits))))
  | .shr => if b < 0 then none else some (.int k (a.fdiv (2 ^ (min b.toNat k.bits))))
  | .add => if k = k' then some (.int k (k.wrap (a + b))) else none
  | .sub => if k = k' then some (.int k (k.wrap (a - b))) else none
  | .mul => if k = k' then some (.int k (k.wrap (a * b))) else none
  | .quo => if k = k' ∧ b ≠ 0 then some (.int k (k.wrap (a.tdiv b))) else none
  | .rem => if k = k' ∧ b ≠ 0 then some (.int k (a.tmod b)) else none
  | .and => if k = k' then some (.int k (k.wrap (BitVec.ofInt k.bits a &&& BitVec.ofInt k.bits b).toNat)) else none
  | .or => if k = k' then some (.int k (k.wrap (BitVec.ofInt k.bits a ||| BitVec.ofInt k.bits b).toNat)) else none
  | .xor => if k = k' then some (.int k (k.wrap (BitVec.ofInt k.bits a ^^^ BitVec.ofInt k.bits b).toNat)) else none
  | .andNot => if k = k' then some (.int k (k.wrap (BitVec.ofInt k.bits a &&& ~~~ BitVec.ofInt k.bits b).toNat)) else none
  | .eql => if k = k' then some (.bool (a == b)) else none
  | .neq => if k = k' then some (.bool (a != b)) else none
  | .lss => if k = k' then some (.bool (decide (a < b))) else none
  | .leq => if k = k' then some (.bool (decide (a ≤ b))) else none
  | .gtr => if k = k' then some (.bool (decide (a > b))) else none
  | .geq => if k = k' then some (.bool (decide (a ≥ b))) else none

def unA (op : UnOp) : AV → Option AV
  | .int k n => match op with
    | .neg => some (.int k (k.wrap (0 - n)))
    | .xor => some (.int k (k.wrap (BitVec.ofInt k.bits (if k.signed then -1 else k.max) ^^^ BitVec.ofInt k.bits n).toNat))
    | _ => none
  | .bool b => match op with
    | .not => some (.bool (!b))
    | _ => none
  | _ => none

def mm2 (max : Bool) : AV → AV → Option AV
  | .int k a, .int _ b => some (.int k (if max then (if b > a then b else a) else (if b < a then b else a)))
  | _, _ => none
def mmL (max : Bool) : AV → List AV → Option AV
  | v, [] => some v
  | v, u :: r => match mm2 max v u with | some x => mmL max x r | none => none

/-! ### the own memory -/

/-- some sites are not to be looked at (they are filled in an open order) -/
def Own.hide (o : Own) : List Nat → Own
  | [] => o
  | s :: r => fun s' => if s' = s then ⟨0, fun _ => none⟩ else o.hide r s'

def Own.ldp (own : Own) (s t i j n : Nat) : Option (List AV) :=
  match own.get s t with
  | some b => match b.es[i]? with
    | some cs => part cs j n
    | none => none
  | none => none

def Own.stp (own : Own) (s t i j : Nat) (vs : List AV) : Option Own :=
  match own.get s t with
  | some b => match b.es[i]? with
    | some cs => if j + vs.length ≤ cs.length then some (own.put s ((own s).upd t (some ⟨b.esz, b.es.set i (splice cs j vs)⟩))) else none
    | none => none
  | none => none

/-- the elements of a slice: of any of its three kinds -/
def elemsOf (own : Own) : AV → Option (List (List AV))
  | .sl _ es => some es
  | .nil => some []
  | .row s t z off len => match own.get s t with
    | some b => if off + len ≤ b.es.length ∧ b.esz = z then some ((b.es.drop off).take len) else none
    | none => none
  | _ => none

def lenOf : AV → Option Nat
  | .sl _ es => some es.length
  | .nil => some 0
  | .row _ _ _ _ len => some len
  | _ => none

/-! a reading for a call: rows become lists, lent or not -/
def snap (own : Own) (l : Bool) : Nat → AV → Option AV
  | _, .int k n => some (.int k n)
  | _, .bool b => some (.bool b)
  | _, .sl l' es => some (.sl l' es)
  | _, .nil => some (.sl false [])
  | _, .con v => some (.con v)
  | d + 1, .row s t z off len => match elemsOf own (.row s t z off len) with
    | some es => (es.mapM (fun cs : List AV => cs.mapM (snap own l d))).map (AV.sl l)
    | none => none
  | _, _ => none
def snapA (own : Own) (l : Bool) : AV → Option AV
  | .agg cs => (cs.mapM (snap own l 6)).map AV.agg
  | v => snap own l 6 v
/-- of results: several of them, too -/
def snapR (own : Own) (l : Bool) : AV → Option AV
  | .tup cs => (cs.mapM (snapA own l)).map AV.tup
  | v => snapA own l v

mutual
/-- data of the call's own or of no lent memory -/
def Clean : AV → Prop
  | .int _ _ => True
  | .bool _ => True
  | .con _ => True
  | .sl l es => l = false ∧ CleanLL es
  | .agg cs => CleanL cs
  | .tup cs => CleanL cs
  | _ => False
def CleanL : List AV → Prop
  | [] => True
  | c :: r => Clean c ∧ CleanL r
def CleanLL : List (List AV) → Prop
  | [] => True
  | c :: r => CleanL c ∧ CleanLL r
end

def roomMax : Nat := 140737488355328

/-- calls, as a parameter -/
structure Cl where
  pure : Nat → List AV → Option AV
  inn : Nat → List AV → Own → Option (AV × Own)

open Classical in
noncomputable def eff (C : Cl) (ban : List Nat) (ρ : Opd → AV) (own : Own) : AOp → Option Eff
  | .mov x => some (.val (ρ x))
  | .vrow s esz => some (.vir s ⟨esz, []⟩ (fun t => .row s t esz 0 0))
  | .pick c a b => match ρ c with
    | .bool true => some (.val (ρ a))
    | .bool false => some (.val (ρ b))
    | _ => none
  | .bin op x y => match ρ x, ρ y with
    | .int k a, .int k' b => (intBin op k a k' b).map .val
    | _, _ => none
  | .beq ne x y => match ρ x, ρ y with
    | .bool a, .bool b => some (.val (.bool (if ne then !(a == b) else a == b)))
    | _, _ => none
  | .un op x => (unA op (ρ x)).map .val
  | .conv k x => match ρ x with
    | .int _ n => some (.val (.int k (k.wrap n)))
    | _ => none
  | .box s x => match cellsOf (ρ x) with
    | some cs => some (.new s ⟨cs.length, [cs]⟩ (fun t => .ptr s t 0 0))
    | none => none
  | .alloc s zero => some (.new s ⟨zero.length, [zero]⟩ (fun t => .ptr s t 0 0))
  | .build zero parts => (fill zero (parts.map fun p => (p.1, p.2.1, ρ p.2.2))).map (fun cs => .val (.agg cs))
  | .bslice s esz parts => match parts.mapM (fun x => cellsOf (ρ x)) with
    | some es => if ∀ e ∈ es, e.length = esz then some (.new s ⟨esz, es⟩ (fun t => .row s t esz 0 es.length)) else none
    | none => none
  | .fadr x off => match ρ x with
    | .ptr s t i j => some (.val (.ptr s t i (j + off)))
    | .dptr cs => some (.val (.dptr (cs.drop off)))
    | _ => none
  | .fld x off n agg => match ρ x with
    | .agg cs => match part cs off n with
      | some ds => (ofCells agg ds).map .val
      | none => none
    | _ => none
  | .iadr arr esz x i => match ρ i with
    | .int _ n => match arr, ρ x with
      | some len, .ptr s t i' j => if 0 ≤ n ∧ n < len then some (.val (.ptr s t i' (j + n.toNat * esz))) else none
      | some len, .dptr cs => if 0 ≤ n ∧ n < len then some (.val (.dptr (cs.drop (n.toNat * esz)))) else none
      | none, .row s t z off len => if 0 ≤ n ∧ n < len ∧ z = esz then some (.val (.ptr s t (off + n.toNat) 0)) else none
      | none, .sl _ es => if 0 ≤ n then match es[n.toNat]? with
          | some cs => if cs.length = esz then some (.val (.dptr cs)) else none
          | none => none
        else none
      | _, _ => none
    | _ => none
  | .idx len esz agg x i => match ρ i, ρ x with
    | .int _ n, .agg cs => if 0 ≤ n ∧ n < len then match part cs (n.toNat * esz) esz with
        | some ds => (ofCells agg ds).map .val
        | none => none
      else none
    | _, _ => none
  | .ld agg n x => match ρ x with
    | .ptr s t i j => match (own.hide ban).ldp s t i j n with
      | some cs => (ofCells agg cs).map .val
      | none => none
    | .dptr cs => match part cs 0 n with
      | some ds => (ofCells agg ds).map .val
      | none => none
    | _ => none
  | .st n x v => match ρ x, cellsOf (ρ v) with
    | .ptr s t i j, some vs => if vs.length = n then (own.stp s t i j vs).map (Eff.tur (.tup [])) else none
    | _, _ => none
  | .mk s esz bytes zero l c => match ρ l, ρ c with
    | .int _ a, .int _ b => if 0 ≤ a ∧ a ≤ b ∧ b * bytes ≤ roomMax ∧ b ≤ 9223372036854775807 ∧ zero.length = esz then some (.new s ⟨esz, List.replicate a.toNat zero⟩ (fun t => .row s t esz 0 a.toNat)) else none
    | _, _ => none
  | .slc esz x lo hi => match ρ x with
    | .sl l es =>
      let h : Option Nat := match hi with | none => some es.length | some o => match ρ o with | .int _ n => if 0 ≤ n ∧ n ≤ es.length then some n.toNat else none | _ => none
      let a : Option Nat := match lo with | none => some 0 | some o => match ρ o with | .int _ n => if 0 ≤ n then some n.toNat else none | _ => none
      match a, h with
      | some a, some h => if a ≤ h ∧ ∀ e ∈ es, e.length = esz then some (.val (.sl l ((es.take h).drop a))) else none
      | _, _ => none
    | .nil =>
      let h : Option Nat := match hi with | none => some 0 | some o => match ρ o with | .int _ n => if n = 0 then some 0 else none | _ => none
      let a : Option Nat := match lo with | none => some 0 | some o => match ρ o with | .int _ n => if n = 0 then some 0 else none | _ => none
      match a, h with
      | some _, some _ => some (.val .nil)
      | _, _ => none
    | .row s t z off len =>
      let h : Option Nat := match hi with | none => some len | some o => match ρ o with | .int _ n => if 0 ≤ n ∧ n ≤ len then some n.toNat else none | _ => none
      let a : Option Nat := match lo with | none => some 0 | some o => match ρ o with | .int _ n => if 0 ≤ n then some n.toNat else none | _ => none
      match a, h with
      | some a, some h => if a ≤ h ∧ z = esz then some (.val (.row s t z (off + a) (h - a))) else none
      | _, _ => none
    | _ => none
  | .ext x i => match ρ x with
    | .tup vs => (vs[i]?).map .val
    | _ => none
  | .len x => match lenOf (ρ x) with
    | some n => some (.val (.int .i64 (n : Int)))
    | none => none
  | .mm max xs => match xs.map ρ with
    | [] => none
    | v :: r => (mmL max v r).map .val
  | .app s esz bytes x y => match elemsOf own (ρ y) with
    | some ys => if ∀ e ∈ ys, e.length = esz then match ρ x with
        | .row s' t z 0 len => match own.get s' t with
          | some b => if b.esz = esz ∧ z = esz ∧ len ≤ b.es.length ∧ (len + ys.length) * bytes ≤ roomMax ∧ len + ys.length ≤ 9223372036854775807 then
              some (.tur (.row s' (own.cnt s') esz 0 (len + ys.length)) (own.put s' (((own s').upd t none).new ⟨esz, b.es.take len ++ ys⟩)))
            else none
          | none => none
        | .nil => if ys.length * bytes ≤ roomMax ∧ ys.length ≤ 9223372036854775807 then
              some (.tur (.row s (own.cnt s) esz 0 ys.length) (own.put s ((own s).new ⟨esz, ys⟩))) else none
        | _ => none
      else none
    | none => none
  | .cpy esz x y => match ρ x, elemsOf own (ρ y) with
    | .row s t z off len, some ys => match own.get s t with
      | some b => if b.esz = esz ∧ z = esz ∧ off + len ≤ b.es.length ∧ (∀ e ∈ ys, e.length = esz) then
          some (.tur (.int .i64 (min ys.length len : Nat)) (own.put s ((own s).upd t (some ⟨esz, b.es.take off ++ ys.take len ++ b.es.drop (off + min ys.length len)⟩))))
        else none
      | none => none
    | _, _ => none
  | .call f xs => match (xs.map ρ).mapM (snapA (own.hide ban) true) with
    | some vs => (C.pure f vs).map .val
    | none => none
  | .calli f xs => (C.inn f (xs.map ρ) own).map (fun r => .tur r.1 r.2)

def St.dst (st : St) (d : Option Nat) (v : AV) : St :=
  match d with
  | some d => { st with tm := tput st.tm d v }
  | none => st

def St.app (st : St) (d : Option Nat) : Eff → St
  | .val v => st.dst d v
  | .new s b v => { (st.dst d (v (st.own.cnt s))) with own := st.own.put s ((st.own s).new b) }
  | .vir s b v => { (st.dst d (v (st.own.cnt s))) with own := st.own.put s ((st.own s).new b) }
  | .tur v o => { (st.dst d v) with own := o }

/-- is the guarded operation wanted? -/
def guardA (st : St) : Option (Nat × Bool) → Option Bool
  | none => some true
  | some (g, want) => match tget st.tm g with
    | .bool b => some (b == want)
    | .tup [] => some false
    | _ => none

noncomputable def stepI (C : Cl) (o : AI) (st : St) : Option St :=
  match guardA st o.guard with
  | some true => (eff C o.ban st.ev st.own o.op).map (st.app o.dst)
  | some false => some (st.dst o.dst (.tup []))
  | none => none

noncomputable def stepL (C : Cl) : List AI → St → Option St
  | [], st => some st
  | o :: r, st => match stepI C o st with
    | some st' => stepL C r st'
    | none => none

/-- the site at which an operation makes memory -/
def siteOf : AOp → Option Nat
  | .vrow s _ => some s
  | .box s _ => some s
  | .alloc s _ => some s
  | .bslice s _ _ => some s
  | .mk s _ _ _ _ _ => some s
  | _ => none

inductive It where
  | code (c : ACode)
  | drp (ts ss : List Nat)
  | blk (id : Nat)
  | lp (c : ACode)

def exitA (id : Nat) : List It → Option (List It)
  | .blk id' :: k => if id' = id then some k else exitA id k
  | _ :: k => exitA id k
  | [] => none

def Own.drop (o : Own) : List Nat → Own
  | [] => o
  | s :: r => (o.drop r).put s ⟨(o s).cnt, fun _ => none⟩

noncomputable def run (C : Cl) : Nat → List It → St → Option St
  | 0, _, _ => none
  | _ + 1, [], st => some st
  | n + 1, .blk _ :: k, st => run C n k st
  | n + 1, .drp ts ss :: k, st => run C n k ⟨tdrop st.tm ts, st.own.drop ss⟩
  | n + 1, .lp c :: k, st => run C n (.code c :: .lp c :: k) st
  | n + 1, .code c :: k, st => match c with
    | .skip => run C n k st
    | .ops l _ => match stepL C l st with
      | some st' => run C n k st'
      | none => none
    | .dr c ts ss => run C n (.code c :: .drp ts ss :: k) st
    | .scope c => run C n (.code c :: k) st
    | .seq a b => run C n (.code a :: .code b :: k) st
    | .cond c a b => match st.ev c with
      | .bool true => run C n (.code a :: k) st
      | .bool false => run C n (.code b :: k) st
      | _ => none
    | .block id c => run C n (.code c :: .blk id :: k) st
    | .loop c => run C n (.code c :: .lp c :: k) st
    | .exit id => match exitA id k with
      | some k' => run C n k' st
      | none => none
    | .ret => some st

def initTm (i : Nat) : List AV → Tm
  | [] => []
  | v :: r => (i, v) :: initTm (i + 1) r

def resTmp : AV → Option AV
  | .any => none
  | .tup _ => none
  | v => some v

def resOf (st : St) : ARes → Option AV
  | .tmp t => resTmp (tget st.tm t)
  | .cell t agg n => match tget st.tm t with
    | .ptr s u i j => match st.own.ldp s u i j n with
      | some cs => ofCells agg cs
      | none => none
    | _ => none

def resVal : List AV → AV
  | [v] => v
  | vs => .tup vs

/-- a library of functions -/
abbrev Lib := Nat → Option AFn

open Classical in
noncomputable def evI (L : Lib) : Nat → Nat → List AV → Own → Option (AV × Own)
  | 0, _, _, _ => none
  | n + 1, f, args, own => match L f with
    | none => none
    | some fn => if args.length = fn.pars then
        match run ⟨fun f vs => match evI L n f vs Own.emp with
            | some (r, o) => match snapR o false r with
              | some r' => if Clean r' then some r' else none
              | none => none
            | none => none, evI L n⟩ n [.code fn.body] ⟨initTm 0 args, own⟩ with
        | some st => match fn.res.mapM (resOf st) with
          | some vs => some (resVal vs, st.own)
          | none => none
        | none => none
      else none

open Classical in
noncomputable def evP (L : Lib) (n f : Nat) (vs : List AV) : Option AV :=
  match evI L n f vs Own.emp with
  | some (r, o) => match snapR o false r with
    | some r' => if Clean r' then some r' else none
    | none => none
  | none => none

noncomputable def clAt (L : Lib) (n : Nat) : Cl := ⟨evP L n, evI L n⟩

theorem evI_succ (L : Lib) (n f : Nat) (args : List AV) (own : Own) : evI L (n + 1) f args own =
    match L f with
    | none => none
    | some fn => if args.length = fn.pars then
        match run (clAt L n) n [.code fn.body] ⟨initTm 0 args, own⟩ with
        | some st => match fn.res.mapM (resOf st) with
          | some vs => some (resVal vs, st.own)
          | none => none
        | none => none
      else none := rfl

end Go.Eng
