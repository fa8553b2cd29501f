/-
  The checker: is an abstract code the reading of a code of the model? Types are resolved here (offsets, sizes, zeros), functions are known by stable numbers ('num': the number in the program).
-/
import Derived.Test.YtlkfmmfmefobnaaEngCore
set_option linter.unusedSimpArgs false
set_option linter.unusedVariables false
set_option linter.unnecessarySimpa false
namespace Go.Eng

def eqVal : Value → AV → Bool
  | .int k n, .int k' n' => k == k' && n == n'
  | .bool b, .bool b' => b == b'
  | .slice none 0 0, .nil => true
  | .string s, .con (.string s') => s.data.toList == s'.data.toList
  | _, _ => false
def eqVals : List Value → List AV → Bool
  | [], [] => true
  | v :: r, a :: l => eqVal v a && eqVals r l
  | _, _ => false
def eqConst : Value → AV → Bool
  | .agg cs, .agg l => eqVals cs.toList l
  | v, a => eqVal v a
def eqOpd : Operand → Opd → Bool
  | .tmp t, .t n => t == n
  | .const v, .c a => eqConst v a
  | _, _ => false
def eqOpds : List Operand → List Opd → Bool
  | [], [] => true
  | v :: r, a :: l => eqOpd v a && eqOpds r l
  | _, _ => false
def eqOpt : Option Operand → Option Opd → Bool
  | none, none => true
  | some x, some y => eqOpd x y
  | _, _ => false

section
variable (P : Program)
def aggOf (t : TypeId) : Option Bool :=
  match P.underlying t with
  | some (.struct _) => some true
  | some (.array _ _) => some true
  | some _ => some false
  | none => none
def sizeIs (t : TypeId) (n : Nat) : Bool := match P.info? t with | some i => i.size == n | none => false
def bytesIs (t : TypeId) (n : Nat) : Bool := match P.info? t with | some i => i.bytes == n | none => false
def zeroIs (t : TypeId) (l : List AV) : Bool := match P.info? t with | some i => (match i.zero with | some z => eqVals z.cells.toList l | none => false) | none => false
def sliceIs (t : TypeId) (f : TypeId → Bool) : Bool := match P.underlying t with | some (.slice e) => f e | _ => false
def fieldIs (t : TypeId) (i off n : Nat) : Bool := match P.underlying t with
  | some (.struct fs) => (match fs[i]? with | some f => f.offset == off && sizeIs P f.type n && n != 0 | none => false)
  | _ => false
def fieldTy (t : TypeId) (i : Nat) (agg : Bool) : Bool := match P.underlying t with
  | some (.struct fs) => (match fs[i]? with | some f => aggOf P f.type == some agg | none => false)
  | _ => false
def partsAre (place : Nat → Option (Nat × Nat)) : List (Nat × Operand) → List (Nat × Nat × Opd) → Bool
  | [], [] => true
  | (i, x) :: r, (off, n, y) :: l => place i == some (off, n) && eqOpd x y && partsAre place r l
  | _, _ => false
def buildIs (t : TypeId) (ps : List (Nat × Operand)) (ps' : List (Nat × Nat × Opd)) : Bool := match P.underlying t with
  | some (.struct fs) => (match fs.toList.mapM (fun f => (P.info? f.type).map fun i => (f.offset, i.size)) with | some places => partsAre (places.toArray[·]?) ps ps' | none => false)
  | some (.array _ e) => (match P.info? e with | some ie => partsAre (fun i => some (i * ie.size, ie.size)) ps ps' | none => false)
  | _ => false
def elemsAre (k : Nat) : List (Nat × Operand) → List Opd → Bool
  | [], [] => true
  | (i, x) :: r, y :: l => i == k && eqOpd x y && elemsAre (k + 1) r l
  | _, _ => false

def okOp (num : Nat → Nat) (op : Op) : AOp → Bool
  | .mov y => match op with | .move x => eqOpd x y | .assign x => eqOpd x y | _ => false
  | .vrow _ z => z != 0 && (match op with | .move (.const (.slice none 0 0)) => true | .assign (.const (.slice none 0 0)) => true | _ => false)
  | .pick c' a' b' => match op with | .pick c a b => eqOpd c c' && eqOpd a a' && eqOpd b b' | _ => false
  | .bin op' x' y' => match op with | .binOp op _ x y _ => op == op' && eqOpd x x' && eqOpd y y' | _ => false
  | .beq ne x' y' => match op with | .binOp op t x y _ => (if ne then op == .neq else op == .eql) && (match P.underlying t with | some .bool => true | _ => false) && eqOpd x x' && eqOpd y y' | _ => false
  | .un op' x' => match op with | .unOp op _ x => op == op' && eqOpd x x' | _ => false
  | .conv k x' => match op with | .convert s d x => (P.underlying s).isSome && (match P.underlying d with | some (.int k') => k == k' | _ => false) && eqOpd x x' | _ => false
  | .box _ x' => match op with | .box _ x => eqOpd x x' | _ => false
  | .alloc _ z => match op with | .alloc t => zeroIs P t z | _ => false
  | .build z ps' => match op with | .build t ps => zeroIs P t z && buildIs P t ps.toList ps' | _ => false
  | .bslice _ esz ps' => match op with
    | .buildSlice t n ps => sliceIs P t (fun e => sizeIs P e esz) && esz != 0 && n == ps'.length && decide (n * esz ≤ 16777216) && elemsAre 0 ps.toList ps' && (n == 0 || sliceIs P t (fun e => match P.info? e with | some i => (match i.zero with | some z => z.cells.size == esz | none => false) | none => false))
    | _ => false
  | .fadr x' off => match op with
    | .fieldAddr s x f => eqOpd x x' && (match P.underlying s with | some (.struct fs) => (match fs[f]? with | some fd => fd.offset == off && (match P.info? fd.type with | some i => i.size != 0 | none => false) | none => false) | _ => false)
    | _ => false
  | .fld x' off n agg => match op with | .field t x f => eqOpd x x' && fieldIs P t f off n && fieldTy P t f agg | _ => false
  | .iadr arr esz x' i' => match op with
    | .indexAddr t x i => eqOpd x x' && eqOpd i i' && (match P.underlying t, arr with | some (.array len e), some len' => len == len' && sizeIs P e esz && decide (1 < len) | some (.slice e), none => sizeIs P e esz && esz != 0 | _, _ => false)
    | _ => false
  | .idx len esz agg x' i' => match op with
    | .index t x i => eqOpd x x' && eqOpd i i' && (match P.underlying t with | some (.array len' e) => len == len' && sizeIs P e esz && aggOf P e == some agg | _ => false)
    | _ => false
  | .ld agg n x' => match op with | .load t x => eqOpd x x' && aggOf P t == some agg && (if agg then sizeIs P t n else n == 1) | _ => false
  | .st n x' v' => match op with | .store t x v => eqOpd x x' && eqOpd v v' && sizeIs P t n | _ => false
  | .mk _ esz bytes z l' c' => match op with
    | .makeSlice t l c => eqOpd l l' && eqOpd c c' && sliceIs P t (fun e => sizeIs P e esz && bytesIs P e bytes && zeroIs P e z) && esz != 0
    | _ => false
  | .slc esz x' lo' hi' => match op with
    | .slice t x lo hi none => eqOpd x x' && eqOpt lo lo' && eqOpt hi hi' && sliceIs P t (fun e => sizeIs P e esz) && esz != 0
    | _ => false
  | .ext x' i' => match op with | .extract x i => eqOpd x x' && i == i' | _ => false
  | .len x' => match op with
    | .call ⟨.builtin .len, xs, ts⟩ => (match xs.toList, ts.toList with | [x], [t] => eqOpd x x' && sliceIs P t (fun _ => true) | _, _ => false)
    | _ => false
  | .mm max xs' => match op with
    | .call ⟨.builtin .min, xs, _⟩ => !max && eqOpds xs.toList xs'
    | .call ⟨.builtin .max, xs, _⟩ => max && eqOpds xs.toList xs'
    | _ => false
  | .app _ esz bytes x' y' => match op with
    | .call ⟨.builtin .append, xs, ts⟩ => (match xs.toList, ts.toList with
      | [x, y], [t, u] => eqOpd x x' && eqOpd y y' && sliceIs P t (fun e => sizeIs P e esz && bytesIs P e bytes && (match P.info? e with | some i => (match i.zero with | some z => z.cells.size == esz | none => false) | none => false)) && esz != 0 && u == t
      | _, _ => false)
    | _ => false
  | .cpy esz x' y' => match op with
    | .call ⟨.builtin .copy, xs, ts⟩ => (match xs.toList, ts.toList with
      | [x, y], [t, u] => eqOpd x x' && eqOpd y y' && sliceIs P t (fun e => sizeIs P e esz) && esz != 0 && u == t
      | _, _ => false)
    | _ => false
  | .call f' xs' => match op with
    | .call ⟨.value (.func f), xs, _⟩ => f == num f' && eqOpds xs.toList xs'
    | _ => false
  | .calli f' xs' => match op with
    | .call ⟨.value (.func f), xs, _⟩ => f == num f' && eqOpds xs.toList xs'
    | _ => false

def okGuard (ops : Array Oper) : Option (Nat × Bool) → Option (Nat × Bool) → Bool
  | none, none => true
  | some (j, b), some (t, b') => b == b' && (match ops[j]? with | some o => o.dst == some t | none => false)
  | _, _ => false

def okI (num : Nat → Nat) (N : Nat) (ops : Array Oper) (o : Oper) (a : AI) : Bool :=
  o.dst == a.dst && (match a.dst with | some d => decide (d < N) | none => true) && okGuard ops o.guard a.guard && okOp P num o.op a.op

def okL (num : Nat → Nat) (N : Nat) (ops : Array Oper) : List Oper → List AI → Bool
  | [], [] => true
  | o :: r, a :: l => okI P num N ops o a && okL num N ops r l
  | _, _ => false

/-! ### regions that draw: what touches memory, what turns it -/
def turnsMem : AOp → Bool
  | .st .. | .app .. | .cpy .. | .calli .. => true
  | _ => false
def readsMem : AOp → Bool
  | .ld .. | .call .. => true
  | _ => false
def meetsMem (a : AOp) : Bool := turnsMem a || readsMem a || (siteOf a).isSome

def opdT : Opd → List Nat
  | .t n => [n]
  | .c _ => []
def optT : Option Opd → List Nat
  | some x => opdT x
  | none => []
/-- the slots that an operation reads -/
def usesA : AOp → List Nat
  | .mov x => opdT x
  | .vrow _ _ => []
  | .pick c a b => opdT c ++ opdT a ++ opdT b
  | .bin _ x y => opdT x ++ opdT y
  | .beq _ x y => opdT x ++ opdT y
  | .un _ x => opdT x
  | .conv _ x => opdT x
  | .box _ x => opdT x
  | .alloc _ _ => []
  | .build _ ps => ps.flatMap (fun p => opdT p.2.2)
  | .bslice _ _ ps => ps.flatMap opdT
  | .fadr x _ => opdT x
  | .fld x _ _ _ => opdT x
  | .iadr _ _ x i => opdT x ++ opdT i
  | .idx _ _ _ x i => opdT x ++ opdT i
  | .ld _ _ x => opdT x
  | .st _ x v => opdT x ++ opdT v
  | .mk _ _ _ _ l c => opdT l ++ opdT c
  | .slc _ x lo hi => opdT x ++ optT lo ++ optT hi
  | .ext x _ => opdT x
  | .len x => opdT x
  | .mm _ xs => xs.flatMap opdT
  | .app _ _ _ x y => opdT x ++ opdT y
  | .cpy _ x y => opdT x ++ opdT y
  | .call _ xs => xs.flatMap opdT
  | .calli _ xs => xs.flatMap opdT
def looksA (x : AI) : List Nat := usesA x.op ++ (match x.guard with | some (g, _) => [g] | none => []) ++ x.dst.toList

def ordB (b : Array Nat) (i j : Nat) : Bool := (b.getD (max i j) 0).testBit (min i j)

/-- two operations of a region that draws, x at i and y at j -/
def pairOk (b : Array Nat) (x : AI) (i : Nat) (y : AI) (j : Nat) : Bool :=
  i == j || ordB b i j ||
    ((match y.dst with | some t => !(looksA x).contains t | none => true) &&
     (!turnsMem x.op || !meetsMem y.op) &&
     (!readsMem x.op || (match siteOf y.op with | some s => x.ban.contains s | none => true)) )

/-- each slot's readers and writers are ordered; so is each operation that turns memory against each other one that meets it, and each that reads it against each that makes some, but for sites that it does not look at; sites are met once; the orders' marks point backwards, or the other order that the compiler may take is whole -/
def drawOk (ops : Array Oper) (l : List AI) : Bool :=
  let b := Region.before ops
  (l.zipIdx.all fun (x, i) => l.zipIdx.all fun (y, j) => pairOk b x i y j && (i == j || (match siteOf x.op, siteOf y.op with | some s, some s' => s != s' | _, _ => true))) &&
  (ops.toList.zipIdx.all fun (o, i) => o.after.all fun e => decide (e.on < i) || (match e.ground with | .gcOnly _ => true | _ => false)) &&
  (!Region.departs ops || (List.range ops.size).all (fun i => (Region.linearise .gc ops 0).contains i))

def okCode (num : Nat → Nat) (N : Nat) : Code → ACode → Bool
  | c, .dr a _ _ => okCode num N c a
  | c', .skip => match c' with | .skip => true | .label _ => true | _ => false
  | c', .scope a => match c' with | .scope c => okCode num N c a | _ => false
  | c', .ops l draw' => match c' with | .region _ ops draw => draw == draw' && okL P num N ops ops.toList l && (!draw || drawOk ops l) | _ => false
  | c', .seq a' b' => match c' with | .seq a b => okCode num N a a' && okCode num N b b' | _ => false
  | c', .cond x' a' b' => match c' with | .cond x a b => eqOpd x x' && okCode num N a a' && okCode num N b b' | _ => false
  | c', .block i' a => match c' with | .block i c => i == i' && okCode num N c a | _ => false
  | c', .loop a => match c' with | .loop c => okCode num N c a | _ => false
  | c', .exit i' => match c' with | .exit i => i == i' | _ => false
  | c', .ret => match c' with | .ret => true | _ => false

def okRes : List ResultVar → List ARes → Bool
  | [], [] => true
  | .tmp t :: r, .tmp t' :: l => t == t' && okRes r l
  | .cell a t :: r, .cell a' agg n :: l => a == a' && aggOf P t == some agg && (if agg then sizeIs P t n else n == 1) && okRes r l
  | _, _ => false

def okFn (num : Nat → Nat) (fn : Func) (a : AFn) : Bool :=
  fn.params.size + fn.nfree == a.pars && decide (a.pars ≤ fn.ntmps) && okRes P fn.results.toList a.res && (match fn.body with | some c => okCode P num fn.ntmps c a.body | none => false)
end
end Go.Eng
