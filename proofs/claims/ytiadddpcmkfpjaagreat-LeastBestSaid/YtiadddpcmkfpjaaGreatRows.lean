/-
  No cell of these rows narrows 'for every input' (looked for: loops, veiled, ifaces, maps, wideKeys, modest, calm, conditions, laid).
  DERIVED. THE GIVEN ROWS OF THIS SEAT. 3 by the template 'for every input the law returns true; each argument reads behind the call as it read before'; 0 by the template 'total and deterministic' (their statements: YtiadddpcmkfpjaaGreatTotals.lean).
  GIVEN WITH THE SEED: the statements are not yours to turn. If you find one false, say at which input.
  Laid BY PROGRAM, IN A SANDBOX (cutbox-rows.mjs): the forced cells as the released guide's own fill.sh prints them over the translation 3332dcff04fd5154… (all of the seat's roots in one cut). By AI agents, Wed Nov 11 2026. No macro, syntax, notation, axiom, sorry.
-/
import Derived.Test.YtiadddpcmkfpjaaGreatChecked
import GoSem.Claim
import GoSem.ClaimJoined
import GoSem.ClaimMapViews
import Derived.JoinedTies
import Derived.KernelRfl
namespace Go.Proofs.YtiadddpcmkfpjaaGreat
/- THE CELL 'sum', in the pinned program and in every row, IS THE sha256 OF THE DUMP (.gsa) THAT YtiadddpcmkfpjaaGreatProg.lean LOADS. Nothing in Lean hashes anything: it is a label: what it is worth is what the hold of that sum in a sandbox is worth. -/
noncomputable def Tryz.pinned : Pinned := { name := "ytiadddpcmkfpjaagreat", sum := "3332dcff04fd515495e2923716a784352feed1e1b5fbddd95345e37aac79acee", checked := Tryz.checked }
namespace Rows
def none {H : Type} : Left H := { results := [], args := [] }

/-- 'dspcompilerlaw14.LeastNormal': WHATEVER THE INPUT: true; the input reads as it did. -/
def leastNormalSpec : ChangeSpec := { name := "leastNormal", fn := fun _ => fun
  | [d1, d2, d3] => { results := [.lit (.bool true)], args := [d1, d2, d3] }
  | _ => none }
def leastNormalRow : OpenClaim := { program := "ytiadddpcmkfpjaagreat", sum := "3332dcff04fd515495e2923716a784352feed1e1b5fbddd95345e37aac79acee", func := "dspcompiler/dspcompilerlaw14.LeastNormal", spec := "leastNormal", unfollowed := true, recurses := true, apart := false }
def LeastNormalSaid : Prop := leastNormalRow.holds Tryz.pinned (OpenSpec.ofChange leastNormalSpec)

/-- ITS FALSE NEIGHBOUR: 'it returns false'. Refute it at one input. -/
def leastNormalWrong : ChangeSpec := { name := "leastNormal", fn := fun _ => fun
  | [d1, d2, d3] => { results := [.lit (.bool false)], args := [d1, d2, d3] }
  | _ => none }
def LeastNormalWrongFalsely : Prop := leastNormalRow.holds Tryz.pinned (OpenSpec.ofChange leastNormalWrong)

/-- 'dspcompilerlaw14.LeastBest': WHATEVER THE INPUT: true; the input reads as it did. -/
def leastBestSpec : ChangeSpec := { name := "leastBest", fn := fun _ => fun
  | [d1, d2, d3] => { results := [.lit (.bool true)], args := [d1, d2, d3] }
  | _ => none }
def leastBestRow : OpenClaim := { program := "ytiadddpcmkfpjaagreat", sum := "3332dcff04fd515495e2923716a784352feed1e1b5fbddd95345e37aac79acee", func := "dspcompiler/dspcompilerlaw14.LeastBest", spec := "leastBest", unfollowed := true, recurses := true, apart := false }
def LeastBestSaid : Prop := leastBestRow.holds Tryz.pinned (OpenSpec.ofChange leastBestSpec)

/-- ITS FALSE NEIGHBOUR: 'it returns false'. Refute it at one input. -/
def leastBestWrong : ChangeSpec := { name := "leastBest", fn := fun _ => fun
  | [d1, d2, d3] => { results := [.lit (.bool false)], args := [d1, d2, d3] }
  | _ => none }
def LeastBestWrongFalsely : Prop := leastBestRow.holds Tryz.pinned (OpenSpec.ofChange leastBestWrong)

/-- 'dspcompilerlaw14.LeastExact': WHATEVER THE INPUT: true; the input reads as it did. -/
def leastExactSpec : ChangeSpec := { name := "leastExact", fn := fun _ => fun
  | [d1, d2] => { results := [.lit (.bool true)], args := [d1, d2] }
  | _ => none }
def leastExactRow : OpenClaim := { program := "ytiadddpcmkfpjaagreat", sum := "3332dcff04fd515495e2923716a784352feed1e1b5fbddd95345e37aac79acee", func := "dspcompiler/dspcompilerlaw14.LeastExact", spec := "leastExact", unfollowed := true, recurses := true, apart := false }
def LeastExactSaid : Prop := leastExactRow.holds Tryz.pinned (OpenSpec.ofChange leastExactSpec)

/-- ITS FALSE NEIGHBOUR: 'it returns false'. Refute it at one input. -/
def leastExactWrong : ChangeSpec := { name := "leastExact", fn := fun _ => fun
  | [d1, d2] => { results := [.lit (.bool false)], args := [d1, d2] }
  | _ => none }
def LeastExactWrongFalsely : Prop := leastExactRow.holds Tryz.pinned (OpenSpec.ofChange leastExactWrong)

/- THE SECOND FORM. 'bulk': how many values and letters a reading holds, each counted each time it is reached (what is shared counts as often as it is met; a slice's spare places count too). A statement '..UptoSaid' is the law's where the arguments, and the package variables that the reading takes, are together of bulk at most 1048576: NARROWER than '..Said'. Prove '..Said' where nothing that the law and all that it calls make is longer than what came in: it says more and counts as full. Else prove '..UptoSaid'. A law counts once. -/
mutual
def uptoBulk {H : Type} : DataW H → Nat
  | .lit (.string bytes) => bytes.length + 1
  | .lit _ => 1
  | .nil => 1
  | .ptr d => uptoBulk d + 1
  | .slice elems spare => uptoBulkAll elems + uptoBulkAll spare + 1
  | .agg parts => uptoBulkAll parts + 1
  | .iface _ d => uptoBulk d + 1
  | .map entries => uptoBulkEntries entries + 1
  | .held _ => 1
def uptoBulkAll {H : Type} : List (DataW H) → Nat
  | [] => 0
  | d :: r => uptoBulk d + uptoBulkAll r
def uptoBulkEntries {H : Type} : List (Lit × DataW H) → Nat
  | [] => 0
  | x :: r => uptoBulkEntry x + uptoBulkEntries r
def uptoBulkEntry {H : Type} : Lit × DataW H → Nat
  | (.string bytes, d) => bytes.length + uptoBulk d + 1
  | (_, d) => uptoBulk d + 1
 end
def uptoSmall : (H : Type) → List (DataW H) → Bool := fun _ ds => decide (uptoBulkAll ds ≤ 1048576)
def OpenSpec.upto (s : _root_.Go.ChangeSpec) : _root_.Go.OpenSpec := { _root_.Go.OpenSpec.ofChange s with cond := some uptoSmall }

/-- 'dspcompilerlaw14.LeastNormal', WHERE WHAT IT READS IS OF BULK AT MOST 1048576: true; the input reads as it did. -/
def leastNormalUptoRow : OpenClaim := { program := "ytiadddpcmkfpjaagreat", sum := "3332dcff04fd515495e2923716a784352feed1e1b5fbddd95345e37aac79acee", func := "dspcompiler/dspcompilerlaw14.LeastNormal", spec := "leastNormal", unfollowed := true, recurses := true, apart := false, narrowed := true }
def LeastNormalUptoSaid : Prop := leastNormalUptoRow.holds Tryz.pinned (OpenSpec.upto leastNormalSpec)

/-- 'dspcompilerlaw14.LeastBest', WHERE WHAT IT READS IS OF BULK AT MOST 1048576: true; the input reads as it did. -/
def leastBestUptoRow : OpenClaim := { program := "ytiadddpcmkfpjaagreat", sum := "3332dcff04fd515495e2923716a784352feed1e1b5fbddd95345e37aac79acee", func := "dspcompiler/dspcompilerlaw14.LeastBest", spec := "leastBest", unfollowed := true, recurses := true, apart := false, narrowed := true }
def LeastBestUptoSaid : Prop := leastBestUptoRow.holds Tryz.pinned (OpenSpec.upto leastBestSpec)

/-- 'dspcompilerlaw14.LeastExact', WHERE WHAT IT READS IS OF BULK AT MOST 1048576: true; the input reads as it did. -/
def leastExactUptoRow : OpenClaim := { program := "ytiadddpcmkfpjaagreat", sum := "3332dcff04fd515495e2923716a784352feed1e1b5fbddd95345e37aac79acee", func := "dspcompiler/dspcompilerlaw14.LeastExact", spec := "leastExact", unfollowed := true, recurses := true, apart := false, narrowed := true }
def LeastExactUptoSaid : Prop := leastExactUptoRow.holds Tryz.pinned (OpenSpec.upto leastExactSpec)

end Rows
end Go.Proofs.YtiadddpcmkfpjaaGreat
