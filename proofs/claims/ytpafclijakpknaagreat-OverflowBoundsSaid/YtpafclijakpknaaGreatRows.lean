/-
  No cell of these rows narrows 'for every input' (looked for: loops, veiled, ifaces, maps, wideKeys, modest, calm, conditions, laid).
  DERIVED. THE GIVEN ROWS OF THIS SEAT. 2 by the template 'for every input the law returns true; each argument reads behind the call as it read before'; 0 by the template 'total and deterministic' (their statements: YtpafclijakpknaaGreatTotals.lean).
  GIVEN WITH THE SEED: the statements are not yours to turn. If you find one false, say at which input.
  Laid BY PROGRAM, IN A SANDBOX (cutbox-rows.mjs): the forced cells as the released guide's own fill.sh prints them over the translation 09fc05ed58100969… (all of the seat's roots in one cut). By AI agents, Wed Nov 11 2026. No macro, syntax, notation, axiom, sorry.
-/
import Derived.Test.YtpafclijakpknaaGreatChecked
import GoSem.Claim
import GoSem.ClaimJoined
import GoSem.ClaimMapViews
import Derived.JoinedTies
import Derived.KernelRfl
namespace Go.Proofs.YtpafclijakpknaaGreat
/- THE CELL 'sum', in the pinned program and in every row, IS THE sha256 OF THE DUMP (.gsa) THAT YtpafclijakpknaaGreatProg.lean LOADS. Nothing in Lean hashes anything: it is a label: what it is worth is what the hold of that sum in a sandbox is worth. -/
noncomputable def Tryz.pinned : Pinned := { name := "ytpafclijakpknaagreat", sum := "09fc05ed581009693c0912e301c9709dab2efc3af2d0fd34fe3bd327cc787ac5", checked := Tryz.checked }
namespace Rows
def none {H : Type} : Left H := { results := [], args := [] }

/-- 'dspcompilerlaw29.OverflowBounds': WHATEVER THE INPUT: true; the input reads as it did. -/
def overflowBoundsSpec : ChangeSpec := { name := "overflowBounds", fn := fun _ => fun
  | [d1, d2, d3, d4] => { results := [.lit (.bool true)], args := [d1, d2, d3, d4] }
  | _ => none }
def overflowBoundsRow : OpenClaim := { program := "ytpafclijakpknaagreat", sum := "09fc05ed581009693c0912e301c9709dab2efc3af2d0fd34fe3bd327cc787ac5", func := "dspcompiler/dspcompilerlaw29.OverflowBounds", spec := "overflowBounds", unfollowed := true, recurses := true, apart := false }
def OverflowBoundsSaid : Prop := overflowBoundsRow.holds Tryz.pinned (OpenSpec.ofChange overflowBoundsSpec)

/-- ITS FALSE NEIGHBOUR: 'it returns false'. Refute it at one input. -/
def overflowBoundsWrong : ChangeSpec := { name := "overflowBounds", fn := fun _ => fun
  | [d1, d2, d3, d4] => { results := [.lit (.bool false)], args := [d1, d2, d3, d4] }
  | _ => none }
def OverflowBoundsWrongFalsely : Prop := overflowBoundsRow.holds Tryz.pinned (OpenSpec.ofChange overflowBoundsWrong)

/-- 'dspcompilerlaw29.OverflowAtWorst': WHATEVER THE INPUT: true; the input reads as it did. -/
def overflowAtWorstSpec : ChangeSpec := { name := "overflowAtWorst", fn := fun _ => fun
  | [d1, d2, d3] => { results := [.lit (.bool true)], args := [d1, d2, d3] }
  | _ => none }
def overflowAtWorstRow : OpenClaim := { program := "ytpafclijakpknaagreat", sum := "09fc05ed581009693c0912e301c9709dab2efc3af2d0fd34fe3bd327cc787ac5", func := "dspcompiler/dspcompilerlaw29.OverflowAtWorst", spec := "overflowAtWorst", unfollowed := true, recurses := true, apart := false }
def OverflowAtWorstSaid : Prop := overflowAtWorstRow.holds Tryz.pinned (OpenSpec.ofChange overflowAtWorstSpec)

/-- ITS FALSE NEIGHBOUR: 'it returns false'. Refute it at one input. -/
def overflowAtWorstWrong : ChangeSpec := { name := "overflowAtWorst", fn := fun _ => fun
  | [d1, d2, d3] => { results := [.lit (.bool false)], args := [d1, d2, d3] }
  | _ => none }
def OverflowAtWorstWrongFalsely : Prop := overflowAtWorstRow.holds Tryz.pinned (OpenSpec.ofChange overflowAtWorstWrong)

/- THE SECOND FORM. 'bulk': how many values and letters a reading holds, each counted each time it is reached (what is shared counts as often as it is met; a slice's spare places count too). A statement '..UptoSaid' is the law's where the arguments, and the package variables that the reading takes, are together of bulk at most 1048576: NARROWER than '..Said'. Prove '..Said' where nothing that the law and all that it calls make is longer than what came in: it says more and counts as full. Else prove '..UptoSaid'. A law counts once. -/
mutual
def uptoBulk {H : Type} : DataW H → Nat
  | .lit (.string bytes) => bytes.length + 1
  | .lit _ => 1
  | .nil => 1
  | .ptr d => uptoBulk d + 1
  | .slice elems spare => uptoBulkAll elems + uptoBulkAll spare + 1
  | .agg parts => uptoBulkAll parts + 1
  | .iface _ d => uptoBulk d + 1
  | .map entries => uptoBulkEntries entries + 1
  | .held _ => 1
def uptoBulkAll {H : Type} : List (DataW H) → Nat
  | [] => 0
  | d :: r => uptoBulk d + uptoBulkAll r
def uptoBulkEntries {H : Type} : List (Lit × DataW H) → Nat
  | [] => 0
  | x :: r => uptoBulkEntry x + uptoBulkEntries r
def uptoBulkEntry {H : Type} : Lit × DataW H → Nat
  | (.string bytes, d) => bytes.length + uptoBulk d + 1
  | (_, d) => uptoBulk d + 1
 end
def uptoSmall : (H : Type) → List (DataW H) → Bool := fun _ ds => decide (uptoBulkAll ds ≤ 1048576)
def OpenSpec.upto (s : _root_.Go.ChangeSpec) : _root_.Go.OpenSpec := { _root_.Go.OpenSpec.ofChange s with cond := some uptoSmall }

/-- 'dspcompilerlaw29.OverflowBounds', WHERE WHAT IT READS IS OF BULK AT MOST 1048576: true; the input reads as it did. -/
def overflowBoundsUptoRow : OpenClaim := { program := "ytpafclijakpknaagreat", sum := "09fc05ed581009693c0912e301c9709dab2efc3af2d0fd34fe3bd327cc787ac5", func := "dspcompiler/dspcompilerlaw29.OverflowBounds", spec := "overflowBounds", unfollowed := true, recurses := true, apart := false, narrowed := true }
def OverflowBoundsUptoSaid : Prop := overflowBoundsUptoRow.holds Tryz.pinned (OpenSpec.upto overflowBoundsSpec)

/-- 'dspcompilerlaw29.OverflowAtWorst', WHERE WHAT IT READS IS OF BULK AT MOST 1048576: true; the input reads as it did. -/
def overflowAtWorstUptoRow : OpenClaim := { program := "ytpafclijakpknaagreat", sum := "09fc05ed581009693c0912e301c9709dab2efc3af2d0fd34fe3bd327cc787ac5", func := "dspcompiler/dspcompilerlaw29.OverflowAtWorst", spec := "overflowAtWorst", unfollowed := true, recurses := true, apart := false, narrowed := true }
def OverflowAtWorstUptoSaid : Prop := overflowAtWorstUptoRow.holds Tryz.pinned (OpenSpec.upto overflowAtWorstSpec)

end Rows
end Go.Proofs.YtpafclijakpknaaGreat
