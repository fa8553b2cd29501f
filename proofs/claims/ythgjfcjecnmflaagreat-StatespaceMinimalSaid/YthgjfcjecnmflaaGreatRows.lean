/-
  No cell of these rows narrows 'for every input' (looked for: loops, veiled, ifaces, maps, wideKeys, modest, calm, conditions, laid).
  DERIVED. THE GIVEN ROWS OF THIS SEAT. 3 by the template 'for every input the law returns true; each argument reads behind the call as it read before'; 0 by the template 'total and deterministic' (their statements: YthgjfcjecnmflaaGreatTotals.lean).
  GIVEN WITH THE SEED: the statements are not yours to turn. If you find one false, say at which input.
  Laid BY PROGRAM, IN A SANDBOX (cutbox-rows.mjs): the forced cells as the released guide's own fill.sh prints them over the translation cec8a0e5c0f29c9c… (all of the seat's roots in one cut). By AI agents, Wed Nov 11 2026. No macro, syntax, notation, axiom, sorry.
-/
import Derived.Test.YthgjfcjecnmflaaGreatChecked
import GoSem.Claim
import GoSem.ClaimJoined
import GoSem.ClaimMapViews
import Derived.JoinedTies
import Derived.KernelRfl
namespace Go.Proofs.YthgjfcjecnmflaaGreat
/- THE CELL 'sum', in the pinned program and in every row, IS THE sha256 OF THE DUMP (.gsa) THAT YthgjfcjecnmflaaGreatProg.lean LOADS. Nothing in Lean hashes anything: it is a label: what it is worth is what the hold of that sum in a sandbox is worth. -/
noncomputable def Tryz.pinned : Pinned := { name := "ythgjfcjecnmflaagreat", sum := "cec8a0e5c0f29c9cd2756ca53d75f91be6ad750252d9e17bec8ca85ec5f557a9", checked := Tryz.checked }
namespace Rows
def none {H : Type} : Left H := { results := [], args := [] }

/-- 'dspcompilerlaw27.StatespaceMinimal': WHATEVER THE INPUT: true; the input reads as it did. -/
def statespaceMinimalSpec : ChangeSpec := { name := "statespaceMinimal", fn := fun _ => fun
  | [d1, d2, d3] => { results := [.lit (.bool true)], args := [d1, d2, d3] }
  | _ => none }
def statespaceMinimalRow : OpenClaim := { program := "ythgjfcjecnmflaagreat", sum := "cec8a0e5c0f29c9cd2756ca53d75f91be6ad750252d9e17bec8ca85ec5f557a9", func := "dspcompiler/dspcompilerlaw27.StatespaceMinimal", spec := "statespaceMinimal", unfollowed := true, recurses := true, apart := false }
def StatespaceMinimalSaid : Prop := statespaceMinimalRow.holds Tryz.pinned (OpenSpec.ofChange statespaceMinimalSpec)

/-- ITS FALSE NEIGHBOUR: 'it returns false'. Refute it at one input. -/
def statespaceMinimalWrong : ChangeSpec := { name := "statespaceMinimal", fn := fun _ => fun
  | [d1, d2, d3] => { results := [.lit (.bool false)], args := [d1, d2, d3] }
  | _ => none }
def StatespaceMinimalWrongFalsely : Prop := statespaceMinimalRow.holds Tryz.pinned (OpenSpec.ofChange statespaceMinimalWrong)

/-- 'dspcompilerlaw27.StatespaceBuilds': WHATEVER THE INPUT: true; the input reads as it did. -/
def statespaceBuildsSpec : ChangeSpec := { name := "statespaceBuilds", fn := fun _ => fun
  | [d1, d2, d3, d4, d5] => { results := [.lit (.bool true)], args := [d1, d2, d3, d4, d5] }
  | _ => none }
def statespaceBuildsRow : OpenClaim := { program := "ythgjfcjecnmflaagreat", sum := "cec8a0e5c0f29c9cd2756ca53d75f91be6ad750252d9e17bec8ca85ec5f557a9", func := "dspcompiler/dspcompilerlaw27.StatespaceBuilds", spec := "statespaceBuilds", unfollowed := true, recurses := true, apart := false }
def StatespaceBuildsSaid : Prop := statespaceBuildsRow.holds Tryz.pinned (OpenSpec.ofChange statespaceBuildsSpec)

/-- ITS FALSE NEIGHBOUR: 'it returns false'. Refute it at one input. -/
def statespaceBuildsWrong : ChangeSpec := { name := "statespaceBuilds", fn := fun _ => fun
  | [d1, d2, d3, d4, d5] => { results := [.lit (.bool false)], args := [d1, d2, d3, d4, d5] }
  | _ => none }
def StatespaceBuildsWrongFalsely : Prop := statespaceBuildsRow.holds Tryz.pinned (OpenSpec.ofChange statespaceBuildsWrong)

/-- 'dspcompilerlaw27.StatespaceConnects': WHATEVER THE INPUT: true; the input reads as it did. -/
def statespaceConnectsSpec : ChangeSpec := { name := "statespaceConnects", fn := fun _ => fun
  | [d1, d2, d3, d4] => { results := [.lit (.bool true)], args := [d1, d2, d3, d4] }
  | _ => none }
def statespaceConnectsRow : OpenClaim := { program := "ythgjfcjecnmflaagreat", sum := "cec8a0e5c0f29c9cd2756ca53d75f91be6ad750252d9e17bec8ca85ec5f557a9", func := "dspcompiler/dspcompilerlaw27.StatespaceConnects", spec := "statespaceConnects", unfollowed := true, recurses := true, apart := false }
def StatespaceConnectsSaid : Prop := statespaceConnectsRow.holds Tryz.pinned (OpenSpec.ofChange statespaceConnectsSpec)

/-- ITS FALSE NEIGHBOUR: 'it returns false'. Refute it at one input. -/
def statespaceConnectsWrong : ChangeSpec := { name := "statespaceConnects", fn := fun _ => fun
  | [d1, d2, d3, d4] => { results := [.lit (.bool false)], args := [d1, d2, d3, d4] }
  | _ => none }
def StatespaceConnectsWrongFalsely : Prop := statespaceConnectsRow.holds Tryz.pinned (OpenSpec.ofChange statespaceConnectsWrong)

/- THE SECOND FORM. 'bulk': how many values and letters a reading holds, each counted each time it is reached (what is shared counts as often as it is met; a slice's spare places count too). A statement '..UptoSaid' is the law's where the arguments, and the package variables that the reading takes, are together of bulk at most 1048576: NARROWER than '..Said'. Prove '..Said' where nothing that the law and all that it calls make is longer than what came in: it says more and counts as full. Else prove '..UptoSaid'. A law counts once. -/
mutual
def uptoBulk {H : Type} : DataW H → Nat
  | .lit (.string bytes) => bytes.length + 1
  | .lit _ => 1
  | .nil => 1
  | .ptr d => uptoBulk d + 1
  | .slice elems spare => uptoBulkAll elems + uptoBulkAll spare + 1
  | .agg parts => uptoBulkAll parts + 1
  | .iface _ d => uptoBulk d + 1
  | .map entries => uptoBulkEntries entries + 1
  | .held _ => 1
def uptoBulkAll {H : Type} : List (DataW H) → Nat
  | [] => 0
  | d :: r => uptoBulk d + uptoBulkAll r
def uptoBulkEntries {H : Type} : List (Lit × DataW H) → Nat
  | [] => 0
  | x :: r => uptoBulkEntry x + uptoBulkEntries r
def uptoBulkEntry {H : Type} : Lit × DataW H → Nat
  | (.string bytes, d) => bytes.length + uptoBulk d + 1
  | (_, d) => uptoBulk d + 1
 end
def uptoSmall : (H : Type) → List (DataW H) → Bool := fun _ ds => decide (uptoBulkAll ds ≤ 1048576)
def OpenSpec.upto (s : _root_.Go.ChangeSpec) : _root_.Go.OpenSpec := { _root_.Go.OpenSpec.ofChange s with cond := some uptoSmall }

/-- 'dspcompilerlaw27.StatespaceMinimal', WHERE WHAT IT READS IS OF BULK AT MOST 1048576: true; the input reads as it did. -/
def statespaceMinimalUptoRow : OpenClaim := { program := "ythgjfcjecnmflaagreat", sum := "cec8a0e5c0f29c9cd2756ca53d75f91be6ad750252d9e17bec8ca85ec5f557a9", func := "dspcompiler/dspcompilerlaw27.StatespaceMinimal", spec := "statespaceMinimal", unfollowed := true, recurses := true, apart := false, narrowed := true }
def StatespaceMinimalUptoSaid : Prop := statespaceMinimalUptoRow.holds Tryz.pinned (OpenSpec.upto statespaceMinimalSpec)

/-- 'dspcompilerlaw27.StatespaceBuilds', WHERE WHAT IT READS IS OF BULK AT MOST 1048576: true; the input reads as it did. -/
def statespaceBuildsUptoRow : OpenClaim := { program := "ythgjfcjecnmflaagreat", sum := "cec8a0e5c0f29c9cd2756ca53d75f91be6ad750252d9e17bec8ca85ec5f557a9", func := "dspcompiler/dspcompilerlaw27.StatespaceBuilds", spec := "statespaceBuilds", unfollowed := true, recurses := true, apart := false, narrowed := true }
def StatespaceBuildsUptoSaid : Prop := statespaceBuildsUptoRow.holds Tryz.pinned (OpenSpec.upto statespaceBuildsSpec)

/-- 'dspcompilerlaw27.StatespaceConnects', WHERE WHAT IT READS IS OF BULK AT MOST 1048576: true; the input reads as it did. -/
def statespaceConnectsUptoRow : OpenClaim := { program := "ythgjfcjecnmflaagreat", sum := "cec8a0e5c0f29c9cd2756ca53d75f91be6ad750252d9e17bec8ca85ec5f557a9", func := "dspcompiler/dspcompilerlaw27.StatespaceConnects", spec := "statespaceConnects", unfollowed := true, recurses := true, apart := false, narrowed := true }
def StatespaceConnectsUptoSaid : Prop := statespaceConnectsUptoRow.holds Tryz.pinned (OpenSpec.upto statespaceConnectsSpec)

end Rows
end Go.Proofs.YthgjfcjecnmflaaGreat
