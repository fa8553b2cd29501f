/-
  No cell of these rows narrows 'for every input' (looked for: loops, veiled, ifaces, maps, wideKeys, modest, calm, conditions, laid).
  DERIVED. THE GIVEN ROWS OF THIS SEAT. 7 by the template 'for every input the law returns true; each argument reads behind the call as it read before'; 0 by the template 'total and deterministic' (their statements: YtajmlglkafhdhaaTotals.lean).
  GIVEN WITH THE SEED: the statements are not yours to turn. If you find one false, say at which input.
  Laid BY PROGRAM, IN A SANDBOX (cutbox-rows.mjs): the forced cells as the released guide's own fill.sh prints them over the translation f6eea7242d7b69af… (all of the seat's roots in one cut). By AI agents, Wed Nov 11 2026. No macro, syntax, notation, axiom, sorry.
-/
import Derived.Test.YtajmlglkafhdhaaChecked
import GoSem.Claim
import GoSem.ClaimJoined
import GoSem.ClaimMapViews
import Derived.JoinedTies
import Derived.KernelRfl
namespace Go.Proofs.Ytajmlglkafhdhaa
/- THE CELL 'sum', in the pinned program and in every row, IS THE sha256 OF THE DUMP (.gsa) THAT YtajmlglkafhdhaaProg.lean LOADS. Nothing in Lean hashes anything: it is a label: what it is worth is what the hold of that sum in a sandbox is worth. -/
noncomputable def Try.pinned : Pinned := { name := "ytajmlglkafhdhaa", sum := "f6eea7242d7b69aff187854dcca8136b364e99bd0a97e195485b407c35f8ba4b", checked := Try.checked }
namespace Rows
def none {H : Type} : Left H := { results := [], args := [] }

/-- 'dspcompilerlaw22.NetworkSteps': WHATEVER THE INPUT: true; the input reads as it did. -/
def networkStepsSpec : ChangeSpec := { name := "networkSteps", fn := fun _ => fun
  | [d1, d2, d3] => { results := [.lit (.bool true)], args := [d1, d2, d3] }
  | _ => none }
def networkStepsRow : OpenClaim := { program := "ytajmlglkafhdhaa", sum := "f6eea7242d7b69aff187854dcca8136b364e99bd0a97e195485b407c35f8ba4b", func := "dspcompiler/dspcompilerlaw22.NetworkSteps", spec := "networkSteps", apart := false }
def NetworkStepsSaid : Prop := networkStepsRow.holds Try.pinned (OpenSpec.ofChange networkStepsSpec)

/-- ITS FALSE NEIGHBOUR: 'it returns false'. Refute it at one input. -/
def networkStepsWrong : ChangeSpec := { name := "networkSteps", fn := fun _ => fun
  | [d1, d2, d3] => { results := [.lit (.bool false)], args := [d1, d2, d3] }
  | _ => none }
def NetworkStepsWrongFalsely : Prop := networkStepsRow.holds Try.pinned (OpenSpec.ofChange networkStepsWrong)

/-- 'dspcompilerlaw22.NetworkRuns': WHATEVER THE INPUT: true; the input reads as it did. -/
def networkRunsSpec : ChangeSpec := { name := "networkRuns", fn := fun _ => fun
  | [d1, d2, d3, d4] => { results := [.lit (.bool true)], args := [d1, d2, d3, d4] }
  | _ => none }
def networkRunsRow : OpenClaim := { program := "ytajmlglkafhdhaa", sum := "f6eea7242d7b69aff187854dcca8136b364e99bd0a97e195485b407c35f8ba4b", func := "dspcompiler/dspcompilerlaw22.NetworkRuns", spec := "networkRuns", apart := false }
def NetworkRunsSaid : Prop := networkRunsRow.holds Try.pinned (OpenSpec.ofChange networkRunsSpec)

/-- ITS FALSE NEIGHBOUR: 'it returns false'. Refute it at one input. -/
def networkRunsWrong : ChangeSpec := { name := "networkRuns", fn := fun _ => fun
  | [d1, d2, d3, d4] => { results := [.lit (.bool false)], args := [d1, d2, d3, d4] }
  | _ => none }
def NetworkRunsWrongFalsely : Prop := networkRunsRow.holds Try.pinned (OpenSpec.ofChange networkRunsWrong)

/-- 'dspcompilerlaw23.DirectRecurs': WHATEVER THE INPUT: true; the input reads as it did. -/
def directRecursSpec : ChangeSpec := { name := "directRecurs", fn := fun _ => fun
  | [d1, d2, d3, d4, d5] => { results := [.lit (.bool true)], args := [d1, d2, d3, d4, d5] }
  | _ => none }
def directRecursRow : OpenClaim := { program := "ytajmlglkafhdhaa", sum := "f6eea7242d7b69aff187854dcca8136b364e99bd0a97e195485b407c35f8ba4b", func := "dspcompiler/dspcompilerlaw23.DirectRecurs", spec := "directRecurs", apart := false }
def DirectRecursSaid : Prop := directRecursRow.holds Try.pinned (OpenSpec.ofChange directRecursSpec)

/-- ITS FALSE NEIGHBOUR: 'it returns false'. Refute it at one input. -/
def directRecursWrong : ChangeSpec := { name := "directRecurs", fn := fun _ => fun
  | [d1, d2, d3, d4, d5] => { results := [.lit (.bool false)], args := [d1, d2, d3, d4, d5] }
  | _ => none }
def DirectRecursWrongFalsely : Prop := directRecursRow.holds Try.pinned (OpenSpec.ofChange directRecursWrong)

/-- 'dspcompilerlaw23.DirectScales': WHATEVER THE INPUT: true; the input reads as it did. -/
def directScalesSpec : ChangeSpec := { name := "directScales", fn := fun _ => fun
  | [d1, d2, d3, d4] => { results := [.lit (.bool true)], args := [d1, d2, d3, d4] }
  | _ => none }
def directScalesRow : OpenClaim := { program := "ytajmlglkafhdhaa", sum := "f6eea7242d7b69aff187854dcca8136b364e99bd0a97e195485b407c35f8ba4b", func := "dspcompiler/dspcompilerlaw23.DirectScales", spec := "directScales", apart := false }
def DirectScalesSaid : Prop := directScalesRow.holds Try.pinned (OpenSpec.ofChange directScalesSpec)

/-- ITS FALSE NEIGHBOUR: 'it returns false'. Refute it at one input. -/
def directScalesWrong : ChangeSpec := { name := "directScales", fn := fun _ => fun
  | [d1, d2, d3, d4] => { results := [.lit (.bool false)], args := [d1, d2, d3, d4] }
  | _ => none }
def DirectScalesWrongFalsely : Prop := directScalesRow.holds Try.pinned (OpenSpec.ofChange directScalesWrong)

/-- 'dspcompilerlaw23.DirectFormsAgree': WHATEVER THE INPUT: true; the input reads as it did. -/
def directFormsAgreeSpec : ChangeSpec := { name := "directFormsAgree", fn := fun _ => fun
  | [d1, d2, d3, d4] => { results := [.lit (.bool true)], args := [d1, d2, d3, d4] }
  | _ => none }
def directFormsAgreeRow : OpenClaim := { program := "ytajmlglkafhdhaa", sum := "f6eea7242d7b69aff187854dcca8136b364e99bd0a97e195485b407c35f8ba4b", func := "dspcompiler/dspcompilerlaw23.DirectFormsAgree", spec := "directFormsAgree", apart := false }
def DirectFormsAgreeSaid : Prop := directFormsAgreeRow.holds Try.pinned (OpenSpec.ofChange directFormsAgreeSpec)

/-- ITS FALSE NEIGHBOUR: 'it returns false'. Refute it at one input. -/
def directFormsAgreeWrong : ChangeSpec := { name := "directFormsAgree", fn := fun _ => fun
  | [d1, d2, d3, d4] => { results := [.lit (.bool false)], args := [d1, d2, d3, d4] }
  | _ => none }
def DirectFormsAgreeWrongFalsely : Prop := directFormsAgreeRow.holds Try.pinned (OpenSpec.ofChange directFormsAgreeWrong)

/-- 'dspcompilerlaw22.NetworkResponds': WHATEVER THE INPUT: true; the input reads as it did. -/
def networkRespondsSpec : ChangeSpec := { name := "networkResponds", fn := fun _ => fun
  | [d1, d2, d3, d4, d5, d6] => { results := [.lit (.bool true)], args := [d1, d2, d3, d4, d5, d6] }
  | _ => none }
def networkRespondsRow : OpenClaim := { program := "ytajmlglkafhdhaa", sum := "f6eea7242d7b69aff187854dcca8136b364e99bd0a97e195485b407c35f8ba4b", func := "dspcompiler/dspcompilerlaw22.NetworkResponds", spec := "networkResponds", unfollowed := true, recurses := true, apart := false }
def NetworkRespondsSaid : Prop := networkRespondsRow.holds Try.pinned (OpenSpec.ofChange networkRespondsSpec)

/-- ITS FALSE NEIGHBOUR: 'it returns false'. Refute it at one input. -/
def networkRespondsWrong : ChangeSpec := { name := "networkResponds", fn := fun _ => fun
  | [d1, d2, d3, d4, d5, d6] => { results := [.lit (.bool false)], args := [d1, d2, d3, d4, d5, d6] }
  | _ => none }
def NetworkRespondsWrongFalsely : Prop := networkRespondsRow.holds Try.pinned (OpenSpec.ofChange networkRespondsWrong)

/-- 'dspcompilerlaw22.NetworkIsExact': WHATEVER THE INPUT: true; the input reads as it did. -/
def networkIsExactSpec : ChangeSpec := { name := "networkIsExact", fn := fun _ => fun
  | [d1, d2, d3] => { results := [.lit (.bool true)], args := [d1, d2, d3] }
  | _ => none }
def networkIsExactRow : OpenClaim := { program := "ytajmlglkafhdhaa", sum := "f6eea7242d7b69aff187854dcca8136b364e99bd0a97e195485b407c35f8ba4b", func := "dspcompiler/dspcompilerlaw22.NetworkIsExact", spec := "networkIsExact", unfollowed := true, recurses := true, apart := false }
def NetworkIsExactSaid : Prop := networkIsExactRow.holds Try.pinned (OpenSpec.ofChange networkIsExactSpec)

/-- ITS FALSE NEIGHBOUR: 'it returns false'. Refute it at one input. -/
def networkIsExactWrong : ChangeSpec := { name := "networkIsExact", fn := fun _ => fun
  | [d1, d2, d3] => { results := [.lit (.bool false)], args := [d1, d2, d3] }
  | _ => none }
def NetworkIsExactWrongFalsely : Prop := networkIsExactRow.holds Try.pinned (OpenSpec.ofChange networkIsExactWrong)

/- THE SECOND FORM. 'bulk': how many values and letters a reading holds, each counted each time it is reached (what is shared counts as often as it is met; a slice's spare places count too). A statement '..UptoSaid' is the law's where the arguments, and the package variables that the reading takes, are together of bulk at most 1048576: NARROWER than '..Said'. Prove '..Said' where nothing that the law and all that it calls make is longer than what came in: it says more and counts as full. Else prove '..UptoSaid'. A law counts once. -/
mutual
def uptoBulk {H : Type} : DataW H → Nat
  | .lit (.string bytes) => bytes.length + 1
  | .lit _ => 1
  | .nil => 1
  | .ptr d => uptoBulk d + 1
  | .slice elems spare => uptoBulkAll elems + uptoBulkAll spare + 1
  | .agg parts => uptoBulkAll parts + 1
  | .iface _ d => uptoBulk d + 1
  | .map entries => uptoBulkEntries entries + 1
  | .held _ => 1
def uptoBulkAll {H : Type} : List (DataW H) → Nat
  | [] => 0
  | d :: r => uptoBulk d + uptoBulkAll r
def uptoBulkEntries {H : Type} : List (Lit × DataW H) → Nat
  | [] => 0
  | x :: r => uptoBulkEntry x + uptoBulkEntries r
def uptoBulkEntry {H : Type} : Lit × DataW H → Nat
  | (.string bytes, d) => bytes.length + uptoBulk d + 1
  | (_, d) => uptoBulk d + 1
 end
def uptoSmall : (H : Type) → List (DataW H) → Bool := fun _ ds => decide (uptoBulkAll ds ≤ 1048576)
def OpenSpec.upto (s : _root_.Go.ChangeSpec) : _root_.Go.OpenSpec := { _root_.Go.OpenSpec.ofChange s with cond := some uptoSmall }

/-- 'dspcompilerlaw22.NetworkSteps', WHERE WHAT IT READS IS OF BULK AT MOST 1048576: true; the input reads as it did. -/
def networkStepsUptoRow : OpenClaim := { program := "ytajmlglkafhdhaa", sum := "f6eea7242d7b69aff187854dcca8136b364e99bd0a97e195485b407c35f8ba4b", func := "dspcompiler/dspcompilerlaw22.NetworkSteps", spec := "networkSteps", apart := false, narrowed := true }
def NetworkStepsUptoSaid : Prop := networkStepsUptoRow.holds Try.pinned (OpenSpec.upto networkStepsSpec)

/-- 'dspcompilerlaw22.NetworkRuns', WHERE WHAT IT READS IS OF BULK AT MOST 1048576: true; the input reads as it did. -/
def networkRunsUptoRow : OpenClaim := { program := "ytajmlglkafhdhaa", sum := "f6eea7242d7b69aff187854dcca8136b364e99bd0a97e195485b407c35f8ba4b", func := "dspcompiler/dspcompilerlaw22.NetworkRuns", spec := "networkRuns", apart := false, narrowed := true }
def NetworkRunsUptoSaid : Prop := networkRunsUptoRow.holds Try.pinned (OpenSpec.upto networkRunsSpec)

/-- 'dspcompilerlaw23.DirectRecurs', WHERE WHAT IT READS IS OF BULK AT MOST 1048576: true; the input reads as it did. -/
def directRecursUptoRow : OpenClaim := { program := "ytajmlglkafhdhaa", sum := "f6eea7242d7b69aff187854dcca8136b364e99bd0a97e195485b407c35f8ba4b", func := "dspcompiler/dspcompilerlaw23.DirectRecurs", spec := "directRecurs", apart := false, narrowed := true }
def DirectRecursUptoSaid : Prop := directRecursUptoRow.holds Try.pinned (OpenSpec.upto directRecursSpec)

/-- 'dspcompilerlaw23.DirectScales', WHERE WHAT IT READS IS OF BULK AT MOST 1048576: true; the input reads as it did. -/
def directScalesUptoRow : OpenClaim := { program := "ytajmlglkafhdhaa", sum := "f6eea7242d7b69aff187854dcca8136b364e99bd0a97e195485b407c35f8ba4b", func := "dspcompiler/dspcompilerlaw23.DirectScales", spec := "directScales", apart := false, narrowed := true }
def DirectScalesUptoSaid : Prop := directScalesUptoRow.holds Try.pinned (OpenSpec.upto directScalesSpec)

/-- 'dspcompilerlaw23.DirectFormsAgree', WHERE WHAT IT READS IS OF BULK AT MOST 1048576: true; the input reads as it did. -/
def directFormsAgreeUptoRow : OpenClaim := { program := "ytajmlglkafhdhaa", sum := "f6eea7242d7b69aff187854dcca8136b364e99bd0a97e195485b407c35f8ba4b", func := "dspcompiler/dspcompilerlaw23.DirectFormsAgree", spec := "directFormsAgree", apart := false, narrowed := true }
def DirectFormsAgreeUptoSaid : Prop := directFormsAgreeUptoRow.holds Try.pinned (OpenSpec.upto directFormsAgreeSpec)

/-- 'dspcompilerlaw22.NetworkResponds', WHERE WHAT IT READS IS OF BULK AT MOST 1048576: true; the input reads as it did. -/
def networkRespondsUptoRow : OpenClaim := { program := "ytajmlglkafhdhaa", sum := "f6eea7242d7b69aff187854dcca8136b364e99bd0a97e195485b407c35f8ba4b", func := "dspcompiler/dspcompilerlaw22.NetworkResponds", spec := "networkResponds", unfollowed := true, recurses := true, apart := false, narrowed := true }
def NetworkRespondsUptoSaid : Prop := networkRespondsUptoRow.holds Try.pinned (OpenSpec.upto networkRespondsSpec)

/-- 'dspcompilerlaw22.NetworkIsExact', WHERE WHAT IT READS IS OF BULK AT MOST 1048576: true; the input reads as it did. -/
def networkIsExactUptoRow : OpenClaim := { program := "ytajmlglkafhdhaa", sum := "f6eea7242d7b69aff187854dcca8136b364e99bd0a97e195485b407c35f8ba4b", func := "dspcompiler/dspcompilerlaw22.NetworkIsExact", spec := "networkIsExact", unfollowed := true, recurses := true, apart := false, narrowed := true }
def NetworkIsExactUptoSaid : Prop := networkIsExactUptoRow.holds Try.pinned (OpenSpec.upto networkIsExactSpec)

end Rows
end Go.Proofs.Ytajmlglkafhdhaa
