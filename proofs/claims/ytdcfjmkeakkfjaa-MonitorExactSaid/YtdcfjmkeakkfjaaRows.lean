/-
  No cell of these rows narrows 'for every input' (looked for: loops, veiled, ifaces, maps, wideKeys, modest, calm, conditions, laid).
  DERIVED. THE GIVEN ROWS OF THIS SEAT. 5 by the template 'for every input the law returns true; each argument reads behind the call as it read before'; 0 by the template 'total and deterministic' (their statements: YtdcfjmkeakkfjaaTotals.lean).
  GIVEN WITH THE SEED: the statements are not yours to turn. If you find one false, say at which input.
  Laid BY PROGRAM, IN A SANDBOX (cutbox-rows.mjs): the forced cells as the released guide's own fill.sh prints them over the translation 103f46b1c0d32ac4… (all of the seat's roots in one cut). By AI agents, Wed Nov 11 2026. No macro, syntax, notation, axiom, sorry.
-/
import Derived.Test.YtdcfjmkeakkfjaaChecked
import GoSem.Claim
import GoSem.ClaimJoined
import GoSem.ClaimMapViews
import Derived.JoinedTies
import Derived.KernelRfl
namespace Go.Proofs.Ytdcfjmkeakkfjaa
/- THE CELL 'sum', in the pinned program and in every row, IS THE sha256 OF THE DUMP (.gsa) THAT YtdcfjmkeakkfjaaProg.lean LOADS. Nothing in Lean hashes anything: it is a label: what it is worth is what the hold of that sum in a sandbox is worth. -/
noncomputable def Try.pinned : Pinned := { name := "ytdcfjmkeakkfjaa", sum := "103f46b1c0d32ac4cd48bccc9f4f18c81877af126acac0e88a70cd0458d2431a", checked := Try.checked }
namespace Rows
def none {H : Type} : Left H := { results := [], args := [] }

/-- 'awardingbodylaw27.MonitorExact': WHATEVER THE INPUT: true; the input reads as it did. -/
def monitorExactSpec : ChangeSpec := { name := "monitorExact", fn := fun _ => fun
  | [d1, d2, d3, d4, d5, d6] => { results := [.lit (.bool true)], args := [d1, d2, d3, d4, d5, d6] }
  | _ => none }
def monitorExactRow : OpenClaim := { program := "ytdcfjmkeakkfjaa", sum := "103f46b1c0d32ac4cd48bccc9f4f18c81877af126acac0e88a70cd0458d2431a", func := "awardingbody/awardingbodylaw27.MonitorExact", spec := "monitorExact", apart := false }
def MonitorExactSaid : Prop := monitorExactRow.holds Try.pinned (OpenSpec.ofChange monitorExactSpec)

/-- ITS FALSE NEIGHBOUR: 'it returns false'. Refute it at one input. -/
def monitorExactWrong : ChangeSpec := { name := "monitorExact", fn := fun _ => fun
  | [d1, d2, d3, d4, d5, d6] => { results := [.lit (.bool false)], args := [d1, d2, d3, d4, d5, d6] }
  | _ => none }
def MonitorExactWrongFalsely : Prop := monitorExactRow.holds Try.pinned (OpenSpec.ofChange monitorExactWrong)

/-- 'awardingbodylaw27.MonitorBetter': WHATEVER THE INPUT: true; the input reads as it did. -/
def monitorBetterSpec : ChangeSpec := { name := "monitorBetter", fn := fun _ => fun
  | [d1, d2, d3] => { results := [.lit (.bool true)], args := [d1, d2, d3] }
  | _ => none }
def monitorBetterRow : OpenClaim := { program := "ytdcfjmkeakkfjaa", sum := "103f46b1c0d32ac4cd48bccc9f4f18c81877af126acac0e88a70cd0458d2431a", func := "awardingbody/awardingbodylaw27.MonitorBetter", spec := "monitorBetter", apart := false }
def MonitorBetterSaid : Prop := monitorBetterRow.holds Try.pinned (OpenSpec.ofChange monitorBetterSpec)

/-- ITS FALSE NEIGHBOUR: 'it returns false'. Refute it at one input. -/
def monitorBetterWrong : ChangeSpec := { name := "monitorBetter", fn := fun _ => fun
  | [d1, d2, d3] => { results := [.lit (.bool false)], args := [d1, d2, d3] }
  | _ => none }
def MonitorBetterWrongFalsely : Prop := monitorBetterRow.holds Try.pinned (OpenSpec.ofChange monitorBetterWrong)

/-- 'awardingbodylaw27.MonitorWindow': WHATEVER THE INPUT: true; the input reads as it did. -/
def monitorWindowSpec : ChangeSpec := { name := "monitorWindow", fn := fun _ => fun
  | [d1, d2] => { results := [.lit (.bool true)], args := [d1, d2] }
  | _ => none }
def monitorWindowRow : OpenClaim := { program := "ytdcfjmkeakkfjaa", sum := "103f46b1c0d32ac4cd48bccc9f4f18c81877af126acac0e88a70cd0458d2431a", func := "awardingbody/awardingbodylaw27.MonitorWindow", spec := "monitorWindow", apart := false }
def MonitorWindowSaid : Prop := monitorWindowRow.holds Try.pinned (OpenSpec.ofChange monitorWindowSpec)

/-- ITS FALSE NEIGHBOUR: 'it returns false'. Refute it at one input. -/
def monitorWindowWrong : ChangeSpec := { name := "monitorWindow", fn := fun _ => fun
  | [d1, d2] => { results := [.lit (.bool false)], args := [d1, d2] }
  | _ => none }
def MonitorWindowWrongFalsely : Prop := monitorWindowRow.holds Try.pinned (OpenSpec.ofChange monitorWindowWrong)

/-- 'awardingbodylaw27.MonitorTolerance': WHATEVER THE INPUT: true; the input reads as it did. -/
def monitorToleranceSpec : ChangeSpec := { name := "monitorTolerance", fn := fun _ => fun
  | [d1, d2, d3, d4] => { results := [.lit (.bool true)], args := [d1, d2, d3, d4] }
  | _ => none }
def monitorToleranceRow : OpenClaim := { program := "ytdcfjmkeakkfjaa", sum := "103f46b1c0d32ac4cd48bccc9f4f18c81877af126acac0e88a70cd0458d2431a", func := "awardingbody/awardingbodylaw27.MonitorTolerance", spec := "monitorTolerance", apart := false }
def MonitorToleranceSaid : Prop := monitorToleranceRow.holds Try.pinned (OpenSpec.ofChange monitorToleranceSpec)

/-- ITS FALSE NEIGHBOUR: 'it returns false'. Refute it at one input. -/
def monitorToleranceWrong : ChangeSpec := { name := "monitorTolerance", fn := fun _ => fun
  | [d1, d2, d3, d4] => { results := [.lit (.bool false)], args := [d1, d2, d3, d4] }
  | _ => none }
def MonitorToleranceWrongFalsely : Prop := monitorToleranceRow.holds Try.pinned (OpenSpec.ofChange monitorToleranceWrong)

/-- 'awardingbodylaw27.MonitorSteps': WHATEVER THE INPUT: true; the input reads as it did. -/
def monitorStepsSpec : ChangeSpec := { name := "monitorSteps", fn := fun _ => fun
  | [d1, d2] => { results := [.lit (.bool true)], args := [d1, d2] }
  | _ => none }
def monitorStepsRow : OpenClaim := { program := "ytdcfjmkeakkfjaa", sum := "103f46b1c0d32ac4cd48bccc9f4f18c81877af126acac0e88a70cd0458d2431a", func := "awardingbody/awardingbodylaw27.MonitorSteps", spec := "monitorSteps", apart := false }
def MonitorStepsSaid : Prop := monitorStepsRow.holds Try.pinned (OpenSpec.ofChange monitorStepsSpec)

/-- ITS FALSE NEIGHBOUR: 'it returns false'. Refute it at one input. -/
def monitorStepsWrong : ChangeSpec := { name := "monitorSteps", fn := fun _ => fun
  | [d1, d2] => { results := [.lit (.bool false)], args := [d1, d2] }
  | _ => none }
def MonitorStepsWrongFalsely : Prop := monitorStepsRow.holds Try.pinned (OpenSpec.ofChange monitorStepsWrong)

/- THE SECOND FORM. 'bulk': how many values and letters a reading holds, each counted each time it is reached (what is shared counts as often as it is met; a slice's spare places count too). A statement '..UptoSaid' is the law's where the arguments, and the package variables that the reading takes, are together of bulk at most 1048576: NARROWER than '..Said'. Prove '..Said' where nothing that the law and all that it calls make is longer than what came in: it says more and counts as full. Else prove '..UptoSaid'. A law counts once. -/
mutual
def uptoBulk {H : Type} : DataW H → Nat
  | .lit (.string bytes) => bytes.length + 1
  | .lit _ => 1
  | .nil => 1
  | .ptr d => uptoBulk d + 1
  | .slice elems spare => uptoBulkAll elems + uptoBulkAll spare + 1
  | .agg parts => uptoBulkAll parts + 1
  | .iface _ d => uptoBulk d + 1
  | .map entries => uptoBulkEntries entries + 1
  | .held _ => 1
def uptoBulkAll {H : Type} : List (DataW H) → Nat
  | [] => 0
  | d :: r => uptoBulk d + uptoBulkAll r
def uptoBulkEntries {H : Type} : List (Lit × DataW H) → Nat
  | [] => 0
  | x :: r => uptoBulkEntry x + uptoBulkEntries r
def uptoBulkEntry {H : Type} : Lit × DataW H → Nat
  | (.string bytes, d) => bytes.length + uptoBulk d + 1
  | (_, d) => uptoBulk d + 1
 end
def uptoSmall : (H : Type) → List (DataW H) → Bool := fun _ ds => decide (uptoBulkAll ds ≤ 1048576)
def OpenSpec.upto (s : _root_.Go.ChangeSpec) : _root_.Go.OpenSpec := { _root_.Go.OpenSpec.ofChange s with cond := some uptoSmall }

/-- 'awardingbodylaw27.MonitorExact', WHERE WHAT IT READS IS OF BULK AT MOST 1048576: true; the input reads as it did. -/
def monitorExactUptoRow : OpenClaim := { program := "ytdcfjmkeakkfjaa", sum := "103f46b1c0d32ac4cd48bccc9f4f18c81877af126acac0e88a70cd0458d2431a", func := "awardingbody/awardingbodylaw27.MonitorExact", spec := "monitorExact", apart := false, narrowed := true }
def MonitorExactUptoSaid : Prop := monitorExactUptoRow.holds Try.pinned (OpenSpec.upto monitorExactSpec)

/-- 'awardingbodylaw27.MonitorBetter', WHERE WHAT IT READS IS OF BULK AT MOST 1048576: true; the input reads as it did. -/
def monitorBetterUptoRow : OpenClaim := { program := "ytdcfjmkeakkfjaa", sum := "103f46b1c0d32ac4cd48bccc9f4f18c81877af126acac0e88a70cd0458d2431a", func := "awardingbody/awardingbodylaw27.MonitorBetter", spec := "monitorBetter", apart := false, narrowed := true }
def MonitorBetterUptoSaid : Prop := monitorBetterUptoRow.holds Try.pinned (OpenSpec.upto monitorBetterSpec)

/-- 'awardingbodylaw27.MonitorWindow', WHERE WHAT IT READS IS OF BULK AT MOST 1048576: true; the input reads as it did. -/
def monitorWindowUptoRow : OpenClaim := { program := "ytdcfjmkeakkfjaa", sum := "103f46b1c0d32ac4cd48bccc9f4f18c81877af126acac0e88a70cd0458d2431a", func := "awardingbody/awardingbodylaw27.MonitorWindow", spec := "monitorWindow", apart := false, narrowed := true }
def MonitorWindowUptoSaid : Prop := monitorWindowUptoRow.holds Try.pinned (OpenSpec.upto monitorWindowSpec)

/-- 'awardingbodylaw27.MonitorTolerance', WHERE WHAT IT READS IS OF BULK AT MOST 1048576: true; the input reads as it did. -/
def monitorToleranceUptoRow : OpenClaim := { program := "ytdcfjmkeakkfjaa", sum := "103f46b1c0d32ac4cd48bccc9f4f18c81877af126acac0e88a70cd0458d2431a", func := "awardingbody/awardingbodylaw27.MonitorTolerance", spec := "monitorTolerance", apart := false, narrowed := true }
def MonitorToleranceUptoSaid : Prop := monitorToleranceUptoRow.holds Try.pinned (OpenSpec.upto monitorToleranceSpec)

/-- 'awardingbodylaw27.MonitorSteps', WHERE WHAT IT READS IS OF BULK AT MOST 1048576: true; the input reads as it did. -/
def monitorStepsUptoRow : OpenClaim := { program := "ytdcfjmkeakkfjaa", sum := "103f46b1c0d32ac4cd48bccc9f4f18c81877af126acac0e88a70cd0458d2431a", func := "awardingbody/awardingbodylaw27.MonitorSteps", spec := "monitorSteps", apart := false, narrowed := true }
def MonitorStepsUptoSaid : Prop := monitorStepsUptoRow.holds Try.pinned (OpenSpec.upto monitorStepsSpec)

end Rows
end Go.Proofs.Ytdcfjmkeakkfjaa
