/-
  No cell of these rows narrows 'for every input' (looked for: loops, veiled, ifaces, maps, wideKeys, modest, calm, conditions, laid).
  DERIVED. THE GIVEN ROWS OF THIS SEAT. 7 by the template 'for every input the law returns true; each argument reads behind the call as it read before'; 0 by the template 'total and deterministic' (their statements: YtffamkodckghgaaTotals.lean).
  GIVEN WITH THE SEED: the statements are not yours to turn. If you find one false, say at which input.
  Laid BY PROGRAM, IN A SANDBOX (cutbox-rows.mjs): the forced cells as the released guide's own fill.sh prints them over the translation 5507afef9feb4ea7… (all of the seat's roots in one cut). By AI agents, Wed Nov 11 2026. No macro, syntax, notation, axiom, sorry.
-/
import Derived.Test.YtffamkodckghgaaChecked
import GoSem.Claim
import GoSem.ClaimJoined
import GoSem.ClaimMapViews
import Derived.JoinedTies
import Derived.KernelRfl
namespace Go.Proofs.Ytffamkodckghgaa
/- THE CELL 'sum', in the pinned program and in every row, IS THE sha256 OF THE DUMP (.gsa) THAT YtffamkodckghgaaProg.lean LOADS. Nothing in Lean hashes anything: it is a label: what it is worth is what the hold of that sum in a sandbox is worth. -/
noncomputable def Try.pinned : Pinned := { name := "ytffamkodckghgaa", sum := "5507afef9feb4ea7e1e2de684a77a8964b1eefc560e4f448c03998646e6cc598", checked := Try.checked }
namespace Rows
def none {H : Type} : Left H := { results := [], args := [] }

/-- 'drydocklaw39.JournalFrames': WHATEVER THE INPUT: true; the input reads as it did. -/
def journalFramesSpec : ChangeSpec := { name := "journalFrames", fn := fun _ => fun
  | [d1, d2] => { results := [.lit (.bool true)], args := [d1, d2] }
  | _ => none }
def journalFramesRow : OpenClaim := { program := "ytffamkodckghgaa", sum := "5507afef9feb4ea7e1e2de684a77a8964b1eefc560e4f448c03998646e6cc598", func := "drydock/drydocklaw39.JournalFrames", spec := "journalFrames", apart := false }
def JournalFramesSaid : Prop := journalFramesRow.holds Try.pinned (OpenSpec.ofChange journalFramesSpec)

/-- ITS FALSE NEIGHBOUR: 'it returns false'. Refute it at one input. -/
def journalFramesWrong : ChangeSpec := { name := "journalFrames", fn := fun _ => fun
  | [d1, d2] => { results := [.lit (.bool false)], args := [d1, d2] }
  | _ => none }
def JournalFramesWrongFalsely : Prop := journalFramesRow.holds Try.pinned (OpenSpec.ofChange journalFramesWrong)

/-- 'drydocklaw39.JournalScans': WHATEVER THE INPUT: true; the input reads as it did. -/
def journalScansSpec : ChangeSpec := { name := "journalScans", fn := fun _ => fun
  | [d1, d2, d3, d4] => { results := [.lit (.bool true)], args := [d1, d2, d3, d4] }
  | _ => none }
def journalScansRow : OpenClaim := { program := "ytffamkodckghgaa", sum := "5507afef9feb4ea7e1e2de684a77a8964b1eefc560e4f448c03998646e6cc598", func := "drydock/drydocklaw39.JournalScans", spec := "journalScans", apart := false }
def JournalScansSaid : Prop := journalScansRow.holds Try.pinned (OpenSpec.ofChange journalScansSpec)

/-- ITS FALSE NEIGHBOUR: 'it returns false'. Refute it at one input. -/
def journalScansWrong : ChangeSpec := { name := "journalScans", fn := fun _ => fun
  | [d1, d2, d3, d4] => { results := [.lit (.bool false)], args := [d1, d2, d3, d4] }
  | _ => none }
def JournalScansWrongFalsely : Prop := journalScansRow.holds Try.pinned (OpenSpec.ofChange journalScansWrong)

/-- 'drydocklaw39.JournalCuts': WHATEVER THE INPUT: true; the input reads as it did. -/
def journalCutsSpec : ChangeSpec := { name := "journalCuts", fn := fun _ => fun
  | [d1, d2] => { results := [.lit (.bool true)], args := [d1, d2] }
  | _ => none }
def journalCutsRow : OpenClaim := { program := "ytffamkodckghgaa", sum := "5507afef9feb4ea7e1e2de684a77a8964b1eefc560e4f448c03998646e6cc598", func := "drydock/drydocklaw39.JournalCuts", spec := "journalCuts", apart := false }
def JournalCutsSaid : Prop := journalCutsRow.holds Try.pinned (OpenSpec.ofChange journalCutsSpec)

/-- ITS FALSE NEIGHBOUR: 'it returns false'. Refute it at one input. -/
def journalCutsWrong : ChangeSpec := { name := "journalCuts", fn := fun _ => fun
  | [d1, d2] => { results := [.lit (.bool false)], args := [d1, d2] }
  | _ => none }
def JournalCutsWrongFalsely : Prop := journalCutsRow.holds Try.pinned (OpenSpec.ofChange journalCutsWrong)

/-- 'drydocklaw39.JournalBursts': WHATEVER THE INPUT: true; the input reads as it did. -/
def journalBurstsSpec : ChangeSpec := { name := "journalBursts", fn := fun _ => fun
  | [d1, d2, d3] => { results := [.lit (.bool true)], args := [d1, d2, d3] }
  | _ => none }
def journalBurstsRow : OpenClaim := { program := "ytffamkodckghgaa", sum := "5507afef9feb4ea7e1e2de684a77a8964b1eefc560e4f448c03998646e6cc598", func := "drydock/drydocklaw39.JournalBursts", spec := "journalBursts", apart := false }
def JournalBurstsSaid : Prop := journalBurstsRow.holds Try.pinned (OpenSpec.ofChange journalBurstsSpec)

/-- ITS FALSE NEIGHBOUR: 'it returns false'. Refute it at one input. -/
def journalBurstsWrong : ChangeSpec := { name := "journalBursts", fn := fun _ => fun
  | [d1, d2, d3] => { results := [.lit (.bool false)], args := [d1, d2, d3] }
  | _ => none }
def JournalBurstsWrongFalsely : Prop := journalBurstsRow.holds Try.pinned (OpenSpec.ofChange journalBurstsWrong)

/-- 'drydocklaw39.JournalPlays': WHATEVER THE INPUT: true; the input reads as it did. -/
def journalPlaysSpec : ChangeSpec := { name := "journalPlays", fn := fun _ => fun
  | [d1, d2] => { results := [.lit (.bool true)], args := [d1, d2] }
  | _ => none }
def journalPlaysRow : OpenClaim := { program := "ytffamkodckghgaa", sum := "5507afef9feb4ea7e1e2de684a77a8964b1eefc560e4f448c03998646e6cc598", func := "drydock/drydocklaw39.JournalPlays", spec := "journalPlays", apart := false }
def JournalPlaysSaid : Prop := journalPlaysRow.holds Try.pinned (OpenSpec.ofChange journalPlaysSpec)

/-- ITS FALSE NEIGHBOUR: 'it returns false'. Refute it at one input. -/
def journalPlaysWrong : ChangeSpec := { name := "journalPlays", fn := fun _ => fun
  | [d1, d2] => { results := [.lit (.bool false)], args := [d1, d2] }
  | _ => none }
def JournalPlaysWrongFalsely : Prop := journalPlaysRow.holds Try.pinned (OpenSpec.ofChange journalPlaysWrong)

/-- 'drydocklaw39.JournalSurvives': WHATEVER THE INPUT: true; the input reads as it did. -/
def journalSurvivesSpec : ChangeSpec := { name := "journalSurvives", fn := fun _ => fun
  | [d1, d2, d3, d4] => { results := [.lit (.bool true)], args := [d1, d2, d3, d4] }
  | _ => none }
def journalSurvivesRow : OpenClaim := { program := "ytffamkodckghgaa", sum := "5507afef9feb4ea7e1e2de684a77a8964b1eefc560e4f448c03998646e6cc598", func := "drydock/drydocklaw39.JournalSurvives", spec := "journalSurvives", apart := false }
def JournalSurvivesSaid : Prop := journalSurvivesRow.holds Try.pinned (OpenSpec.ofChange journalSurvivesSpec)

/-- ITS FALSE NEIGHBOUR: 'it returns false'. Refute it at one input. -/
def journalSurvivesWrong : ChangeSpec := { name := "journalSurvives", fn := fun _ => fun
  | [d1, d2, d3, d4] => { results := [.lit (.bool false)], args := [d1, d2, d3, d4] }
  | _ => none }
def JournalSurvivesWrongFalsely : Prop := journalSurvivesRow.holds Try.pinned (OpenSpec.ofChange journalSurvivesWrong)

/-- 'drydocklaw39.JournalFences': WHATEVER THE INPUT: true; the input reads as it did. -/
def journalFencesSpec : ChangeSpec := { name := "journalFences", fn := fun _ => fun
  | [d1, d2] => { results := [.lit (.bool true)], args := [d1, d2] }
  | _ => none }
def journalFencesRow : OpenClaim := { program := "ytffamkodckghgaa", sum := "5507afef9feb4ea7e1e2de684a77a8964b1eefc560e4f448c03998646e6cc598", func := "drydock/drydocklaw39.JournalFences", spec := "journalFences", apart := false }
def JournalFencesSaid : Prop := journalFencesRow.holds Try.pinned (OpenSpec.ofChange journalFencesSpec)

/-- ITS FALSE NEIGHBOUR: 'it returns false'. Refute it at one input. -/
def journalFencesWrong : ChangeSpec := { name := "journalFences", fn := fun _ => fun
  | [d1, d2] => { results := [.lit (.bool false)], args := [d1, d2] }
  | _ => none }
def JournalFencesWrongFalsely : Prop := journalFencesRow.holds Try.pinned (OpenSpec.ofChange journalFencesWrong)

/- THE SECOND FORM. 'bulk': how many values and letters a reading holds, each counted each time it is reached (what is shared counts as often as it is met; a slice's spare places count too). A statement '..UptoSaid' is the law's where the arguments, and the package variables that the reading takes, are together of bulk at most 1048576: NARROWER than '..Said'. Prove '..Said' where nothing that the law and all that it calls make is longer than what came in: it says more and counts as full. Else prove '..UptoSaid'. A law counts once. -/
mutual
def uptoBulk {H : Type} : DataW H → Nat
  | .lit (.string bytes) => bytes.length + 1
  | .lit _ => 1
  | .nil => 1
  | .ptr d => uptoBulk d + 1
  | .slice elems spare => uptoBulkAll elems + uptoBulkAll spare + 1
  | .agg parts => uptoBulkAll parts + 1
  | .iface _ d => uptoBulk d + 1
  | .map entries => uptoBulkEntries entries + 1
  | .held _ => 1
def uptoBulkAll {H : Type} : List (DataW H) → Nat
  | [] => 0
  | d :: r => uptoBulk d + uptoBulkAll r
def uptoBulkEntries {H : Type} : List (Lit × DataW H) → Nat
  | [] => 0
  | x :: r => uptoBulkEntry x + uptoBulkEntries r
def uptoBulkEntry {H : Type} : Lit × DataW H → Nat
  | (.string bytes, d) => bytes.length + uptoBulk d + 1
  | (_, d) => uptoBulk d + 1
 end
def uptoSmall : (H : Type) → List (DataW H) → Bool := fun _ ds => decide (uptoBulkAll ds ≤ 1048576)
def OpenSpec.upto (s : _root_.Go.ChangeSpec) : _root_.Go.OpenSpec := { _root_.Go.OpenSpec.ofChange s with cond := some uptoSmall }

/-- 'drydocklaw39.JournalFrames', WHERE WHAT IT READS IS OF BULK AT MOST 1048576: true; the input reads as it did. -/
def journalFramesUptoRow : OpenClaim := { program := "ytffamkodckghgaa", sum := "5507afef9feb4ea7e1e2de684a77a8964b1eefc560e4f448c03998646e6cc598", func := "drydock/drydocklaw39.JournalFrames", spec := "journalFrames", apart := false, narrowed := true }
def JournalFramesUptoSaid : Prop := journalFramesUptoRow.holds Try.pinned (OpenSpec.upto journalFramesSpec)

/-- 'drydocklaw39.JournalScans', WHERE WHAT IT READS IS OF BULK AT MOST 1048576: true; the input reads as it did. -/
def journalScansUptoRow : OpenClaim := { program := "ytffamkodckghgaa", sum := "5507afef9feb4ea7e1e2de684a77a8964b1eefc560e4f448c03998646e6cc598", func := "drydock/drydocklaw39.JournalScans", spec := "journalScans", apart := false, narrowed := true }
def JournalScansUptoSaid : Prop := journalScansUptoRow.holds Try.pinned (OpenSpec.upto journalScansSpec)

/-- 'drydocklaw39.JournalCuts', WHERE WHAT IT READS IS OF BULK AT MOST 1048576: true; the input reads as it did. -/
def journalCutsUptoRow : OpenClaim := { program := "ytffamkodckghgaa", sum := "5507afef9feb4ea7e1e2de684a77a8964b1eefc560e4f448c03998646e6cc598", func := "drydock/drydocklaw39.JournalCuts", spec := "journalCuts", apart := false, narrowed := true }
def JournalCutsUptoSaid : Prop := journalCutsUptoRow.holds Try.pinned (OpenSpec.upto journalCutsSpec)

/-- 'drydocklaw39.JournalBursts', WHERE WHAT IT READS IS OF BULK AT MOST 1048576: true; the input reads as it did. -/
def journalBurstsUptoRow : OpenClaim := { program := "ytffamkodckghgaa", sum := "5507afef9feb4ea7e1e2de684a77a8964b1eefc560e4f448c03998646e6cc598", func := "drydock/drydocklaw39.JournalBursts", spec := "journalBursts", apart := false, narrowed := true }
def JournalBurstsUptoSaid : Prop := journalBurstsUptoRow.holds Try.pinned (OpenSpec.upto journalBurstsSpec)

/-- 'drydocklaw39.JournalPlays', WHERE WHAT IT READS IS OF BULK AT MOST 1048576: true; the input reads as it did. -/
def journalPlaysUptoRow : OpenClaim := { program := "ytffamkodckghgaa", sum := "5507afef9feb4ea7e1e2de684a77a8964b1eefc560e4f448c03998646e6cc598", func := "drydock/drydocklaw39.JournalPlays", spec := "journalPlays", apart := false, narrowed := true }
def JournalPlaysUptoSaid : Prop := journalPlaysUptoRow.holds Try.pinned (OpenSpec.upto journalPlaysSpec)

/-- 'drydocklaw39.JournalSurvives', WHERE WHAT IT READS IS OF BULK AT MOST 1048576: true; the input reads as it did. -/
def journalSurvivesUptoRow : OpenClaim := { program := "ytffamkodckghgaa", sum := "5507afef9feb4ea7e1e2de684a77a8964b1eefc560e4f448c03998646e6cc598", func := "drydock/drydocklaw39.JournalSurvives", spec := "journalSurvives", apart := false, narrowed := true }
def JournalSurvivesUptoSaid : Prop := journalSurvivesUptoRow.holds Try.pinned (OpenSpec.upto journalSurvivesSpec)

/-- 'drydocklaw39.JournalFences', WHERE WHAT IT READS IS OF BULK AT MOST 1048576: true; the input reads as it did. -/
def journalFencesUptoRow : OpenClaim := { program := "ytffamkodckghgaa", sum := "5507afef9feb4ea7e1e2de684a77a8964b1eefc560e4f448c03998646e6cc598", func := "drydock/drydocklaw39.JournalFences", spec := "journalFences", apart := false, narrowed := true }
def JournalFencesUptoSaid : Prop := journalFencesUptoRow.holds Try.pinned (OpenSpec.upto journalFencesSpec)

end Rows
end Go.Proofs.Ytffamkodckghgaa
