/-
  No cell of these rows narrows 'for every input' (looked for: loops, veiled, ifaces, maps, wideKeys, modest, calm, conditions, laid).
  DERIVED. THE GIVEN ROWS OF THIS SEAT. 6 by the template 'for every input the law returns true; each argument reads behind the call as it read before'; 0 by the template 'total and deterministic' (their statements: YtmehadfhcdpfcaaGreatTotals.lean).
  GIVEN WITH THE SEED: the statements are not yours to turn. If you find one false, say at which input.
  Laid BY PROGRAM, IN A SANDBOX (cutbox-rows.mjs): the forced cells as the released guide's own fill.sh prints them over the translation 1755a109c14921df… (all of the seat's roots in one cut). By AI agents, Wed Nov 11 2026. No macro, syntax, notation, axiom, sorry.
-/
import Derived.Test.YtmehadfhcdpfcaaGreatChecked
import GoSem.Claim
import GoSem.ClaimJoined
import GoSem.ClaimMapViews
import Derived.JoinedTies
import Derived.KernelRfl
namespace Go.Proofs.YtmehadfhcdpfcaaGreat
/- THE CELL 'sum', in the pinned program and in every row, IS THE sha256 OF THE DUMP (.gsa) THAT YtmehadfhcdpfcaaGreatProg.lean LOADS. Nothing in Lean hashes anything: it is a label: what it is worth is what the hold of that sum in a sandbox is worth. -/
noncomputable def Tryz.pinned : Pinned := { name := "ytmehadfhcdpfcaagreat", sum := "1755a109c14921df2aadcb0c42e6ea3bf3d6fdce91af6f4c1d79b2200fd3ef94", checked := Tryz.checked }
namespace Rows
def none {H : Type} : Left H := { results := [], args := [] }

/-- 'drydocklaw42.TruthLoses': WHATEVER THE INPUT: true; the input reads as it did. -/
def truthLosesSpec : ChangeSpec := { name := "truthLoses", fn := fun _ => fun
  | [d1, d2] => { results := [.lit (.bool true)], args := [d1, d2] }
  | _ => none }
def truthLosesRow : OpenClaim := { program := "ytmehadfhcdpfcaagreat", sum := "1755a109c14921df2aadcb0c42e6ea3bf3d6fdce91af6f4c1d79b2200fd3ef94", func := "drydock/drydocklaw42.TruthLoses", spec := "truthLoses", unfollowed := true, recurses := true, plainKeys := false, apart := false }
def TruthLosesSaid : Prop := truthLosesRow.holds Tryz.pinned (OpenSpec.ofChange truthLosesSpec)

/-- ITS FALSE NEIGHBOUR: 'it returns false'. Refute it at one input. -/
def truthLosesWrong : ChangeSpec := { name := "truthLoses", fn := fun _ => fun
  | [d1, d2] => { results := [.lit (.bool false)], args := [d1, d2] }
  | _ => none }
def TruthLosesWrongFalsely : Prop := truthLosesRow.holds Tryz.pinned (OpenSpec.ofChange truthLosesWrong)

/-- 'drydocklaw42.TruthHarms': WHATEVER THE INPUT: true; the input reads as it did. -/
def truthHarmsSpec : ChangeSpec := { name := "truthHarms", fn := fun _ => fun
  | [d1, d2] => { results := [.lit (.bool true)], args := [d1, d2] }
  | _ => none }
def truthHarmsRow : OpenClaim := { program := "ytmehadfhcdpfcaagreat", sum := "1755a109c14921df2aadcb0c42e6ea3bf3d6fdce91af6f4c1d79b2200fd3ef94", func := "drydock/drydocklaw42.TruthHarms", spec := "truthHarms", unfollowed := true, recurses := true, plainKeys := false, apart := false }
def TruthHarmsSaid : Prop := truthHarmsRow.holds Tryz.pinned (OpenSpec.ofChange truthHarmsSpec)

/-- ITS FALSE NEIGHBOUR: 'it returns false'. Refute it at one input. -/
def truthHarmsWrong : ChangeSpec := { name := "truthHarms", fn := fun _ => fun
  | [d1, d2] => { results := [.lit (.bool false)], args := [d1, d2] }
  | _ => none }
def TruthHarmsWrongFalsely : Prop := truthHarmsRow.holds Tryz.pinned (OpenSpec.ofChange truthHarmsWrong)

/-- 'drydocklaw42.TruthMargins': WHATEVER THE INPUT: true; the input reads as it did. -/
def truthMarginsSpec : ChangeSpec := { name := "truthMargins", fn := fun _ => fun
  | [d] => { results := [.lit (.bool true)], args := [d] }
  | _ => none }
def truthMarginsRow : OpenClaim := { program := "ytmehadfhcdpfcaagreat", sum := "1755a109c14921df2aadcb0c42e6ea3bf3d6fdce91af6f4c1d79b2200fd3ef94", func := "drydock/drydocklaw42.TruthMargins", spec := "truthMargins", unfollowed := true, recurses := true, plainKeys := false, apart := false }
def TruthMarginsSaid : Prop := truthMarginsRow.holds Tryz.pinned (OpenSpec.ofChange truthMarginsSpec)

/-- ITS FALSE NEIGHBOUR: 'it returns false'. Refute it at one input. -/
def truthMarginsWrong : ChangeSpec := { name := "truthMargins", fn := fun _ => fun
  | [d] => { results := [.lit (.bool false)], args := [d] }
  | _ => none }
def TruthMarginsWrongFalsely : Prop := truthMarginsRow.holds Tryz.pinned (OpenSpec.ofChange truthMarginsWrong)

/-- 'drydocklaw42.TruthTransfers': WHATEVER THE INPUT: true; the input reads as it did. -/
def truthTransfersSpec : ChangeSpec := { name := "truthTransfers", fn := fun _ => fun
  | [d1, d2, d3] => { results := [.lit (.bool true)], args := [d1, d2, d3] }
  | _ => none }
def truthTransfersRow : OpenClaim := { program := "ytmehadfhcdpfcaagreat", sum := "1755a109c14921df2aadcb0c42e6ea3bf3d6fdce91af6f4c1d79b2200fd3ef94", func := "drydock/drydocklaw42.TruthTransfers", spec := "truthTransfers", unfollowed := true, recurses := true, plainKeys := false, apart := false }
def TruthTransfersSaid : Prop := truthTransfersRow.holds Tryz.pinned (OpenSpec.ofChange truthTransfersSpec)

/-- ITS FALSE NEIGHBOUR: 'it returns false'. Refute it at one input. -/
def truthTransfersWrong : ChangeSpec := { name := "truthTransfers", fn := fun _ => fun
  | [d1, d2, d3] => { results := [.lit (.bool false)], args := [d1, d2, d3] }
  | _ => none }
def TruthTransfersWrongFalsely : Prop := truthTransfersRow.holds Tryz.pinned (OpenSpec.ofChange truthTransfersWrong)

/-- 'drydocklaw42.TruthReads': WHATEVER THE INPUT: true; the input reads as it did. -/
def truthReadsSpec : ChangeSpec := { name := "truthReads", fn := fun _ => fun
  | [d1, d2, d3, d4, d5] => { results := [.lit (.bool true)], args := [d1, d2, d3, d4, d5] }
  | _ => none }
def truthReadsRow : OpenClaim := { program := "ytmehadfhcdpfcaagreat", sum := "1755a109c14921df2aadcb0c42e6ea3bf3d6fdce91af6f4c1d79b2200fd3ef94", func := "drydock/drydocklaw42.TruthReads", spec := "truthReads", inPlace := ["internal/abi.NoEscape"], unfollowed := true, recurses := true, plainKeys := false, apart := false }
def TruthReadsSaid : Prop := truthReadsRow.holds Tryz.pinned (OpenSpec.ofChange truthReadsSpec)

/-- ITS FALSE NEIGHBOUR: 'it returns false'. Refute it at one input. -/
def truthReadsWrong : ChangeSpec := { name := "truthReads", fn := fun _ => fun
  | [d1, d2, d3, d4, d5] => { results := [.lit (.bool false)], args := [d1, d2, d3, d4, d5] }
  | _ => none }
def TruthReadsWrongFalsely : Prop := truthReadsRow.holds Tryz.pinned (OpenSpec.ofChange truthReadsWrong)

/-- 'drydocklaw42.TruthKeeps': WHATEVER THE INPUT: true; the input reads as it did. -/
def truthKeepsSpec : ChangeSpec := { name := "truthKeeps", fn := fun _ => fun
  | [d] => { results := [.lit (.bool true)], args := [d] }
  | _ => none }
def truthKeepsRow : OpenClaim := { program := "ytmehadfhcdpfcaagreat", sum := "1755a109c14921df2aadcb0c42e6ea3bf3d6fdce91af6f4c1d79b2200fd3ef94", func := "drydock/drydocklaw42.TruthKeeps", spec := "truthKeeps", inPlace := ["internal/abi.NoEscape"], unfollowed := true, recurses := true, plainKeys := false, apart := false }
def TruthKeepsSaid : Prop := truthKeepsRow.holds Tryz.pinned (OpenSpec.ofChange truthKeepsSpec)

/-- ITS FALSE NEIGHBOUR: 'it returns false'. Refute it at one input. -/
def truthKeepsWrong : ChangeSpec := { name := "truthKeeps", fn := fun _ => fun
  | [d] => { results := [.lit (.bool false)], args := [d] }
  | _ => none }
def TruthKeepsWrongFalsely : Prop := truthKeepsRow.holds Tryz.pinned (OpenSpec.ofChange truthKeepsWrong)

/- THE SECOND FORM. 'bulk': how many values and letters a reading holds, each counted each time it is reached (what is shared counts as often as it is met; a slice's spare places count too). A statement '..UptoSaid' is the law's where the arguments, and the package variables that the reading takes, are together of bulk at most 1048576: NARROWER than '..Said'. Prove '..Said' where nothing that the law and all that it calls make is longer than what came in: it says more and counts as full. Else prove '..UptoSaid'. A law counts once. -/
mutual
def uptoBulk {H : Type} : DataW H → Nat
  | .lit (.string bytes) => bytes.length + 1
  | .lit _ => 1
  | .nil => 1
  | .ptr d => uptoBulk d + 1
  | .slice elems spare => uptoBulkAll elems + uptoBulkAll spare + 1
  | .agg parts => uptoBulkAll parts + 1
  | .iface _ d => uptoBulk d + 1
  | .map entries => uptoBulkEntries entries + 1
  | .held _ => 1
def uptoBulkAll {H : Type} : List (DataW H) → Nat
  | [] => 0
  | d :: r => uptoBulk d + uptoBulkAll r
def uptoBulkEntries {H : Type} : List (Lit × DataW H) → Nat
  | [] => 0
  | x :: r => uptoBulkEntry x + uptoBulkEntries r
def uptoBulkEntry {H : Type} : Lit × DataW H → Nat
  | (.string bytes, d) => bytes.length + uptoBulk d + 1
  | (_, d) => uptoBulk d + 1
 end
def uptoSmall : (H : Type) → List (DataW H) → Bool := fun _ ds => decide (uptoBulkAll ds ≤ 1048576)
def OpenSpec.upto (s : _root_.Go.ChangeSpec) : _root_.Go.OpenSpec := { _root_.Go.OpenSpec.ofChange s with cond := some uptoSmall }

/-- 'drydocklaw42.TruthLoses', WHERE WHAT IT READS IS OF BULK AT MOST 1048576: true; the input reads as it did. -/
def truthLosesUptoRow : OpenClaim := { program := "ytmehadfhcdpfcaagreat", sum := "1755a109c14921df2aadcb0c42e6ea3bf3d6fdce91af6f4c1d79b2200fd3ef94", func := "drydock/drydocklaw42.TruthLoses", spec := "truthLoses", unfollowed := true, recurses := true, plainKeys := false, apart := false, narrowed := true }
def TruthLosesUptoSaid : Prop := truthLosesUptoRow.holds Tryz.pinned (OpenSpec.upto truthLosesSpec)

/-- 'drydocklaw42.TruthHarms', WHERE WHAT IT READS IS OF BULK AT MOST 1048576: true; the input reads as it did. -/
def truthHarmsUptoRow : OpenClaim := { program := "ytmehadfhcdpfcaagreat", sum := "1755a109c14921df2aadcb0c42e6ea3bf3d6fdce91af6f4c1d79b2200fd3ef94", func := "drydock/drydocklaw42.TruthHarms", spec := "truthHarms", unfollowed := true, recurses := true, plainKeys := false, apart := false, narrowed := true }
def TruthHarmsUptoSaid : Prop := truthHarmsUptoRow.holds Tryz.pinned (OpenSpec.upto truthHarmsSpec)

/-- 'drydocklaw42.TruthMargins', WHERE WHAT IT READS IS OF BULK AT MOST 1048576: true; the input reads as it did. -/
def truthMarginsUptoRow : OpenClaim := { program := "ytmehadfhcdpfcaagreat", sum := "1755a109c14921df2aadcb0c42e6ea3bf3d6fdce91af6f4c1d79b2200fd3ef94", func := "drydock/drydocklaw42.TruthMargins", spec := "truthMargins", unfollowed := true, recurses := true, plainKeys := false, apart := false, narrowed := true }
def TruthMarginsUptoSaid : Prop := truthMarginsUptoRow.holds Tryz.pinned (OpenSpec.upto truthMarginsSpec)

/-- 'drydocklaw42.TruthTransfers', WHERE WHAT IT READS IS OF BULK AT MOST 1048576: true; the input reads as it did. -/
def truthTransfersUptoRow : OpenClaim := { program := "ytmehadfhcdpfcaagreat", sum := "1755a109c14921df2aadcb0c42e6ea3bf3d6fdce91af6f4c1d79b2200fd3ef94", func := "drydock/drydocklaw42.TruthTransfers", spec := "truthTransfers", unfollowed := true, recurses := true, plainKeys := false, apart := false, narrowed := true }
def TruthTransfersUptoSaid : Prop := truthTransfersUptoRow.holds Tryz.pinned (OpenSpec.upto truthTransfersSpec)

/-- 'drydocklaw42.TruthReads', WHERE WHAT IT READS IS OF BULK AT MOST 1048576: true; the input reads as it did. -/
def truthReadsUptoRow : OpenClaim := { program := "ytmehadfhcdpfcaagreat", sum := "1755a109c14921df2aadcb0c42e6ea3bf3d6fdce91af6f4c1d79b2200fd3ef94", func := "drydock/drydocklaw42.TruthReads", spec := "truthReads", inPlace := ["internal/abi.NoEscape"], unfollowed := true, recurses := true, plainKeys := false, apart := false, narrowed := true }
def TruthReadsUptoSaid : Prop := truthReadsUptoRow.holds Tryz.pinned (OpenSpec.upto truthReadsSpec)

/-- 'drydocklaw42.TruthKeeps', WHERE WHAT IT READS IS OF BULK AT MOST 1048576: true; the input reads as it did. -/
def truthKeepsUptoRow : OpenClaim := { program := "ytmehadfhcdpfcaagreat", sum := "1755a109c14921df2aadcb0c42e6ea3bf3d6fdce91af6f4c1d79b2200fd3ef94", func := "drydock/drydocklaw42.TruthKeeps", spec := "truthKeeps", inPlace := ["internal/abi.NoEscape"], unfollowed := true, recurses := true, plainKeys := false, apart := false, narrowed := true }
def TruthKeepsUptoSaid : Prop := truthKeepsUptoRow.holds Tryz.pinned (OpenSpec.upto truthKeepsSpec)

end Rows
end Go.Proofs.YtmehadfhcdpfcaaGreat
