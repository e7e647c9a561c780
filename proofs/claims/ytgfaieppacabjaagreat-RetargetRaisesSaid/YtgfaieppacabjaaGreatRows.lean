/-
  No cell of these rows narrows 'for every input' (looked for: loops, veiled, ifaces, maps, wideKeys, modest, calm, conditions, laid).
  DERIVED. THE GIVEN ROWS OF THIS SEAT. 4 by the template 'for every input the law returns true; each argument reads behind the call as it read before'; 0 by the template 'total and deterministic' (their statements: YtgfaieppacabjaaGreatTotals.lean).
  GIVEN WITH THE SEED: the statements are not yours to turn. If you find one false, say at which input.
  Laid BY PROGRAM, IN A SANDBOX (cutbox-rows.mjs): the forced cells as the released guide's own fill.sh prints them over the translation 899426e7bce375a0… (all of the seat's roots in one cut). By AI agents, Wed Nov 11 2026. No macro, syntax, notation, axiom, sorry.
-/
import Derived.Test.YtgfaieppacabjaaGreatChecked
import GoSem.Claim
import GoSem.ClaimJoined
import GoSem.ClaimMapViews
import Derived.JoinedTies
import Derived.KernelRfl
namespace Go.Proofs.YtgfaieppacabjaaGreat
/- THE CELL 'sum', in the pinned program and in every row, IS THE sha256 OF THE DUMP (.gsa) THAT YtgfaieppacabjaaGreatProg.lean LOADS. Nothing in Lean hashes anything: it is a label: what it is worth is what the hold of that sum in a sandbox is worth. -/
noncomputable def Tryz.pinned : Pinned := { name := "ytgfaieppacabjaagreat", sum := "899426e7bce375a099e282391fc7cada60a576daca8a745f1f3d3a3756d4c417", checked := Tryz.checked }
namespace Rows
def none {H : Type} : Left H := { results := [], args := [] }

/-- 'drydocklaw38.RetargetRaises': WHATEVER THE INPUT: true; the input reads as it did. -/
def retargetRaisesSpec : ChangeSpec := { name := "retargetRaises", fn := fun _ => fun
  | [d1, d2, d3, d4, d5, d6, d7] => { results := [.lit (.bool true)], args := [d1, d2, d3, d4, d5, d6, d7] }
  | _ => none }
def retargetRaisesRow : OpenClaim := { program := "ytgfaieppacabjaagreat", sum := "899426e7bce375a099e282391fc7cada60a576daca8a745f1f3d3a3756d4c417", func := "drydock/drydocklaw38.RetargetRaises", spec := "retargetRaises", unfollowed := true, recurses := true, apart := false }
def RetargetRaisesSaid : Prop := retargetRaisesRow.holds Tryz.pinned (OpenSpec.ofChange retargetRaisesSpec)

/-- ITS FALSE NEIGHBOUR: 'it returns false'. Refute it at one input. -/
def retargetRaisesWrong : ChangeSpec := { name := "retargetRaises", fn := fun _ => fun
  | [d1, d2, d3, d4, d5, d6, d7] => { results := [.lit (.bool false)], args := [d1, d2, d3, d4, d5, d6, d7] }
  | _ => none }
def RetargetRaisesWrongFalsely : Prop := retargetRaisesRow.holds Tryz.pinned (OpenSpec.ofChange retargetRaisesWrong)

/-- 'drydocklaw38.RetargetTwice': WHATEVER THE INPUT: true; the input reads as it did. -/
def retargetTwiceSpec : ChangeSpec := { name := "retargetTwice", fn := fun _ => fun
  | [d1, d2, d3, d4, d5, d6] => { results := [.lit (.bool true)], args := [d1, d2, d3, d4, d5, d6] }
  | _ => none }
def retargetTwiceRow : OpenClaim := { program := "ytgfaieppacabjaagreat", sum := "899426e7bce375a099e282391fc7cada60a576daca8a745f1f3d3a3756d4c417", func := "drydock/drydocklaw38.RetargetTwice", spec := "retargetTwice", unfollowed := true, recurses := true, apart := false }
def RetargetTwiceSaid : Prop := retargetTwiceRow.holds Tryz.pinned (OpenSpec.ofChange retargetTwiceSpec)

/-- ITS FALSE NEIGHBOUR: 'it returns false'. Refute it at one input. -/
def retargetTwiceWrong : ChangeSpec := { name := "retargetTwice", fn := fun _ => fun
  | [d1, d2, d3, d4, d5, d6] => { results := [.lit (.bool false)], args := [d1, d2, d3, d4, d5, d6] }
  | _ => none }
def RetargetTwiceWrongFalsely : Prop := retargetTwiceRow.holds Tryz.pinned (OpenSpec.ofChange retargetTwiceWrong)

/-- 'drydocklaw38.RetargetExtends': WHATEVER THE INPUT: true; the input reads as it did. -/
def retargetExtendsSpec : ChangeSpec := { name := "retargetExtends", fn := fun _ => fun
  | [d1, d2, d3, d4, d5] => { results := [.lit (.bool true)], args := [d1, d2, d3, d4, d5] }
  | _ => none }
def retargetExtendsRow : OpenClaim := { program := "ytgfaieppacabjaagreat", sum := "899426e7bce375a099e282391fc7cada60a576daca8a745f1f3d3a3756d4c417", func := "drydock/drydocklaw38.RetargetExtends", spec := "retargetExtends", unfollowed := true, recurses := true, apart := false }
def RetargetExtendsSaid : Prop := retargetExtendsRow.holds Tryz.pinned (OpenSpec.ofChange retargetExtendsSpec)

/-- ITS FALSE NEIGHBOUR: 'it returns false'. Refute it at one input. -/
def retargetExtendsWrong : ChangeSpec := { name := "retargetExtends", fn := fun _ => fun
  | [d1, d2, d3, d4, d5] => { results := [.lit (.bool false)], args := [d1, d2, d3, d4, d5] }
  | _ => none }
def RetargetExtendsWrongFalsely : Prop := retargetExtendsRow.holds Tryz.pinned (OpenSpec.ofChange retargetExtendsWrong)

/-- 'drydocklaw38.RetargetMoves': WHATEVER THE INPUT: true; the input reads as it did. -/
def retargetMovesSpec : ChangeSpec := { name := "retargetMoves", fn := fun _ => fun
  | [d1, d2, d3, d4] => { results := [.lit (.bool true)], args := [d1, d2, d3, d4] }
  | _ => none }
def retargetMovesRow : OpenClaim := { program := "ytgfaieppacabjaagreat", sum := "899426e7bce375a099e282391fc7cada60a576daca8a745f1f3d3a3756d4c417", func := "drydock/drydocklaw38.RetargetMoves", spec := "retargetMoves", unfollowed := true, recurses := true, apart := false }
def RetargetMovesSaid : Prop := retargetMovesRow.holds Tryz.pinned (OpenSpec.ofChange retargetMovesSpec)

/-- ITS FALSE NEIGHBOUR: 'it returns false'. Refute it at one input. -/
def retargetMovesWrong : ChangeSpec := { name := "retargetMoves", fn := fun _ => fun
  | [d1, d2, d3, d4] => { results := [.lit (.bool false)], args := [d1, d2, d3, d4] }
  | _ => none }
def RetargetMovesWrongFalsely : Prop := retargetMovesRow.holds Tryz.pinned (OpenSpec.ofChange retargetMovesWrong)

/- THE SECOND FORM. 'bulk': how many values and letters a reading holds, each counted each time it is reached (what is shared counts as often as it is met; a slice's spare places count too). A statement '..UptoSaid' is the law's where the arguments, and the package variables that the reading takes, are together of bulk at most 1048576: NARROWER than '..Said'. Prove '..Said' where nothing that the law and all that it calls make is longer than what came in: it says more and counts as full. Else prove '..UptoSaid'. A law counts once. -/
mutual
def uptoBulk {H : Type} : DataW H → Nat
  | .lit (.string bytes) => bytes.length + 1
  | .lit _ => 1
  | .nil => 1
  | .ptr d => uptoBulk d + 1
  | .slice elems spare => uptoBulkAll elems + uptoBulkAll spare + 1
  | .agg parts => uptoBulkAll parts + 1
  | .iface _ d => uptoBulk d + 1
  | .map entries => uptoBulkEntries entries + 1
  | .held _ => 1
def uptoBulkAll {H : Type} : List (DataW H) → Nat
  | [] => 0
  | d :: r => uptoBulk d + uptoBulkAll r
def uptoBulkEntries {H : Type} : List (Lit × DataW H) → Nat
  | [] => 0
  | x :: r => uptoBulkEntry x + uptoBulkEntries r
def uptoBulkEntry {H : Type} : Lit × DataW H → Nat
  | (.string bytes, d) => bytes.length + uptoBulk d + 1
  | (_, d) => uptoBulk d + 1
 end
def uptoSmall : (H : Type) → List (DataW H) → Bool := fun _ ds => decide (uptoBulkAll ds ≤ 1048576)
def OpenSpec.upto (s : _root_.Go.ChangeSpec) : _root_.Go.OpenSpec := { _root_.Go.OpenSpec.ofChange s with cond := some uptoSmall }

/-- 'drydocklaw38.RetargetRaises', WHERE WHAT IT READS IS OF BULK AT MOST 1048576: true; the input reads as it did. -/
def retargetRaisesUptoRow : OpenClaim := { program := "ytgfaieppacabjaagreat", sum := "899426e7bce375a099e282391fc7cada60a576daca8a745f1f3d3a3756d4c417", func := "drydock/drydocklaw38.RetargetRaises", spec := "retargetRaises", unfollowed := true, recurses := true, apart := false, narrowed := true }
def RetargetRaisesUptoSaid : Prop := retargetRaisesUptoRow.holds Tryz.pinned (OpenSpec.upto retargetRaisesSpec)

/-- 'drydocklaw38.RetargetTwice', WHERE WHAT IT READS IS OF BULK AT MOST 1048576: true; the input reads as it did. -/
def retargetTwiceUptoRow : OpenClaim := { program := "ytgfaieppacabjaagreat", sum := "899426e7bce375a099e282391fc7cada60a576daca8a745f1f3d3a3756d4c417", func := "drydock/drydocklaw38.RetargetTwice", spec := "retargetTwice", unfollowed := true, recurses := true, apart := false, narrowed := true }
def RetargetTwiceUptoSaid : Prop := retargetTwiceUptoRow.holds Tryz.pinned (OpenSpec.upto retargetTwiceSpec)

/-- 'drydocklaw38.RetargetExtends', WHERE WHAT IT READS IS OF BULK AT MOST 1048576: true; the input reads as it did. -/
def retargetExtendsUptoRow : OpenClaim := { program := "ytgfaieppacabjaagreat", sum := "899426e7bce375a099e282391fc7cada60a576daca8a745f1f3d3a3756d4c417", func := "drydock/drydocklaw38.RetargetExtends", spec := "retargetExtends", unfollowed := true, recurses := true, apart := false, narrowed := true }
def RetargetExtendsUptoSaid : Prop := retargetExtendsUptoRow.holds Tryz.pinned (OpenSpec.upto retargetExtendsSpec)

/-- 'drydocklaw38.RetargetMoves', WHERE WHAT IT READS IS OF BULK AT MOST 1048576: true; the input reads as it did. -/
def retargetMovesUptoRow : OpenClaim := { program := "ytgfaieppacabjaagreat", sum := "899426e7bce375a099e282391fc7cada60a576daca8a745f1f3d3a3756d4c417", func := "drydock/drydocklaw38.RetargetMoves", spec := "retargetMoves", unfollowed := true, recurses := true, apart := false, narrowed := true }
def RetargetMovesUptoSaid : Prop := retargetMovesUptoRow.holds Tryz.pinned (OpenSpec.upto retargetMovesSpec)

end Rows
end Go.Proofs.YtgfaieppacabjaaGreat
