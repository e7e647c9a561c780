/- A journal behind a pointer: its block, and what the methods do to it. -/
import Derived.Test.YtffamkodckghgaaJW9
namespace Go.Proofs.Ytffamkodckghgaa
open Go.RowKit
set_option linter.unusedVariables false
set_option linter.unusedSimpArgs false
structure LogS where
  data : List UInt8
  dur : Nat
  term : Int
/-- A journal that can be: what is durable is a part of the bytes, of which there are not too many. -/
def LogOk (L : LogS) : Prop := L.dur ≤ L.data.length ∧ L.data.length ≤ 32768 ∧ I64 L.term
def LogAt (T : TypeId) (w : World) (g : Nat) (L : LogS) : Prop := w.heap[g]? = some (.cells #[.string ⟨L.data.toArray⟩, .int .i64 (L.dur : Nat), .int .i64 L.term] T (0, 0))
theorem LogAt.cells {T : TypeId} {w : World} {g : Nat} {L : LogS} (h : LogAt T w g L) :
    w.cell? ⟨g, 0, none⟩ = some (.string ⟨L.data.toArray⟩) ∧ w.cell? ⟨g, 1, none⟩ = some (.int .i64 (L.dur : Nat)) ∧ w.cell? ⟨g, 2, none⟩ = some (.int .i64 L.term) ∧
      w.frozen? ⟨g, 0, none⟩ = false ∧ w.frozen? ⟨g, 1, none⟩ = false ∧ w.frozen? ⟨g, 2, none⟩ = false ∧ g < w.heap.size := by
  have h0 := cell_of_row w g 0 _ _ _ h
  have h1 := cell_of_row w g 1 _ _ _ h
  have h2 := cell_of_row w g 2 _ _ _ h
  exact ⟨by simpa using h0, by simpa using h1, by simpa using h2, frozen_of_row w g 0 _ _ h, frozen_of_row w g 1 _ _ h, frozen_of_row w g 2 _ _ h, block_lt_of_cell h0⟩
theorem LogAt.below {T : TypeId} {w w2 : World} {g B : Nat} {L : LogS} (h : LogAt T w g L) (hb : Below B w w2) (hg : g < B) : LogAt T w2 g L := (hb.block g hg).trans h
theorem LogAt.grown {T : TypeId} {w w2 : World} {g k : Nat} {L : LogS} (h : LogAt T w g L) (hb : w.grownBy w2 (some k)) (hg : g ≠ k) : LogAt T w2 g L := (hb.block g h.cells.2.2.2.2.2.2 (fun e => hg (by injection e))).trans h
theorem LogAt.drewN {T : TypeId} {w : World} {g : Nat} {L : LogS} (h : LogAt T w g L) (n : Nat) : LogAt T (w.drewN n) g L := h
theorem LogAt.set0 {T : TypeId} {w : World} {g : Nat} {L : LogS} (h : LogAt T w g L) (l : List UInt8) : LogAt T (w.setCell ⟨g, 0, none⟩ (.string ⟨l.toArray⟩)) g { L with data := l } := heap_setCell_same w g 0 _ _ _ h
theorem LogAt.set1 {T : TypeId} {w : World} {g : Nat} {L : LogS} (h : LogAt T w g L) (d : Nat) : LogAt T (w.setCell ⟨g, 1, none⟩ (.int .i64 (d : Nat))) g { L with dur := d } := heap_setCell_same w g 1 _ _ _ h
theorem LogAt.set2 {T : TypeId} {w : World} {g : Nat} {L : LogS} (h : LogAt T w g L) (t : Int) : LogAt T (w.setCell ⟨g, 2, none⟩ (.int .i64 t)) g { L with term := t } := heap_setCell_same w g 2 _ _ _ h
theorem only_refl (w : World) (g : Nat) : w.grownBy w (some g) := ⟨rfl, rfl, rfl, Nat.le_refl _, fun _ _ _ => rfl⟩
theorem only_below {a w w2 : World} {g : Nat} (h : a.grownBy w (some g)) (hb : Below w.heap.size w w2) : a.grownBy w2 (some g) :=
  ⟨hb.os.trans h.os, hb.tape.trans h.tape, hb.output.trans h.output, Nat.le_trans h.size hb.size, fun i hi hne => (hb.block i (Nat.lt_of_lt_of_le hi h.size)).trans (h.block i hi hne)⟩
theorem only_set {a w : World} {g : Nat} (h : a.grownBy w (some g)) (i : Nat) (u : Value) : a.grownBy (w.setCell ⟨g, i, none⟩ u) (some g) :=
  ⟨h.os, h.tape, h.output, by simpa [World.setCell] using h.size, fun k hk hne => (Below.heap_setCell w _ u k (fun e => hne (by rw [e]))).trans (h.block k hk hne)⟩
theorem only_drewN {a w : World} {g : Nat} (h : a.grownBy w (some g)) (n : Nat) : a.grownBy (w.drewN n) (some g) := ⟨h.os, h.tape, h.output, h.size, h.block⟩
theorem only_trans {a b c : World} {g : Nat} (h : a.grownBy b (some g)) (k : b.grownBy c (some g)) : a.grownBy c (some g) :=
  ⟨k.os.trans h.os, k.tape.trans h.tape, k.output.trans h.output, Nat.le_trans h.size k.size, fun i hi hne => (k.block i (Nat.lt_of_lt_of_le hi h.size) hne).trans (h.block i hi hne)⟩
/-- Below the block that is written nothing turns. -/
theorem below_only {B : Nat} {a w w2 : World} {g : Nat} (h : Below B a w) (hg : w.grownBy w2 (some g)) (hB : B ≤ g) (hs : B ≤ w.heap.size) : Below B a w2 :=
  h.grown hg hs (fun k hk => by injection hk with hk; omega)

def fenceS (L : LogS) (t : Int) : LogS × Int := if t < L.term then (L, 106) else ({ L with term := t }, 0)
def syncS (L : LogS) (t : Int) : LogS × Int := if t < L.term then (L, 106) else ({ L with dur := L.data.length, term := t }, 0)
def appendS (L : LogS) (t : Int) (r : Rec) : LogS × Int := if t < L.term then (L, 106) else if validR r = false then (L, 117) else if 32768 < L.data.length + 26 then (L, 118) else ({ L with data := L.data ++ frameB r, term := t }, 0)

set_option maxHeartbeats 800000 in
theorem fence_any (g : Nat) (L : LogS) (t : Int) (w : World) (hL : LogAt 74 w g L) (ht : I64 t) (hO : LogOk L) :
    Calls Try.prog 26 #[.pointer (some ⟨g, 0, none⟩), .int .i64 t] w fun e w' => e = .returned (.int .i64 (fenceS L t).2) ∧ LogAt 74 w' g (fenceS L t).1 ∧ w.grownBy w' (some g) := by
  obtain ⟨c0, c1, c2, f0, f1, f2, hlt⟩ := hL.cells
  obtain ⟨-, -, ht0, ht1⟩ := hO
  obtain ⟨g0, g1⟩ := ht
  by_cases h : t < L.term
  · have e : fenceS L t = (L, 106) := by unfold fenceS; rw [if_pos h]
    have HE := Lib.hid e
    clear e
    go_enter Try.func26, Try.ntmps26
    go_wp2
    go_ret
    rw [HE.out]
    exact ⟨rfl, hL, only_refl _ _⟩
  · have e : fenceS L t = ({ L with term := t }, 0) := by unfold fenceS; rw [if_neg h]
    have HE := Lib.hid e
    clear e
    go_enter Try.func26, Try.ntmps26
    go_wp2
    go_ret
    rw [HE.out]
    exact ⟨rfl, hL.set2 t, only_set (only_refl _ _) _ _⟩
end Go.Proofs.Ytffamkodckghgaa
