/- Numbers within a range, and the tape of numbers, walked. -/
import Derived.Test.YtkpfndhocgmgjaaBase
import Derived.Test.YtkpfndhocgmgjaaRows
import Derived.ProofKit
import Derived.Deep.LoopGhost
namespace Go.Proofs.Ytkpfndhocgmgjaa
open Go.RowKit
set_option linter.unusedVariables false
set_option linter.unusedSimpArgs false
def within (x n : Int) : Int := if n < 1 then 0 else x % n
theorem within_small (x n : Int) (h : n < 1) : within x n = 0 := by unfold within; rw [if_pos h]
theorem within_range (x n : Int) (h : 1 ≤ n) : 0 ≤ within x n ∧ within x n < n := by
  unfold within; rw [if_neg (by omega)]; exact ⟨Int.emod_nonneg _ (by omega), Int.emod_lt_of_pos _ (by omega)⟩
theorem tmod_cases {x n : Int} (hn : 1 ≤ n) : x.tmod n = x % n ∨ (x.tmod n = x % n - n ∧ 0 < x % n) := by
  have e := Int.tmod_eq_emod (a := x) (b := n)
  have h1 := Int.emod_nonneg x (show n ≠ 0 by omega)
  by_cases h : 0 ≤ x ∨ n ∣ x
  · rw [if_pos h] at e; left; omega
  · rw [if_neg h] at e
    have h2 : x % n ≠ 0 := fun h0 => h (.inr (Int.dvd_of_emod_eq_zero h0))
    right; omega
theorem tmod_neg {x n : Int} (hn : 1 ≤ n) (h : x.tmod n < 0) : x.tmod n + n = x % n ∧ -n < x.tmod n := by
  have h1 := Int.emod_nonneg x (show n ≠ 0 by omega)
  rcases tmod_cases (x := x) hn with e | ⟨e, h2⟩ <;> omega
theorem tmod_pos {x n : Int} (hn : 1 ≤ n) (h : 0 ≤ x.tmod n) : x.tmod n = x % n := by
  have h1 := Int.emod_lt_of_pos x (show 0 < n by omega)
  rcases tmod_cases (x := x) hn with e | ⟨e, h2⟩ <;> omega

set_option maxHeartbeats 400000 in
theorem within_any (x n : Int) (w : World) (hx : I64 x) (hn : I64 n) :
    Calls Try.prog 8 #[.int .i64 x, .int .i64 n] w fun e w' => e = .returned (.int .i64 (within x n)) ∧ w = w' := by
  obtain ⟨h0, h1⟩ := hx
  obtain ⟨g0, g1⟩ := hn
  go_enter Try.func8, Try.ntmps8
  go_wp2
  · go_ret
    exact ⟨ret_int (within_small _ _ (by assumption)).symm, rfl⟩
  · go_ret
    have hn : 1 ≤ n := by assumption
    have h := tmod_neg hn (by assumption)
    refine ⟨ret_int ?_, rfl⟩
    show wrap64 _ = _
    rw [IntWalk.wrap64_in _ (by omega), h.1]
    unfold within; rw [if_neg (by omega)]
  · go_ret
    have hn : 1 ≤ n := by assumption
    refine ⟨ret_int ?_, rfl⟩
    show Int.tmod _ _ = _
    rw [tmod_pos hn (by assumption)]
    unfold within; rw [if_neg (by omega)]

def TapeB (W : World) (g : Nat) (vl : Value) (I : Nat) : Prop := W.heap[g]? = some (.cells #[vl, .int .i64 (I : Int)] 33 (0, 0))
theorem TapeB.cells {W : World} {g : Nat} {vl : Value} {I : Nat} (h : TapeB W g vl I) : W.cell? ⟨g, 0, none⟩ = some vl ∧ W.cell? ⟨g, 1, none⟩ = some (.int .i64 (I : Int)) ∧ W.frozen? ⟨g, 1, none⟩ = false ∧ g < W.heap.size := by
  have h0 := cell_of_row W g 0 _ _ _ h
  have h1 := cell_of_row W g 1 _ _ _ h
  exact ⟨by simpa using h0, by simpa using h1, frozen_of_row W g 1 _ _ h, block_lt_of_cell h0⟩
def tapeX (xs : List Int) (I : Nat) : Int := if h : I < xs.length then xs[I] else ((I : Int) % 3)
theorem only_set2 {a w : World} {g : Nat} (h : a.grownBy w (some g)) (i : Nat) (u : Value) : a.grownBy (w.setCell ⟨g, i, none⟩ u) (some g) :=
  ⟨h.os, h.tape, h.output, by simpa [World.setCell] using h.size, fun k hk hne => (Below.heap_setCell w _ u k (fun e => hne (by rw [e]))).trans (h.block k hk hne)⟩
theorem only_drew2 {a w : World} {g : Nat} (h : a.grownBy w (some g)) (n : Nat) : a.grownBy (w.drewN n) (some g) := ⟨h.os, h.tape, h.output, h.size, h.block⟩
theorem only_refl2 (w : World) (g : Nat) : w.grownBy w (some g) := ⟨rfl, rfl, rfl, Nat.le_refl _, fun _ _ _ => rfl⟩
set_option maxRecDepth 100000 in
set_option maxHeartbeats 800000 in
theorem next_any (g : Nat) (vl : Value) (xs : List Int) (I : Nat) (n : Int) (w : World) (R : Nat → Prop) (hT : TapeB w g vl I) (hx : IntS w R vl xs) (hI : I ≤ 4611686018427387904) (hn : I64 n) :
    Calls Try.prog 11 #[.pointer (some ⟨g, 0, none⟩), .int .i64 n] w fun e w' => e = .returned (.int .i64 (within (tapeX xs I) n)) ∧ TapeB w' g vl (I + 1) ∧ w.grownBy w' (some g) := by
  obtain ⟨c0, c1, f1, hg⟩ := hT.cells
  obtain ⟨g0, g1⟩ := hn
  obtain ⟨A, c, rfl, -, hm⟩ : ∃ A c, vl = .slice A xs.length c ∧ xs.length ≤ c ∧ xs.length ≤ maxLen := by
    obtain ⟨⟨A', c', e, h1, h2, h3⟩, h4⟩ := hx
    exact ⟨A', c', e, h1, h2⟩
  unfold maxLen at hm
  have hT2 := heap_setCell_same w g 1 _ _ (.int .i64 ((I + 1 : Nat) : Int)) hT
  have e1 : (((I + 1 : Nat) : Int)) = (I : Int) + 1 := by omega
  rw [e1] at hT2
  have HT2 := Lib.hid hT2
  have i0 : (0 : Int) ≤ (I : Int) := by omega
  by_cases hlt : I < xs.length
  · have hx0 : tapeX xs I = xs[I] := dif_pos hlt
    obtain ⟨b, off, hA, hc, h64⟩ : ∃ b off, A = some ⟨b, off, none⟩ ∧ w.cell? ⟨b, off + I, none⟩ = some (.int .i64 xs[I]) ∧ I64 xs[I] := by
      obtain ⟨⟨A', c', e, _, _, h3⟩, h4⟩ := hx
      obtain ⟨b, off, e2, hb, hc⟩ := h3 (by omega)
      injection e with e
      exact ⟨b, off, e.trans e2, hc I _ (List.getElem?_eq_getElem hlt), h4 _ (List.getElem_mem hlt)⟩
    subst hA
    rw [hx0]
    obtain ⟨x, hxx⟩ : ∃ x, x = xs[I] := ⟨_, rfl⟩
    rw [← hxx] at hc h64 ⊢
    obtain ⟨h0, h1⟩ := h64
    have il : (I : Int) < (xs.length : Int) := by omega
    clear hx0 hxx hT hx e1 hT2
    go_enter Try.func11, Try.ntmps11
    go_wp2_with fail
    go_quiet (fail)
    go_wp2_with fail
    go_quiet (fail)
    go_wp2
    · go_ret
      exact ⟨ret_int (within_small _ _ (by assumption)).symm, HT2.out, only_set2 (only_drew2 (only_refl2 w g) _) 1 _⟩
    · go_ret
      have hn : 1 ≤ n := by assumption
      have h := tmod_neg hn (by assumption)
      refine ⟨ret_int ?_, HT2.out, only_set2 (only_drew2 (only_refl2 w g) _) 1 _⟩
      show wrap64 _ = _
      rw [IntWalk.wrap64_in _ (by omega), h.1]
      unfold within; rw [if_neg (by omega)]
    · go_ret
      have hn : 1 ≤ n := by assumption
      refine ⟨ret_int ?_, HT2.out, only_set2 (only_drew2 (only_refl2 w g) _) 1 _⟩
      show Int.tmod _ _ = _
      rw [tmod_pos hn (by assumption)]
      unfold within; rw [if_neg (by omega)]
  · have hx0 : tapeX xs I = (I : Int) % 3 := dif_neg hlt
    rw [hx0]
    obtain ⟨x, hxx⟩ : ∃ x, x = (I : Int) % 3 := ⟨_, rfl⟩
    rw [← hxx]
    have HXX := Lib.hid hxx
    have il : ¬ (I : Int) < (xs.length : Int) := by omega
    clear hx0 hxx hT hx e1 hT2
    go_enter Try.func11, Try.ntmps11
    go_wp2_with fail
    go_quiet (fail)
    go_wp2
    · go_ret
      exact ⟨ret_int (within_small _ _ (by assumption)).symm, HT2.out, only_set2 (only_drew2 (only_refl2 w g) _) 1 _⟩
    · go_ret
      have hn : 1 ≤ n := by assumption
      refine ⟨ret_int ?_, HT2.out, only_set2 (only_drew2 (only_refl2 w g) _) 1 _⟩
      rw [HXX.out]
      unfold within; rw [if_neg (by omega)]
end Go.Proofs.Ytkpfndhocgmgjaa
