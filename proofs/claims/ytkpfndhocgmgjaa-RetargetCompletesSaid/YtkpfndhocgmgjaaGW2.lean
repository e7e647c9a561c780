/- The factors of a row, walked. -/
import Derived.Test.YtkpfndhocgmgjaaGM
namespace Go.Proofs.Ytkpfndhocgmgjaa
open Go.RowKit
set_option linter.unusedVariables false
set_option linter.unusedSimpArgs false
theorem coef_arg (j i : Nat) (hj : j < 64) (hi : i < 64) : bits .xor .u8 (128 + (j : Int)) (i : Int) = ((UInt8.ofNat (128 + j) ^^^ UInt8.ofNat i).toNat : Int) := by
  have h := xor_int (UInt8.ofNat (128 + j)) (UInt8.ofNat i)
  have h1 : (((UInt8.ofNat (128 + j)).toNat : Nat) : Int) = 128 + (j : Int) := by rw [UInt8.toNat_ofNat']; omega
  have h2 : (((UInt8.ofNat i).toNat : Nat) : Int) = (i : Int) := by rw [UInt8.toNat_ofNat']; omega
  rw [h1, h2] at h
  exact h
set_option maxHeartbeats 800000 in
theorem coefficient_any (j i : Nat) (w : World) (hj : j < 64) (hi : i < 64) :
    Calls Try.prog 33 #[.int .i64 (j : Int), .int .i64 (i : Int)] w fun e w' => e = .returned (.int .u8 ((coef j i).toNat : Int)) ∧ w = w' := by
  obtain ⟨c, hc⟩ : ∃ c, c = UInt8.ofNat (128 + j) ^^^ UInt8.ofNat i := ⟨_, rfl⟩
  have hx := coef_arg j i hj hi
  have hcf : coef j i = ginv c := by rw [hc]; rfl
  rw [← hc] at hx
  rw [hcf]
  have HX := Lib.hid hx
  clear hc hx hcf
  go_enter Try.func33, Try.ntmps33
  go_wp2_with fail
  rw [HX.out]
  refine (inv_any c _).mono ?_
  rintro e w' ⟨rfl, rfl⟩
  go_wp2
  go_ret
  exact ⟨rfl, rfl⟩
set_option maxHeartbeats 800000 in
theorem refcoefficient_any (j i : Nat) (w : World) (hj : j < 64) (hi : i < 64) :
    Calls Try.prog 27 #[.int .i64 (j : Int), .int .i64 (i : Int)] w fun e w' => e = .returned (.int .u8 ((coef j i).toNat : Int)) ∧ w = w' := by
  obtain ⟨c, hc⟩ : ∃ c, c = UInt8.ofNat (128 + j) ^^^ UInt8.ofNat i := ⟨_, rfl⟩
  have hx := coef_arg j i hj hi
  have hcf : coef j i = ginv c := by rw [hc]; rfl
  rw [← hc] at hx
  rw [hcf]
  have HX := Lib.hid hx
  clear hc hx hcf
  go_enter Try.func27, Try.ntmps27
  go_wp2_with fail
  rw [HX.out]
  refine (refinv_any c _).mono ?_
  rintro e w' ⟨rfl, rfl⟩
  go_wp2
  go_ret
  exact ⟨rfl, rfl⟩
/-- The factors of a row as a list that is filled: the first j of them. -/
def coefP (k a j : Nat) : List UInt8 := (List.range k).map fun i => if i < j then (coefR k a).getD i 0 else 0
theorem coefP_zero (k a : Nat) : coefP k a 0 = List.replicate k 0 := by
  apply List.ext_getElem
  · simp [coefP]
  · intro i h1 h2; simp [coefP]
theorem coefP_all (k a : Nat) : coefP k a k = coefR k a := by
  apply List.ext_getElem
  · simp [coefP, coefR]
  · intro i h1 h2
    have h3 : i < k := by simpa [coefP] using h1
    simp only [coefP, List.getElem_map, List.getElem_range, if_pos h3]
    exact getD_lt _ _ h2
theorem coefP_step (k a j : Nat) (hj : j < k) : (coefP k a j).set j ((coefR k a).getD j 0) = coefP k a (j + 1) := by
  apply List.ext_getElem
  · simp [coefP]
  · intro i h1 h2
    rw [List.getElem_set]
    simp only [coefP, List.getElem_map, List.getElem_range]
    by_cases e : j = i
    · subst e; rw [if_pos rfl, if_pos (by omega)]
    · rw [if_neg e]
      by_cases h3 : i < j
      · rw [if_pos h3, if_pos (by omega)]
      · rw [if_neg h3, if_neg (by omega)]
theorem coefP_length (k a j : Nat) : (coefP k a j).length = k := by simp [coefP]
/-- Where the row is one of the data. -/
theorem coef_unit (k a : Nat) (h : a < k) : (List.replicate k (0 : UInt8)).set a 1 = coefR k a := by
  apply List.ext_getElem
  · simp [coefR]
  · intro i h1 h2
    rw [List.getElem_set]
    simp only [coefR, List.getElem_map, List.getElem_range, List.getElem_replicate, if_pos h]
    by_cases e : a = i
    · rw [if_pos e, if_pos e.symm]
    · rw [if_neg e, if_neg (fun h => e h.symm)]
set_option maxHeartbeats 400000 in
theorem coefficients_any (k a : Nat) (w : World) (hk : k < 64) (ha : a < k + 64) :
    Calls Try.prog 29 #[.int .i64 (k : Int), .int .i64 (a : Int)] w fun e w' => ∃ v, e = .returned v ∧ ByS w' (Fr w.heap.size w'.heap.size) v (coefR k a) ∧ Below w.heap.size w w' := by
  have hmk := mk_u8 k (by omega)
  have hB := BlkB.new w k
  have hb1 : Below w.heap.size w (w.alloc (.cells (Array.replicate k (.int .u8 0)) 5)) := (Below.refl _ _).alloc (Nat.le_refl _) _
  by_cases hak : a < k
  · go_enter Try.func29, Try.ntmps29
    go_upto_if 11 with fail
    obtain ⟨g, hg⟩ : ∃ g, g = w.heap.size := ⟨_, rfl⟩
    rw [← hg] at hB ⊢
    have hgw : w.heap.size ≤ g := by omega
    generalize w.alloc (.cells (Array.replicate k (.int .u8 0)) 5) = w1 at *
    have c0 := hB.cell (j := a) (by simpa using hak)
    have f0 := hB.free a
    clear hg hmk
    go_wp2
    go_ret
    have hB2 := hB.set a 1
    rw [coef_unit k a hak] at hB2
    have hby := hB2.byS (c := k) (by rw [coefR_length]; exact Nat.le_refl _) (by rw [coefR_length]; unfold maxLen; omega) (R := Fr w.heap.size _) ⟨hgw, hB2.lt⟩
    rw [coefR_length] at hby
    exact ⟨_, rfl, hby, hb1.setCell hgw _⟩
  · go_enter Try.func29, Try.ntmps29
    go_upto_if 11 with fail
    obtain ⟨g, hg⟩ : ∃ g, g = w.heap.size := ⟨_, rfl⟩
    rw [← hg] at hB ⊢
    have hgw : w.heap.size ≤ g := by omega
    generalize w.alloc (.cells (Array.replicate k (.int .u8 0)) 5) = w1 at *
    obtain ⟨d, hd⟩ : ∃ d, a = k + d := ⟨a - k, by omega⟩
    subst hd
    clear hg hak hmk
    go_wp2
    go_loopg [18] k (fun n v18 wr => ∃ j : Nat, j ≤ k ∧ n = k - j ∧ v18 = .int .i64 (j : Int) ∧ BlkB wr g (coefP k (k + d) j) ∧ Below w.heap.size w wr)
    case atStart => exact ⟨0, by omega, rfl, rfl, by rw [coefP_zero]; exact hB, hb1⟩
    case round =>
      clear hB hb1
      obtain ⟨j, hj, rfl, rfl, hB, hb⟩ := hrel
      by_cases hlt : j < k
      · have c0 := hB.cellD (j := j) (by rw [coefP_length]; exact hlt)
        have f0 := hB.free j
        have hc : (coefR k (k + d)).getD j 0 = coef d j := by rw [coefR_getD _ _ _ hlt, if_neg (by omega), Nat.add_sub_cancel_left]
        have HC := Lib.hid hc
        have e1 : (k : Int) + (d : Int) - (k : Int) = (d : Int) := by omega
        clear hc
        go_wp2_with fail
        refine (coefficient_any d j _ (by omega) (by omega)).mono ?_
        rintro e w' ⟨rfl, rfl⟩
        go_wp2
        go_roundg (k - (j + 1))
        case measure => omega
        case rel =>
          have hB2 := hB.set j (coef d j)
          rw [← HC.out, coefP_step _ _ _ hlt] at hB2
          exact ⟨j + 1, by omega, rfl, by go_num, by rw [← HC.out]; exact hB2, hb.setCell hgw _⟩
      · obtain rfl : j = k := by omega
        go_wp2
        go_ret
        rw [coefP_all] at hB
        have hby := hB.byS (c := j) (by rw [coefR_length]; exact Nat.le_refl _) (by rw [coefR_length]; unfold maxLen; omega) (R := Fr w.heap.size _) ⟨hgw, hB.lt⟩
        rw [coefR_length] at hby
        exact ⟨_, rfl, hby, hb⟩
theorem coefP_skip (k a j : Nat) (hj : j < k) (h : (coefR k a).getD j 0 = 0) : coefP k a (j + 1) = coefP k a j := by
  rw [← coefP_step k a j hj, h]
  apply List.ext_getElem
  · simp [coefP]
  · intro i h1 h2
    rw [List.getElem_set]
    by_cases e : j = i
    · subst e; rw [if_pos rfl]; simp [coefP]
    · rw [if_neg e]
set_option maxHeartbeats 800000 in
theorem factors_any (k a : Nat) (w : World) (hk : k < 64) (ha : a < k + 64) :
    Calls Try.prog 20 #[.int .i64 (k : Int), .int .i64 (a : Int)] w fun e w' => ∃ v, e = .returned v ∧ ByS w' (Fr w.heap.size w'.heap.size) v (coefR k a) ∧ Below w.heap.size w w' := by
  have hmk := mk_u8 k (by omega)
  have hB := BlkB.new w k
  have hb1 : Below w.heap.size w (w.alloc (.cells (Array.replicate k (.int .u8 0)) 5)) := (Below.refl _ _).alloc (Nat.le_refl _) _
  go_enter Try.func20, Try.ntmps20
  go_wp2
  obtain ⟨g, hg⟩ : ∃ g, g = w.heap.size := ⟨_, rfl⟩
  rw [← hg] at hB ⊢
  have hgw : w.heap.size ≤ g := by omega
  generalize w.alloc (.cells (Array.replicate k (.int .u8 0)) 5) = w1 at *
  clear hg hmk
  go_loopg [6] k (fun n v6 wr => ∃ j : Nat, j ≤ k ∧ n = k - j ∧ v6 = .int .i64 (j : Int) ∧ BlkB wr g (coefP k a j) ∧ Below w.heap.size w wr)
  case atStart => exact ⟨0, by omega, rfl, rfl, by rw [coefP_zero]; exact hB, hb1⟩
  case round =>
    clear hB hb1
    obtain ⟨j, hj, rfl, rfl, hB, hb⟩ := hrel
    by_cases hlt : j < k
    · have c0 := hB.cellD (j := j) (by rw [coefP_length]; exact hlt)
      have f0 := hB.free j
      by_cases hak : k ≤ a
      · obtain ⟨d, hd⟩ : ∃ d, a = k + d := ⟨a - k, by omega⟩
        subst hd
        have hc : (coefR k (k + d)).getD j 0 = coef d j := by rw [coefR_getD _ _ _ hlt, if_neg (by omega), Nat.add_sub_cancel_left]
        have HC := Lib.hid hc
        have e1 : (k : Int) + (d : Int) - (k : Int) = (d : Int) := by omega
        clear hc
        go_wp2_with fail
        refine (refcoefficient_any d j _ (by omega) (by omega)).mono ?_
        rintro e w' ⟨rfl, rfl⟩
        go_wp2
        go_roundg (k - (j + 1))
        case measure => omega
        case rel =>
          have hB2 := hB.set j (coef d j)
          rw [← HC.out, coefP_step _ _ _ hlt] at hB2
          exact ⟨j + 1, by omega, rfl, by go_num, by rw [← HC.out]; exact hB2, hb.setCell hgw _⟩
      · by_cases hja : j = a
        · have hc : (coefR k a).getD j 0 = 1 := by rw [coefR_getD _ _ _ hlt, if_pos (by omega), if_pos hja]
          have HC := Lib.hid hc
          have e1 : ((j : Int) == (a : Int)) = true := by simp [hja]
          clear hc hja
          go_wp2
          go_roundg (k - (j + 1))
          case measure => omega
          case rel =>
            have hB2 := hB.set j 1
            have hs := coefP_step k a j hlt
            rw [HC.out] at hs
            rw [hs] at hB2
            exact ⟨j + 1, by omega, rfl, by go_num, hB2, hb.setCell hgw _⟩
        · have hc : (coefR k a).getD j 0 = 0 := by rw [coefR_getD _ _ _ hlt, if_pos (by omega), if_neg hja]
          have HC := Lib.hid hc
          have e1 : ((j : Int) == (a : Int)) = false := by simp; omega
          clear hc
          go_wp2
          go_roundg (k - (j + 1))
          case measure => omega
          case rel => exact ⟨j + 1, by omega, rfl, by go_num, by rw [coefP_skip _ _ _ hlt HC.out]; exact hB, hb⟩
    · obtain rfl : j = k := by omega
      go_wp2
      go_ret
      rw [coefP_all] at hB
      have hby := hB.byS (c := j) (by rw [coefR_length]; exact Nat.le_refl _) (by rw [coefR_length]; unfold maxLen; omega) (R := Fr w.heap.size _) ⟨hgw, hB.lt⟩
      rw [coefR_length] at hby
      exact ⟨_, rfl, hby, hb⟩
end Go.Proofs.Ytkpfndhocgmgjaa
