import Derived.Test.YtffamkodckghgaaJW1
import Derived.Deep.RegionHeld3
namespace Go.Proofs.Ytffamkodckghgaa
open Go.RowKit
set_option linter.unusedVariables false
set_option linter.unusedSimpArgs false

set_option maxHeartbeats 800000 in
theorem valid_any (k : Int) (va : Value) (xs : List Int) (w : World) (hk : I64 k) (ha : IntS w (Bl w.heap.size) va xs) :
    Calls Try.prog 16 #[.agg #[.int .i64 k, va]] w fun e w' => e = .returned (.bool (validR ⟨k, xs⟩)) ∧ Below w.heap.size w w' := by
  obtain ⟨⟨A, c, rfl, h1, h2, h3⟩, h4⟩ := ha
  unfold maxLen at h2
  go_enter Try.func16, Try.ntmps16
  go_wp2_with fail
  go_region_held3 (fun w' => w'.cell? ⟨w.heap.size, 0, none⟩ = some (.int .i64 k) ∧ w'.cell? ⟨w.heap.size, 1, none⟩ = some (.slice A xs.length c)) (go_keep)
    (first
      | (go_at_call 39; refine (counts_any _ _ hk).mono ?_; rintro e w2 ⟨rfl, hb2⟩; have e0 := (hb2.cell (p := ⟨w.heap.size, 0, none⟩) (by simp)); have e1 := (hb2.cell (p := ⟨w.heap.size, 1, none⟩) (by simp)); simp at e0 e1))
  have hb : Below w.heap.size w w2 := below_boxd hb2
  go_wp2
  · go_ret
    have hne : (cnt k != (xs.length : Int)) = true := by assumption
    exact ⟨ret_bool (validR_count (by simpa using hne)).symm, hb⟩
  · have he : (cnt k != (xs.length : Int)) = false := by assumption
    go_loop [15] (fun i => ∃ j : Nat, j ≤ xs.length ∧ i = .int .i64 j ∧ ∀ t ∈ xs.take j, okArg t = true) (fun i => xs.length - (intOf i).toNat)
    case atStart => exact ⟨0, Nat.zero_le _, rfl, by simp⟩
    case round =>
      obtain ⟨j, hj, rfl, hok⟩ := hrel
      have HE := Lib.hid he
      have HO := Lib.hid hok
      clear he hok
      by_cases hlt : j < xs.length
      · obtain ⟨b, off, rfl, hbb, hc⟩ := h3 (by omega)
        have hcell := (hb.cell (p := ⟨b, off + j, none⟩) hbb).trans (hc j xs[j] (List.getElem?_eq_getElem hlt))
        have htk := Lib.hid (List.take_succ_eq_append_getElem hlt)
        have hmem : xs[j] ∈ xs := List.getElem_mem hlt
        have HM := Lib.hid hmem
        have hx := h4 _ hmem
        clear hc h3 h4 hmem
        generalize xs[j] = x at *
        go_wp2
        · go_ret
          exact ⟨ret_bool (validR_bad HM.out (okArg_bad (by omega))).symm, hb⟩
        · exact ⟨⟨_, _, _, ⟨j + 1, by omega, by go_num, take_ok HO.out htk.out (okArg_mid (by omega) (by omega))⟩, rfl, rfl, rfl⟩, by simp [intOf]; omega⟩
        · go_ret
          exact ⟨ret_bool (validR_bad HM.out (okArg_bad (by omega))).symm, hb⟩
      · obtain rfl : j = xs.length := by omega
        go_wp2
        go_ret
        have ho := HO.out
        rw [List.take_length] at ho
        exact ⟨ret_bool (validR_good (by simpa using HE.out) ho).symm, hb⟩

set_option maxHeartbeats 800000 in
theorem refvalid_any (k : Int) (va : Value) (xs : List Int) (w : World) (hk : I64 k) (ha : IntS w (Bl w.heap.size) va xs) :
    Calls Try.prog 17 #[.agg #[.int .i64 k, va]] w fun e w' => e = .returned (.bool (validR ⟨k, xs⟩)) ∧ Below w.heap.size w w' := by
  obtain ⟨⟨A, c, rfl, h1, h2, h3⟩, h4⟩ := ha
  unfold maxLen at h2
  have hcr := cnt_range k
  have hb : Below w.heap.size w (w.alloc (.cells #[.int .i64 k, .slice A xs.length c] 24)) := (Below.refl _ _).alloc (Nat.le_refl _) _
  by_cases hn : cnt k = (xs.length : Int)
  · have hn1 : ¬ cnt k < 0 := by omega
    have hn2 : ((xs.length : Int) != cnt k) = false := by simp [hn]
    have HN := Lib.hid hn
    clear hn
    go_enter Try.func17, Try.ntmps17
    go_wp2_with (go_at_call 13; refine (count_any _ _ hk).mono ?_; rintro e w2 ⟨rfl, rfl⟩)
    go_loop [4] (fun i => ∃ j : Nat, j ≤ xs.length ∧ i = .int .i64 j ∧ ∀ t ∈ xs.take j, okArg t = true) (fun i => xs.length - (intOf i).toNat)
    case atStart => exact ⟨0, Nat.zero_le _, rfl, by simp⟩
    case round =>
      obtain ⟨j, hj, rfl, hok⟩ := hrel
      have HO := Lib.hid hok
      clear hok
      by_cases hlt : j < xs.length
      · have hlc : (j : Int) < cnt k := by rw [HN.out]; omega
        obtain ⟨b, off, rfl, hbb, hc⟩ := h3 (by omega)
        have hcell := (hb.cell (p := ⟨b, off + j, none⟩) hbb).trans (hc j xs[j] (List.getElem?_eq_getElem hlt))
        have htk := Lib.hid (List.take_succ_eq_append_getElem hlt)
        have hmem : xs[j] ∈ xs := List.getElem_mem hlt
        have HM := Lib.hid hmem
        have hx := h4 _ hmem
        clear hc h3 h4 hmem
        generalize xs[j] = x at *
        go_wp2
        · go_ret
          exact ⟨ret_bool (validR_bad HM.out (okArg_bad (by omega))).symm, hb⟩
        · go_round
          case rel => exact ⟨j + 1, by omega, by go_num, take_ok HO.out htk.out (okArg_mid (by omega) (by omega))⟩
          case measure => simp [intOf]; omega
        · go_ret
          exact ⟨ret_bool (validR_bad HM.out (okArg_bad (by omega))).symm, hb⟩
      · obtain rfl : j = xs.length := by omega
        have hlc : ¬ ((xs.length : Int) < cnt k) := by rw [HN.out]; omega
        go_wp2
        go_ret
        have ho := HO.out
        rw [List.take_length] at ho
        exact ⟨ret_bool (validR_good HN.out ho).symm, hb⟩
  · have hn2 : ((xs.length : Int) != cnt k) = true := by simp; omega
    have HN := Lib.hid hn
    clear hn
    go_enter Try.func17, Try.ntmps17
    go_wp2_with (go_at_call 13; refine (count_any _ _ hk).mono ?_; rintro e w2 ⟨rfl, rfl⟩)
    all_goals
      go_ret
      exact ⟨ret_bool (validR_count HN.out).symm, hb⟩
end Go.Proofs.Ytffamkodckghgaa

