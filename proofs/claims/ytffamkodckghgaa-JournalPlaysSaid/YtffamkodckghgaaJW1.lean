/- Walks of the functions that only compute: numbers within a range, the checksum, the count of a record's arguments. -/
import Derived.Test.YtffamkodckghgaaRows
import Derived.Test.YtffamkodckghgaaBase
import Derived.Test.YtffamkodckghgaaJMath
import Derived.Test.YtffamkodckghgaaJTypes
import Derived.ProofKit
namespace Go.Proofs.Ytffamkodckghgaa
open Go.RowKit
set_option linter.unusedVariables false
set_option linter.unusedSimpArgs false

def within (x n : Int) : Int := if n < 1 then 0 else x % n
theorem within_small (x n : Int) (h : n < 1) : within x n = 0 := by unfold within; rw [if_pos h]
theorem within_range (x n : Int) (h : 1 ≤ n) : 0 ≤ within x n ∧ within x n < n := by
  unfold within; rw [if_neg (by omega)]; exact ⟨Int.emod_nonneg _ (by omega), Int.emod_lt_of_pos _ (by omega)⟩
theorem tmod_cases {x n : Int} (hn : 1 ≤ n) : x.tmod n = x % n ∨ (x.tmod n = x % n - n ∧ 0 < x % n) := by
  have e := Int.tmod_eq_emod (a := x) (b := n)
  have h1 := Int.emod_nonneg x (show n ≠ 0 by omega)
  by_cases h : 0 ≤ x ∨ n ∣ x
  · rw [if_pos h] at e; left; omega
  · rw [if_neg h] at e
    have h2 : x % n ≠ 0 := fun h0 => h (.inr (Int.dvd_of_emod_eq_zero h0))
    right; omega
theorem tmod_neg {x n : Int} (hn : 1 ≤ n) (h : x.tmod n < 0) : x.tmod n + n = x % n ∧ -n < x.tmod n := by
  have h1 := Int.emod_nonneg x (show n ≠ 0 by omega)
  rcases tmod_cases (x := x) hn with e | ⟨e, h2⟩ <;> omega
theorem tmod_pos {x n : Int} (hn : 1 ≤ n) (h : 0 ≤ x.tmod n) : x.tmod n = x % n := by
  have h1 := Int.emod_lt_of_pos x (show 0 < n by omega)
  rcases tmod_cases (x := x) hn with e | ⟨e, h2⟩ <;> omega

set_option maxHeartbeats 400000 in
theorem within_any (x n : Int) (w : World) (hx : I64 x) (hn : I64 n) :
    Calls Try.prog 12 #[.int .i64 x, .int .i64 n] w fun e w' => e = .returned (.int .i64 (within x n)) ∧ w = w' := by
  obtain ⟨h0, h1⟩ := hx
  obtain ⟨g0, g1⟩ := hn
  go_enter Try.func12, Try.ntmps12
  go_wp2
  · go_ret
    exact ⟨ret_int (within_small _ _ (by assumption)).symm, rfl⟩
  · go_ret
    have hn : 1 ≤ n := by assumption
    have h := tmod_neg hn (by assumption)
    refine ⟨ret_int ?_, rfl⟩
    show wrap64 _ = _
    rw [IntWalk.wrap64_in _ (by omega), h.1]
    unfold within; rw [if_neg (by omega)]
  · go_ret
    have hn : 1 ≤ n := by assumption
    refine ⟨ret_int ?_, rfl⟩
    show Int.tmod _ _ = _
    rw [tmod_pos hn (by assumption)]
    unfold within; rw [if_neg (by omega)]
theorem take_snoc (s : ByteArray) (k : Nat) (h : k < s.size) : s.data.toList.take (k + 1) = s.data.toList.take k ++ [s[k]] := by
  rw [List.take_succ_eq_append_getElem (by simpa using h)]; rfl
theorem take_all (s : ByteArray) : s.data.toList.take s.size = s.data.toList := List.take_of_length_le (by rw [Array.length_toList]; exact Nat.le_refl _)
/-- The checksum of the first k bytes and n bits of the next. -/
def crcPart (s : ByteArray) (k : Nat) : Nat := crc (s.data.toList.take k)
theorem crcPart_lt (s : ByteArray) (k : Nat) : crcPart s k < 4294967296 := crc_lt _
theorem crcPart_succ (s : ByteArray) (k : Nat) (h : k < s.size) : crcPart s (k + 1) = crcBits 8 (crcPart s k ^^^ (s[k].toNat * 16777216)) := by
  unfold crcPart; rw [take_snoc s k h, crc_snoc]; rfl
theorem crc_in (s : ByteArray) (k : Nat) (c : UInt8) : bits .xor .u32 (crcPart s k : Int) ((c.toNat : Int) % 4294967296 * 16777216 % 4294967296) = ((crcPart s k ^^^ (c.toNat * 16777216) : Nat) : Int) := by
  have hc := c.toNat_lt
  have e : (c.toNat : Int) % 4294967296 * 16777216 % 4294967296 = ((c.toNat * 16777216 : Nat) : Int) := by
    have := byte_top c
    omega
  rw [e]
  exact u32_xor_nat _ _ (crcPart_lt s k) (byte_top c)
theorem crc_hit (x : Nat) (h : ((x : Int) / 2147483648 == 1) = true) : bits .xor .u32 ((x : Int) * 2 % 4294967296) 517762881 = (crcBit x : Int) := by
  have h' : x / 2147483648 = 1 := by have := eq_of_beq h; omega
  have e : (x : Int) * 2 % 4294967296 = ((x * 2 % 4294967296 : Nat) : Int) := by omega
  rw [e, show (517762881 : Int) = ((517762881 : Nat) : Int) from rfl, u32_xor_nat _ _ (by omega) (by omega)]
  unfold crcBit; rw [if_pos h']
theorem crc_miss (x : Nat) (h : ((x : Int) / 2147483648 == 1) = false) : (x : Int) * 2 % 4294967296 = (crcBit x : Int) := by
  have h' : ¬ x / 2147483648 = 1 := by
    intro e
    have : (x : Int) / 2147483648 = 1 := by omega
    rw [this] at h
    cases h
  unfold crcBit; rw [if_neg h']; omega
theorem xor_top_lt (s : ByteArray) (k : Nat) (c : UInt8) : crcPart s k ^^^ (c.toNat * 16777216) < 4294967296 := Nat.xor_lt_two_pow (n := 32) (crcPart_lt s k) (byte_top c)

set_option maxHeartbeats 800000 in
theorem sum_any (s : ByteArray) (w : World) (hs : s.size ≤ maxLen) :
    Calls Try.prog 36 #[.string s] w fun e w' => e = .returned (.int .u32 (crc s.data.toList : Nat)) ∧ w = w' := by
  unfold maxLen at hs
  go_enter Try.func36, Try.ntmps36
  go_wp2
  go_loop [3, 8] (fun r k => ∃ j : Nat, j ≤ s.size ∧ k = .int .i64 j ∧ r = .int .u32 (crcPart s j : Nat)) (fun r k => s.size - (intOf k).toNat)
  case atStart => exact ⟨0, Nat.zero_le _, rfl, rfl⟩
  case round =>
    obtain ⟨j, hj, rfl, rfl⟩ := hrel
    by_cases hlt : j < s.size
    · go_wp2
      go_loop [3, 18] (fun r k => ∃ i : Nat, i ≤ 8 ∧ k = .int .i64 i ∧ r = .int .u32 (crcBits i (crcPart s j ^^^ (s[j].toNat * 16777216)) : Nat)) (fun r k => 8 - (intOf k).toNat)
      case atStart => exact ⟨0, by omega, rfl, by rw [crc_in]; rfl⟩
      case round =>
        obtain ⟨i, hi, rfl, rfl⟩ := hrel
        have hb := crcBits_lt i _ (xor_top_lt s j s[j])
        have hsucc := Lib.hid (crcBits_succ i (crcPart s j ^^^ (s[j].toNat * 16777216)))
        obtain ⟨x, hx⟩ : ∃ x, x = crcBits i (crcPart s j ^^^ (s[j].toNat * 16777216)) := ⟨_, rfl⟩
        have HX := Lib.hid hx
        rw [← hx] at hb
        by_cases hi8 : i < 8
        · rw [← hx]
          clear hx
          go_wp2
          · go_round
            case rel => exact ⟨i + 1, by omega, by go_num, by rw [crc_hit x (by assumption), hsucc.out, HX.out]⟩
            case measure => simp [intOf]; omega
          · go_round
            case rel => exact ⟨i + 1, by omega, by go_num, by rw [crc_miss x (by assumption), hsucc.out, HX.out]⟩
            case measure => simp [intOf]; omega
        · obtain rfl : i = 8 := by omega
          rw [← hx]
          clear hx
          have hp := Lib.hid (crcPart_succ s j hlt)
          go_wp2
          go_round
          case rel => exact ⟨j + 1, by omega, by go_num, by rw [hp.out, HX.out]⟩
          case measure => simp [intOf]; omega
    · obtain rfl : j = s.size := by omega
      go_wp2
      go_ret
      exact ⟨ret_int (by unfold crcPart; rw [take_all]), rfl⟩

set_option maxHeartbeats 800000 in
theorem big_any (n size : Nat) (w : World) (hn : n ≤ 18446744073709551615) (hs : size ≤ 8) :
    Calls Try.prog 37 #[.int .u64 n, .int .i64 size] w fun e w' => e = .returned (.string ⟨(beTo n size size).toArray⟩) ∧ Below w.heap.size w w' := by
  go_enter Try.func37, Try.ntmps37
  go_wp2
  go_loopw [5, 6] (fun v i wr => ∃ k : Nat, k ≤ size ∧ i = .int .i64 ((size : Int) - 1 - k) ∧ wr.ownsRow w.heap.size 5 1 v k (bys (beTo n size k)) ∧ Below w.heap.size w wr) (fun _ i _ => (intOf i + 1).toNat)
  case atStart => exact ⟨0, Nat.zero_le _, by go_num, World.ownsRow_nil _ _ _ _, Below.refl _ _⟩
  case round =>
    obtain ⟨k, hk, rfl, hown, hb⟩ := hrel
    have hsz := hb.size
    by_cases hlt : k < size
    · have h0 : decide ((0 : Int) ≤ (size : Int) - 1 - k) = true := by simp; omega
      go_wp2_with (at_builtin; refine app_u8 (.tmp 13) (.tmp 20) rfl rfl _ _ _ _ (by rfl) hown (by rfl) rfl (by omega) hsz ?_; intro v' w1 hown' hg hat)
      go_roundw
      case rel => exact ⟨k + 1, by omega, by go_num, by rw [beTo_succ, bys_snoc, ← byte_of]; exact hown', (hb.grown hg hsz (fun b h => (hown.lt b h).1))⟩
      case measure => simp [intOf]; omega
    · obtain rfl : k = size := by omega
      have h0 : decide ((0 : Int) ≤ (k : Int) - 1 - k) = false := by simp; omega
      have hcv := conv_bytes (ByS.own (R := Bl wr.heap.size) hown (fun b h => (hown.lt b h).2))
      go_wp2
      go_ret
      exact ⟨rfl, hb⟩
set_option maxHeartbeats 800000 in
theorem refsum_any (s : ByteArray) (w : World) (hs : s.size ≤ maxLen) :
    Calls Try.prog 43 #[.string s] w fun e w' => e = .returned (.int .u32 (crc s.data.toList : Nat)) ∧ w = w' := by
  unfold maxLen at hs
  go_enter Try.func43, Try.ntmps43
  go_wp2
  go_loop [3, 4] (fun r k => ∃ j : Nat, j ≤ s.size ∧ k = .int .i64 j ∧ r = .int .u32 (crcPart s j : Nat)) (fun r k => s.size - (intOf k).toNat)
  case atStart => exact ⟨0, Nat.zero_le _, rfl, rfl⟩
  case round =>
    obtain ⟨j, hj, rfl, rfl⟩ := hrel
    by_cases hlt : j < s.size
    · go_wp2
      go_loop [3, 5] (fun r k => ∃ i : Nat, i ≤ 8 ∧ k = .int .i64 i ∧ r = .int .u32 (crcBits i (crcPart s j ^^^ (s[j].toNat * 16777216)) : Nat)) (fun r k => 8 - (intOf k).toNat)
      case atStart => exact ⟨0, by omega, rfl, by rw [crc_in]; rfl⟩
      case round =>
        obtain ⟨i, hi, rfl, rfl⟩ := hrel
        have hb := crcBits_lt i _ (xor_top_lt s j s[j])
        have hsucc := Lib.hid (crcBits_succ i (crcPart s j ^^^ (s[j].toNat * 16777216)))
        obtain ⟨x, hx⟩ : ∃ x, x = crcBits i (crcPart s j ^^^ (s[j].toNat * 16777216)) := ⟨_, rfl⟩
        have HX := Lib.hid hx
        rw [← hx] at hb
        by_cases hi8 : i < 8
        · rw [← hx]
          clear hx
          go_wp2
          · go_round
            case rel => exact ⟨i + 1, by omega, by go_num, by rw [crc_hit x (by assumption), hsucc.out, HX.out]⟩
            case measure => simp [intOf]; omega
          · go_round
            case rel => exact ⟨i + 1, by omega, by go_num, by rw [crc_miss x (by assumption), hsucc.out, HX.out]⟩
            case measure => simp [intOf]; omega
        · obtain rfl : i = 8 := by omega
          rw [← hx]
          clear hx
          have hp := Lib.hid (crcPart_succ s j hlt)
          go_wp2
          go_round
          case rel => exact ⟨j + 1, by omega, by go_num, by rw [hp.out, HX.out]⟩
          case measure => simp [intOf]; omega
    · obtain rfl : j = s.size := by omega
      go_wp2
      go_ret
      exact ⟨ret_int (by unfold crcPart; rw [take_all]), rfl⟩


set_option maxHeartbeats 800000 in
theorem count_any (k : Int) (w : World) (hk : I64 k) :
    Calls Try.prog 13 #[.int .i64 k] w fun e w' => e = .returned (.int .i64 (cnt k)) ∧ w = w' := by
  obtain ⟨h0, h1⟩ := hk
  go_enter Try.func13, Try.ntmps13
  go_wp2
  all_goals
    go_ret
    refine ⟨ret_int ?_, rfl⟩
    simp only [beq_iff_eq, beq_eq_false_iff_ne] at *
    first
      | (subst_vars; rfl)
      | (unfold cnt; rw [if_pos (by omega)])

theorem cnt_in (k : Int) (h1 : 1 ≤ k) (h2 : k < 15) (L : List Value) (hL : L = cntTab.map (Value.int .i64)) (hl : k.toNat < L.length) : L[k.toNat]'hl = .int .i64 (cnt k) := by
  subst hL
  obtain ⟨n, rfl⟩ := Int.eq_ofNat_of_zero_le (show 0 ≤ k by omega)
  have hn : n < cntTab.length := by show n < 15; omega
  have e : cnt (n : Int) = cntTab.getD n 0 := by unfold cnt; rw [if_neg (by omega)]; rfl
  rw [e, List.getElem_map]
  simp [List.getD, List.getElem?_eq_getElem hn]

set_option maxHeartbeats 800000 in
theorem counts_any (k : Int) (w : World) (hk : I64 k) :
    Calls Try.prog 39 #[.int .i64 k] w fun e w' => e = .returned (.int .i64 (cnt k)) ∧ Below w.heap.size w w' := by
  obtain ⟨h0, h1⟩ := hk
  by_cases hk1 : k < 1
  · go_enter Try.func39, Try.ntmps39
    go_wp2
    go_ret
    exact ⟨ret_int (by unfold cnt; rw [if_pos (by omega)]), (Below.refl _ _).alloc (Nat.le_refl _) _⟩
  · by_cases hk2 : 15 ≤ k
    · go_enter Try.func39, Try.ntmps39
      go_wp2
      go_ret
      exact ⟨ret_int (by unfold cnt; rw [if_pos (by omega)]), (Below.refl _ _).alloc (Nat.le_refl _) _⟩
    · go_enter Try.func39, Try.ntmps39
      go_wp2
      go_ret
      refine ⟨congrArg _ ?_, (Below.refl _ _).alloc (Nat.le_refl _) _⟩
      exact cnt_in k (by omega) (by omega) _ rfl _

set_option maxHeartbeats 800000 in
theorem number_any (s : ByteArray) (w : World) (hs : s.size ≤ 7) :
    Calls Try.prog 44 #[.string s] w fun e w' => e = .returned (.int .i64 (num s.data.toList : Nat)) ∧ w = w' := by
  go_enter Try.func44, Try.ntmps44
  go_wp2
  go_loop [3, 4] (fun r k => ∃ j : Nat, j ≤ s.size ∧ k = .int .i64 j ∧ r = .int .i64 (num (s.data.toList.take j) : Nat)) (fun r k => s.size - (intOf k).toNat)
  case atStart => exact ⟨0, Nat.zero_le _, rfl, rfl⟩
  case round =>
    obtain ⟨j, hj, rfl, rfl⟩ := hrel
    by_cases hjs : j < s.size
    · have hl : (s.data.toList.take j).length ≤ 6 := by
        have : (s.data.toList.take j).length ≤ j := List.length_take_le _ _
        omega
      have hlt := num_lt (s.data.toList.take j)
      have hsn : num (s.data.toList.take (j + 1)) = num (s.data.toList.take j) * 256 + s[j].toNat := by rw [take_snoc s j hjs, num_snoc]
      generalize num (s.data.toList.take j) = n at *
      have hn : n < 36028797018963968 := by
        refine Nat.lt_of_lt_of_le hlt ?_
        calc 256 ^ (s.data.toList.take j).length ≤ 256 ^ 6 := Nat.pow_le_pow_right (by omega) (by omega)
          _ ≤ _ := by decide
      have Hsn := Lib.hid hsn
      clear hsn hlt
      have ho := num_or n s[j] hn
      have hc : s[j].toNat < 256 := s[j].toNat_lt
      go_wp2
      go_round
      case rel => exact ⟨j + 1, by omega, by go_num, by rw [Hsn.out]; go_num⟩
      case measure => simp [intOf]; omega
    · obtain rfl : j = s.size := by omega
      go_wp2
      go_ret
      exact ⟨ret_int (by rw [take_all]), rfl⟩
end Go.Proofs.Ytffamkodckghgaa

