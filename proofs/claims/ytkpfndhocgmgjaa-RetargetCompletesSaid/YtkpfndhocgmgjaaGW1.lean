/- The field's functions, walked. -/
import Derived.Test.YtkpfndhocgmgjaaRows
import Derived.Test.YtkpfndhocgmgjaaBase
import Derived.ProofKit
import Derived.Test.YtkpfndhocgmgjaaGC
namespace Go.Proofs.Ytkpfndhocgmgjaa
open Go.RowKit
set_option linter.unusedVariables false
set_option linter.unusedSimpArgs false
theorem gm_high (a b : UInt8) (i : Nat) (h : b.toNat / 2 ^ i = 0) : ∀ n, gm (i + n) a b = gm i a b := by
  intro n
  induction n with
  | zero => rfl
  | succ n ih =>
    show gm (i + n) a b ^^^ (if bitU b (i + n) then xtK (i + n) a else 0) = _
    have hb : bitU b (i + n) = false := by
      unfold bitU
      refine Nat.testBit_lt_two_pow ?_
      have h1 : b.toNat < 2 ^ i := by
        rcases Nat.lt_or_ge b.toNat (2 ^ i) with h2 | h2
        · exact h2
        · have := Nat.div_pos h2 (Nat.two_pow_pos i); omega
      exact Nat.lt_of_lt_of_le h1 (Nat.pow_le_pow_right (by omega) (by omega))
    rw [hb, ih]; exact xor_zero _
theorem xt_int (a : UInt8) : bits .xor .u8 ((a.toNat : Int) * 2 % 256) ((a.toNat : Int) / 128 * 29) = ((xt a).toNat : Int) :=
  all8 (P := fun a => bits .xor .u8 ((a.toNat : Int) * 2 % 256) ((a.toNat : Int) / 128 * 29) = ((xt a).toNat : Int)) (by decide +kernel) a
theorem xor_int (a b : UInt8) : bits .xor .u8 (a.toNat : Int) (b.toNat : Int) = ((a ^^^ b).toNat : Int) := by
  rw [u8_xor_nat _ _ a.toNat_lt b.toNat_lt, UInt8.toNat_xor]
theorem bit_of {b : UInt8} {n i : Nat} (h8 : n < 256) (h : b.toNat / 2 ^ i = n) : (bits .and .u8 (n : Int) 1 == 1) = bitU b i := by
  have e := u8_and_nat n 1 h8 (by omega)
  rw [Nat.and_one_is_mod] at e
  have e1 : ((1 : Nat) : Int) = 1 := rfl
  rw [e1] at e
  rw [e]
  unfold bitU
  rw [Nat.testBit_eq_decide_div_mod_eq, h]
  by_cases h2 : n % 2 = 1
  · simp [h2]
  · simp [h2]; omega
theorem byte_lt (a : UInt8) : (a.toNat : Int) < 256 ∧ 0 ≤ (a.toNat : Int) := by have := a.toNat_lt; omega

set_option maxHeartbeats 800000 in
theorem mul_any (a b : UInt8) (w : World) :
    Calls Try.prog 32 #[.int .u8 (a.toNat : Int), .int .u8 (b.toNat : Int)] w fun e w' => e = .returned (.int .u8 ((gmul a b).toNat : Int)) ∧ w = w' := by
  have hb8 := b.toNat_lt
  go_enter Try.func32, Try.ntmps32
  go_wp2
  go_loop [0, 1, 5] (fun v0 v1 v5 => ∃ i : Nat, v0 = .int .u8 ((xtK i a).toNat : Int) ∧ v1 = .int .u8 ((b.toNat / 2 ^ i : Nat) : Int) ∧ v5 = .int .u8 ((gm i a b).toNat : Int)) (fun _ v1 _ => (intOf v1).toNat)
  case atStart => exact ⟨0, rfl, by simp, rfl⟩
  case round =>
    obtain ⟨i, rfl, rfl, rfl⟩ := hrel
    obtain ⟨n, hn⟩ : ∃ n, n = b.toNat / 2 ^ i := ⟨_, rfl⟩
    rw [← hn]
    have hn8 : n ≤ 255 := by
      have := Nat.div_le_self b.toNat (2 ^ i); omega
    have ha8 := byte_lt (xtK i a)
    have hg8 := byte_lt (gm i a b)
    have HN := Lib.hid hn
    clear hn
    by_cases h0 : n = 0
    · subst h0
      go_wp2
      go_ret
      have h := gm_high a b i HN.out.symm (8 - i)
      have h8 : gm i a b = gmul a b := by
        rcases Nat.lt_or_ge i 8 with h1 | h1
        · rw [← h, show i + (8 - i) = 8 from by omega]; rfl
        · have h2 : b.toNat / 2 ^ 8 = 0 := by omega
          have h3 := gm_high a b 8 h2 (i - 8)
          rw [show 8 + (i - 8) = i from by omega] at h3
          exact h3
      rw [h8]
      exact ⟨rfl, rfl⟩
    · have h1 : (0 : Int) < (n : Int) := by omega
      have hd : ((n : Int) / 2) = ((b.toNat / 2 ^ (i + 1) : Nat) : Int) := by
        rw [Nat.pow_succ, ← Nat.div_div_eq_div_mul, ← HN.out]; omega
      have HD := Lib.hid hd
      clear hd
      go_wp2
      · have ht : (bits .and .u8 (n : Int) 1 == 1) = true := by assumption
        have hb : bitU b i = true := (bit_of (by omega) HN.out.symm).symm.trans ht
        refine ⟨⟨i + 1, ?_, ?_, ?_⟩, by simp [intOf]; omega⟩
        · rw [xt_int]; rfl
        · rw [HD.out]
        · rw [xor_int]
          show _ = Value.int .u8 ((gm i a b ^^^ (if bitU b i then xtK i a else 0)).toNat : Int)
          rw [if_pos hb]
      · have ht : (bits .and .u8 (n : Int) 1 == 1) = false := by assumption
        have hb : bitU b i = false := (bit_of (by omega) HN.out.symm).symm.trans ht
        refine ⟨⟨i + 1, ?_, ?_, ?_⟩, by simp [intOf]; omega⟩
        · rw [xt_int]; rfl
        · rw [HD.out]
        · show _ = Value.int .u8 ((gm i a b ^^^ (if bitU b i then xtK i a else 0)).toNat : Int)
          rw [hb]; simp

theorem ofInt_nat (a : Nat) (ha : a < 9223372036854775808) : (BitVec.ofInt 64 (a : Int)).toNat = a := by
  rw [BitVec.ofInt_natCast, BitVec.toNat_ofNat]; exact Nat.mod_eq_of_lt (by omega)
theorem i64_xor_nat' (a b : Nat) (ha : a < 65536) (hb : b < 65536) : bits .xor .i64 (a : Int) (b : Int) = ((a ^^^ b : Nat) : Int) := by
  have hx : a ^^^ b < 2 ^ 16 := Nat.xor_lt_two_pow (by omega) (by omega)
  show IntKind.i64.wrap ((BitVec.ofInt 64 (a : Int) ^^^ BitVec.ofInt 64 (b : Int)).toNat : Int) = _
  rw [BitVec.toNat_xor, ofInt_nat a (by omega), ofInt_nat b (by omega), IntKind.wrap_i64]
  omega
theorem i64_and_one (a : Nat) (ha : a < 9223372036854775808) : bits .and .i64 (a : Int) 1 = ((a % 2 : Nat) : Int) := by
  show IntKind.i64.wrap ((BitVec.ofInt 64 (a : Int) &&& BitVec.ofInt 64 ((1 : Nat) : Int)).toNat : Int) = _
  rw [BitVec.toNat_and, ofInt_nat a ha, ofInt_nat 1 (by omega), IntKind.wrap_i64, Nat.and_one_is_mod]
  omega
theorem pow_step (a : UInt8) (o : UInt8) (n : Nat) (h : n % 2 = 1) : gmul (gmul o a) (gpow (gmul a a) (n / 2)) = gmul o (gpow a n) := by
  rw [gpow_sq, gmul_assoc]
  congr 1
  have e : n = 1 + 2 * (n / 2) := by omega
  have h1 : gpow a 1 = a := one_gmul a
  rw [e, gpow_add, h1, show (1 + 2 * (n / 2)) / 2 = n / 2 from by omega]
theorem pow_skip (a : UInt8) (o : UInt8) (n : Nat) (h : n % 2 = 0) : gmul o (gpow (gmul a a) (n / 2)) = gmul o (gpow a n) := by
  rw [gpow_sq, show 2 * (n / 2) = n from by omega]
set_option maxHeartbeats 800000 in
theorem power_any (a : UInt8) (n : Nat) (w : World) (hn : n ≤ 65536) :
    Calls Try.prog 36 #[.int .u8 (a.toNat : Int), .int .i64 (n : Int)] w fun e w' => e = .returned (.int .u8 ((gpow a n).toNat : Int)) ∧ w = w' := by
  go_enter Try.func36, Try.ntmps36
  go_wp2
  go_loop [0, 1, 5] (fun v0 v1 v5 => ∃ (x o : UInt8) (k : Nat), v0 = .int .u8 (x.toNat : Int) ∧ v1 = .int .i64 (k : Int) ∧ v5 = .int .u8 (o.toNat : Int) ∧ k ≤ n ∧ Hid (gmul o (gpow x k) = gpow a n)) (fun _ v1 _ => (intOf v1).toNat)
  case atStart => exact ⟨a, 1, n, rfl, rfl, rfl, Nat.le_refl _, one_gmul _⟩
  case round =>
    obtain ⟨x, o, k, rfl, rfl, rfl, hk, HI⟩ := hrel
    by_cases h0 : k = 0
    · subst h0
      go_wp2
      go_ret
      have h := HI.out
      rw [show gpow x 0 = 1 from rfl, gmul_one] at h
      rw [h]
      exact ⟨rfl, rfl⟩
    · have h1 : (0 : Int) < (k : Int) := by omega
      go_wp2_with (go_at_call 32; refine (mul_any _ _ _).mono ?_; rintro e w' ⟨rfl, rfl⟩)
      · have ht : (bits .and .i64 (k : Int) 1 == 1) = true := by assumption
        rw [i64_and_one k (by omega)] at ht
        have h2 : k % 2 = 1 := by simp at ht; omega
        exact ⟨⟨_, _, k / 2, rfl, by go_num, rfl, by omega, (pow_step x o k h2).trans HI.out⟩, by simp [intOf]; omega⟩
      · have ht : (bits .and .i64 (k : Int) 1 == 1) = false := by assumption
        rw [i64_and_one k (by omega)] at ht
        have h2 : k % 2 = 0 := by simp at ht; omega
        exact ⟨⟨_, _, k / 2, rfl, by go_num, rfl, by omega, (pow_skip x o k h2).trans HI.out⟩, by simp [intOf]; omega⟩

def invE (a : UInt8) : Int := if a = 0 then 3 else 0
theorem ginv_zero : ginv 0 = 0 := by decide +kernel
set_option maxHeartbeats 800000 in
theorem inv_any (a : UInt8) (w : World) :
    Calls Try.prog 34 #[.int .u8 (a.toNat : Int)] w fun e w' => e = .returned (.tuple #[.int .u8 ((ginv a).toNat : Int), .int .i64 (invE a)]) ∧ w = w' := by
  by_cases h : a = 0
  · subst h
    rw [ginv_zero, show invE 0 = 3 from rfl]
    have h0 : ((UInt8.toNat 0 : Nat) : Int) = 0 := rfl
    rw [h0]
    go_enter Try.func34, Try.ntmps34
    go_wp2
    go_ret2
    exact ⟨rfl, rfl⟩
  · have h0 : ((a.toNat : Int) == 0) = false := by
      rw [beq_eq_false_iff_ne]; intro e; apply h; apply UInt8.toNat_inj.1; rw [show (0 : UInt8).toNat = 0 from rfl]; omega
    have he : invE a = 0 := if_neg h
    rw [he]
    have HP := Lib.hid (fun W' => power_any a 254 W' (by omega))
    clear h he
    go_enter Try.func34, Try.ntmps34
    go_wp2_with fail
    refine (HP.out _).mono ?_
    rintro e w' ⟨rfl, rfl⟩
    go_wp2
    go_ret2
    exact ⟨rfl, rfl⟩

theorem xt_nat (a : UInt8) : (xt a).toNat = if 256 ≤ 2 * a.toNat then (2 * a.toNat) ^^^ 285 else 2 * a.toNat :=
  all8 (P := fun a => (xt a).toNat = if 256 ≤ 2 * a.toNat then (2 * a.toNat) ^^^ 285 else 2 * a.toNat) (by decide +kernel) a
theorem bit_of2 (b : UInt8) (i : Nat) : (bits .and .u8 ((b.toNat : Int) / 2 ^ i) 1 == 1) = bitU b i := by
  have h : ((b.toNat : Int) / 2 ^ i) = ((b.toNat / 2 ^ i : Nat) : Int) := by simp
  rw [h]
  have := b.toNat_lt
  exact bit_of (by have := Nat.div_le_self b.toNat (2 ^ i); omega) rfl
theorem xor_int64 (a b : UInt8) : bits .xor .i64 (a.toNat : Int) (b.toNat : Int) = ((a ^^^ b).toNat : Int) := by
  have ha := a.toNat_lt
  have hb := b.toNat_lt
  rw [i64_xor_nat' _ _ (by omega) (by omega), UInt8.toNat_xor]
theorem xt_hi {a : UInt8} (h : 256 ≤ 2 * (a.toNat : Int)) : bits .xor .i64 (2 * (a.toNat : Int)) 285 = ((xt a).toNat : Int) := by
  have ha := a.toNat_lt
  have e := i64_xor_nat' (2 * a.toNat) 285 (by omega) (by omega)
  rw [xt_nat, if_pos (by omega), ← e]
  simp
theorem xt_lo {a : UInt8} (h : ¬ 256 ≤ 2 * (a.toNat : Int)) : 2 * (a.toNat : Int) = ((xt a).toNat : Int) := by
  rw [xt_nat, if_neg (by omega)]; simp
set_option maxHeartbeats 800000 in
theorem refmul_any (a b : UInt8) (w : World) :
    Calls Try.prog 26 #[.int .u8 (a.toNat : Int), .int .u8 (b.toNat : Int)] w fun e w' => e = .returned (.int .u8 ((gmul a b).toNat : Int)) ∧ w = w' := by
  have hb8 := byte_lt b
  have ha0 := byte_lt a
  go_enter Try.func26, Try.ntmps26
  go_wp2
  go_loop [5, 6, 7] (fun v5 v6 v7 => ∃ i : Nat, i ≤ 8 ∧ v5 = .int .i64 ((gm i a b).toNat : Int) ∧ v6 = .int .i64 ((xtK i a).toNat : Int) ∧ v7 = .int .i64 (i : Int)) (fun _ _ v7 => 8 - (intOf v7).toNat)
  case atStart => exact ⟨0, by omega, rfl, rfl, rfl⟩
  case round =>
    obtain ⟨i, hi, rfl, rfl, rfl⟩ := hrel
    have ha8 := byte_lt (xtK i a)
    have hg8 := byte_lt (gm i a b)
    by_cases hlt : i < 8
    · have hone : ∀ c : Bool, bitU b i = c → (gm (i + 1) a b) = gm i a b ^^^ (if c then xtK i a else 0) := by
        rintro c rfl; rfl
      have HO := Lib.hid hone
      clear hone
      by_cases hh : 256 ≤ 2 * ((xtK i a).toNat : Int)
      all_goals
        go_wp2
        · have ht : (bits .and .u8 ((b.toNat : Int) / 2 ^ i) 1 == 1) = true := by assumption
          rw [bit_of2] at ht
          refine ⟨⟨i + 1, by omega, ?_, ?_, by go_num⟩, by simp [intOf]; omega⟩
          · rw [HO.out _ ht, xor_int64]; rfl
          · first | rw [xt_hi hh]; rfl | rw [xt_lo hh]; rfl
        · have ht : (bits .and .u8 ((b.toNat : Int) / 2 ^ i) 1 == 1) = false := by assumption
          rw [bit_of2] at ht
          refine ⟨⟨i + 1, by omega, ?_, ?_, by go_num⟩, by simp [intOf]; omega⟩
          · rw [HO.out _ ht]; simp
          · first | rw [xt_hi hh]; rfl | rw [xt_lo hh]; rfl
    · have h8 : Hid (i = 8) := (by omega : i = 8)
      go_wp2
      go_ret
      have e := h8.out
      subst e
      exact ⟨rfl, rfl⟩

set_option maxRecDepth 100000 in
set_option maxHeartbeats 800000 in
theorem refpow_any (a : UInt8) (w : World) (ha : a ≠ 0) :
    Calls Try.prog 35 #[.int .u8 (a.toNat : Int), .int .i64 254] w fun e w' => e = .returned (.int .u8 ((ginv a).toNat : Int)) ∧ w = w' := by
  have h0 : ((a.toNat : Int) == 0) = false := by
    rw [beq_eq_false_iff_ne]; intro e; apply ha; apply UInt8.toNat_inj.1; rw [show (0 : UInt8).toNat = 0 from rfl]; omega
  clear ha
  go_enter Try.func35, Try.ntmps35
  go_wp2
  go_loop [6, 7] (fun v6 v7 => ∃ i : Nat, i ≤ 254 ∧ v6 = .int .u8 ((gpow a i).toNat : Int) ∧ v7 = .int .i64 (i : Int)) (fun _ v7 => 254 - (intOf v7).toNat)
  case atStart => exact ⟨0, by omega, rfl, rfl⟩
  case round =>
    obtain ⟨i, hi, rfl, rfl⟩ := hrel
    by_cases hlt : (i : Int) < 254
    · go_wp2_with (go_at_call 26; refine (refmul_any _ _ _).mono ?_; rintro e w' ⟨rfl, rfl⟩)
      exact ⟨⟨i + 1, by omega, rfl, by go_num⟩, by simp [intOf]; omega⟩
    · have h8 : Hid (i = 254) := (by omega : i = 254)
      go_wp2
      go_ret
      have e := h8.out
      subst e
      exact ⟨rfl, rfl⟩
set_option maxHeartbeats 800000 in
theorem refinv_any (a : UInt8) (w : World) :
    Calls Try.prog 31 #[.int .u8 (a.toNat : Int)] w fun e w' => e = .returned (.tuple #[.int .u8 ((ginv a).toNat : Int), .int .i64 (invE a)]) ∧ w = w' := by
  by_cases h : a = 0
  · subst h
    rw [ginv_zero, show invE 0 = 3 from rfl]
    have h0 : ((UInt8.toNat 0 : Nat) : Int) = 0 := rfl
    rw [h0]
    go_enter Try.func31, Try.ntmps31
    go_wp2
    go_ret2
    exact ⟨rfl, rfl⟩
  · have h0 : ((a.toNat : Int) == 0) = false := by
      rw [beq_eq_false_iff_ne]; intro e; apply h; apply UInt8.toNat_inj.1; rw [show (0 : UInt8).toNat = 0 from rfl]; omega
    have he : invE a = 0 := if_neg h
    rw [he]
    have HP := Lib.hid (fun W' => refpow_any a W' h)
    clear h he
    go_enter Try.func31, Try.ntmps31
    go_wp2_with fail
    refine (HP.out _).mono ?_
    rintro e w' ⟨rfl, rfl⟩
    go_wp2
    go_ret2
    exact ⟨rfl, rfl⟩
end Go.Proofs.Ytkpfndhocgmgjaa
