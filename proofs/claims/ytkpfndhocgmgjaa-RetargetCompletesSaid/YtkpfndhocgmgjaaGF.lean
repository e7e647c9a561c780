/- The field of 256 elements, on bytes. -/
import Derived.Laws.BitsAllLaws
import Derived.IntWalk
namespace Go.Proofs.Ytkpfndhocgmgjaa
def bitU (b : UInt8) (n : Nat) : Bool := b.toNat.testBit n
/-- Times the generator. -/
def xt (a : UInt8) : UInt8 := (a <<< 1) ^^^ (if bitU a 7 then 29 else 0)
def xtK : Nat → UInt8 → UInt8
  | 0, a => a
  | n + 1, a => xt (xtK n a)
theorem all8 {P : UInt8 → Prop} (h : ∀ n : Nat, n < 256 → P (UInt8.ofNat n)) (a : UInt8) : P a := by
  have := h a.toNat a.toNat_lt
  rwa [UInt8.ofNat_toNat] at this
theorem bitU_xor (a b : UInt8) (n : Nat) : bitU (a ^^^ b) n = (bitU a n ^^ bitU b n) := by unfold bitU; rw [UInt8.toNat_xor, Nat.testBit_xor]
theorem u8_ext {a b : UInt8} (h : ∀ n, n < 8 → bitU a n = bitU b n) : a = b := by
  apply UInt8.toNat_inj.1
  apply Nat.eq_of_testBit_eq
  intro i
  by_cases hi : i < 8
  · exact h i hi
  · have hb : ∀ c : UInt8, c.toNat.testBit i = false := fun c => Nat.testBit_lt_two_pow (Nat.lt_of_lt_of_le c.toNat_lt (Nat.pow_le_pow_right (by omega) (by omega)))
    rw [hb, hb]
theorem bitU_shl (a : UInt8) (n : Nat) (h : n < 8) : bitU (a <<< 1) n = (decide (1 ≤ n) && bitU a (n - 1)) := by
  unfold bitU
  rw [UInt8.toNat_shiftLeft]
  show ((a.toNat <<< 1) % 2 ^ 8).testBit n = _
  rw [Nat.testBit_mod_two_pow, Nat.testBit_shiftLeft]
  simp [h]
theorem shl_xor (a b : UInt8) : (a ^^^ b) <<< 1 = (a <<< 1) ^^^ (b <<< 1) := by
  apply u8_ext
  intro n hn
  rw [bitU_xor, bitU_shl _ _ hn, bitU_shl _ _ hn, bitU_shl _ _ hn, bitU_xor]
  cases decide (1 ≤ n) <;> simp
theorem xor4u (a b c d : UInt8) : (a ^^^ b) ^^^ (c ^^^ d) = (a ^^^ c) ^^^ (b ^^^ d) := by
  rw [UInt8.xor_assoc, UInt8.xor_assoc, ← UInt8.xor_assoc b, UInt8.xor_comm b c, UInt8.xor_assoc c]
theorem xor_self (a : UInt8) : a ^^^ a = 0 := UInt8.xor_self
theorem xor_zero (a : UInt8) : a ^^^ 0 = a := UInt8.xor_zero
theorem zero_xor (a : UInt8) : 0 ^^^ a = a := UInt8.zero_xor
theorem xor_eq_zero {a b : UInt8} (h : a ^^^ b = 0) : a = b := by
  have : (a ^^^ b) ^^^ b = 0 ^^^ b := by rw [h]
  rwa [UInt8.xor_assoc, xor_self, xor_zero, zero_xor] at this
theorem xt_xor (a b : UInt8) : xt (a ^^^ b) = xt a ^^^ xt b := by
  unfold xt
  rw [bitU_xor, shl_xor, xor4u (a <<< 1)]
  congr 1
  cases bitU a 7 <;> cases bitU b 7 <;> decide
theorem xt_zero : xt 0 = 0 := by decide
theorem xtK_xor (n : Nat) (a b : UInt8) : xtK n (a ^^^ b) = xtK n a ^^^ xtK n b := by
  induction n with
  | zero => rfl
  | succ n ih => show xt (xtK n (a ^^^ b)) = xt (xtK n a) ^^^ xt (xtK n b); rw [ih, xt_xor]
theorem xtK_zero (n : Nat) : xtK n 0 = 0 := by
  induction n with
  | zero => rfl
  | succ n ih => show xt (xtK n 0) = 0; rw [ih, xt_zero]
theorem xtK_add (m n : Nat) (a : UInt8) : xtK (m + n) a = xtK m (xtK n a) := by
  induction m with
  | zero => rw [Nat.zero_add]; rfl
  | succ m ih => rw [Nat.succ_add]; show xt (xtK (m + n) a) = xt (xtK m (xtK n a)); rw [ih]
/-- The first n terms of a product. -/
def gm : Nat → UInt8 → UInt8 → UInt8
  | 0, _, _ => 0
  | n + 1, a, b => gm n a b ^^^ (if bitU b n then xtK n a else 0)
def gmul (a b : UInt8) : UInt8 := gm 8 a b
theorem gm_left (n : Nat) (a a' b : UInt8) : gm n (a ^^^ a') b = gm n a b ^^^ gm n a' b := by
  induction n with
  | zero => exact (xor_zero 0).symm
  | succ n ih =>
    show gm n (a ^^^ a') b ^^^ _ = (gm n a b ^^^ _) ^^^ (gm n a' b ^^^ _)
    rw [ih, xtK_xor, xor4u]
    cases bitU b n <;> simp
theorem gm_right (n : Nat) (a b b' : UInt8) : gm n a (b ^^^ b') = gm n a b ^^^ gm n a b' := by
  induction n with
  | zero => exact (xor_zero 0).symm
  | succ n ih =>
    show gm n a (b ^^^ b') ^^^ _ = (gm n a b ^^^ _) ^^^ (gm n a b' ^^^ _)
    rw [ih, bitU_xor, xor4u]
    cases bitU b n <;> cases bitU b' n <;> simp
theorem gmul_left (a a' b : UInt8) : gmul (a ^^^ a') b = gmul a b ^^^ gmul a' b := gm_left 8 a a' b
theorem gmul_right (a b b' : UInt8) : gmul a (b ^^^ b') = gmul a b ^^^ gmul a b' := gm_right 8 a b b'
theorem gm_zero_left (n : Nat) (b : UInt8) : gm n 0 b = 0 := by
  induction n with
  | zero => rfl
  | succ n ih => show gm n 0 b ^^^ _ = 0; rw [ih, xtK_zero]; simp
theorem gm_zero_right (n : Nat) (a : UInt8) : gm n a 0 = 0 := by
  induction n with
  | zero => rfl
  | succ n ih =>
    show gm n a 0 ^^^ _ = 0
    rw [ih]
    have : bitU 0 n = false := by unfold bitU; simp
    rw [this]; simp
theorem zero_gmul (b : UInt8) : gmul 0 b = 0 := gm_zero_left 8 b
theorem gmul_zero (a : UInt8) : gmul a 0 = 0 := gm_zero_right 8 a
theorem gmul_one (a : UInt8) : gmul a 1 = a := by
  have h0 : bitU 1 0 = true := by decide
  have h1 : bitU 1 1 = false := by decide
  have h2 : bitU 1 2 = false := by decide
  have h3 : bitU 1 3 = false := by decide
  have h4 : bitU 1 4 = false := by decide
  have h5 : bitU 1 5 = false := by decide
  have h6 : bitU 1 6 = false := by decide
  have h7 : bitU 1 7 = false := by decide
  simp [gmul, gm, h0, h1, h2, h3, h4, h5, h6, h7, xtK]
theorem gm_shl (a b : UInt8) : ∀ n, n < 8 → gm (n + 1) a (b <<< 1) = xt (gm n a b) := by
  intro n
  induction n with
  | zero =>
    intro _
    show (0 : UInt8) ^^^ _ = xt 0
    rw [bitU_shl _ _ (by omega), xt_zero]; simp
  | succ n ih =>
    intro h
    show gm (n + 1) a (b <<< 1) ^^^ _ = xt (gm n a b ^^^ _)
    rw [ih (by omega), xt_xor, bitU_shl _ _ (by omega)]
    congr 1
    have e : n + 1 - 1 = n := rfl
    rw [e]
    cases bitU b n
    · simp [xt_zero]
    · simp; rfl
theorem gmul_29 (a : UInt8) : gmul a 29 = xtK 8 a := all8 (P := fun a => gmul a 29 = xtK 8 a) (by decide +kernel) a
theorem gmul_xt (a b : UInt8) : gmul a (xt b) = xt (gmul a b) := by
  have e : xt (gmul a b) = xt (gm 7 a b) ^^^ (if bitU b 7 then xtK 8 a else 0) := by
    show xt (gm 7 a b ^^^ _) = _
    rw [xt_xor]
    cases bitU b 7
    · simp [xt_zero]
    · simp; rfl
  rw [e]
  unfold xt
  rw [gmul_right]
  have h := gm_shl a b 7 (by omega)
  show gm 8 a (b <<< 1) ^^^ _ = _
  rw [h]
  congr 1
  cases bitU b 7
  · simp [gmul_zero]
  · simp [gmul_29]
theorem gmul_xtK (a b : UInt8) (n : Nat) : gmul a (xtK n b) = xtK n (gmul a b) := by
  induction n with
  | zero => rfl
  | succ n ih => show gmul a (xt (xtK n b)) = xt (xtK n (gmul a b)); rw [gmul_xt, ih]
theorem gmul_gen (a : UInt8) (n : Nat) : gmul a (xtK n 1) = xtK n a := by rw [gmul_xtK, gmul_one]
def logT : List Nat := [0, 0, 1, 25, 2, 50, 26, 198, 3, 223, 51, 238, 27, 104, 199, 75, 4, 100, 224, 14, 52, 141, 239, 129, 28, 193, 105, 248, 200, 8, 76, 113, 5, 138, 101, 47, 225, 36, 15, 33, 53, 147, 142, 218, 240, 18, 130, 69, 29, 181, 194, 125, 106, 39, 249, 185, 201, 154, 9, 120, 77, 228, 114, 166, 6, 191, 139, 98, 102, 221, 48, 253, 226, 152, 37, 179, 16, 145, 34, 136, 54, 208, 148, 206, 143, 150, 219, 189, 241, 210, 19, 92, 131, 56, 70, 64, 30, 66, 182, 163, 195, 72, 126, 110, 107, 58, 40, 84, 250, 133, 186, 61, 202, 94, 155, 159, 10, 21, 121, 43, 78, 212, 229, 172, 115, 243, 167, 87, 7, 112, 192, 247, 140, 128, 99, 13, 103, 74, 222, 237, 49, 197, 254, 24, 227, 165, 153, 119, 38, 184, 180, 124, 17, 68, 146, 217, 35, 32, 137, 46, 55, 63, 209, 91, 149, 188, 207, 205, 144, 135, 151, 178, 220, 252, 190, 97, 242, 86, 211, 171, 20, 42, 93, 158, 132, 60, 57, 83, 71, 109, 65, 162, 31, 45, 67, 216, 183, 123, 164, 118, 196, 23, 73, 236, 127, 12, 111, 246, 108, 161, 59, 82, 41, 157, 85, 170, 251, 96, 134, 177, 187, 204, 62, 90, 203, 89, 95, 176, 156, 169, 160, 81, 11, 245, 22, 235, 122, 117, 44, 215, 79, 174, 213, 233, 230, 231, 173, 232, 116, 214, 244, 234, 168, 80, 88, 175]
theorem log_all : ∀ n : Nat, n < 256 → n = 0 ∨ xtK (logT.getD n 0) 1 = UInt8.ofNat n := by decide +kernel
theorem gen_all (a : UInt8) (h : a ≠ 0) : ∃ k, a = xtK k 1 := by
  refine ⟨logT.getD a.toNat 0, ?_⟩
  rcases log_all a.toNat a.toNat_lt with h0 | h0
  · exact absurd (UInt8.toNat_inj.1 (by simpa using h0)) h
  · rw [h0, UInt8.ofNat_toNat]
theorem gmul_comm (a b : UInt8) : gmul a b = gmul b a := by
  by_cases ha : a = 0
  · rw [ha, zero_gmul, gmul_zero]
  by_cases hb : b = 0
  · rw [hb, zero_gmul, gmul_zero]
  obtain ⟨j, rfl⟩ := gen_all a ha
  obtain ⟨k, rfl⟩ := gen_all b hb
  rw [gmul_gen, gmul_gen, ← xtK_add, ← xtK_add, Nat.add_comm]
theorem gmul_assoc (a b c : UInt8) : gmul (gmul a b) c = gmul a (gmul b c) := by
  by_cases hc : c = 0
  · rw [hc, gmul_zero, gmul_zero, gmul_zero]
  obtain ⟨k, rfl⟩ := gen_all c hc
  rw [gmul_gen, gmul_gen, gmul_xtK]
theorem one_gmul (a : UInt8) : gmul 1 a = a := by rw [gmul_comm, gmul_one]
theorem gen_255 : xtK 255 1 = 1 := by decide +kernel
theorem xtK_255 (a : UInt8) : xtK 255 a = a := by rw [← gmul_gen, gen_255, gmul_one]
theorem xtK_mul (j : Nat) (a : UInt8) : xtK (j * 255) a = a := by
  induction j with
  | zero => rw [Nat.zero_mul]; rfl
  | succ j ih => rw [Nat.succ_mul, xtK_add, xtK_255, ih]
def gpow (a : UInt8) : Nat → UInt8
  | 0 => 1
  | n + 1 => gmul (gpow a n) a
def ginv (a : UInt8) : UInt8 := gpow a 254
theorem gpow_gen (j n : Nat) : gpow (xtK j 1) n = xtK (j * n) 1 := by
  induction n with
  | zero => rfl
  | succ n ih => show gmul (gpow (xtK j 1) n) (xtK j 1) = _; rw [ih, gmul_gen, ← xtK_add, Nat.mul_succ, Nat.add_comm]
theorem gpow_add (a : UInt8) (m n : Nat) : gpow a (m + n) = gmul (gpow a m) (gpow a n) := by
  induction n with
  | zero => rw [Nat.add_zero]; show _ = gmul _ 1; rw [gmul_one]
  | succ n ih => show gmul (gpow a (m + n)) a = gmul (gpow a m) (gmul (gpow a n) a); rw [ih, gmul_assoc]
theorem gpow_sq (a : UInt8) (n : Nat) : gpow (gmul a a) n = gpow a (2 * n) := by
  induction n with
  | zero => rfl
  | succ n ih =>
    show gmul (gpow (gmul a a) n) (gmul a a) = _
    rw [ih, show 2 * (n + 1) = 2 * n + 1 + 1 from by omega]
    show _ = gmul (gmul (gpow a (2 * n)) a) a
    rw [gmul_assoc]
theorem gmul_inv (a : UInt8) (h : a ≠ 0) : gmul a (ginv a) = 1 := by
  obtain ⟨j, rfl⟩ := gen_all a h
  unfold ginv
  rw [gpow_gen, gmul_gen, ← xtK_add, Nat.add_comm (j * 254), Nat.add_comm j, ← Nat.mul_succ]
  exact xtK_mul j 1
theorem gmul_eq_zero {a b : UInt8} (h : gmul a b = 0) : a = 0 ∨ b = 0 := by
  by_cases ha : a = 0
  · exact .inl ha
  · refine .inr ?_
    have e : gmul (ginv a) (gmul a b) = b := by rw [← gmul_assoc, gmul_comm (ginv a), gmul_inv a ha, one_gmul]
    rw [← e, h, gmul_zero]
end Go.Proofs.Ytkpfndhocgmgjaa
