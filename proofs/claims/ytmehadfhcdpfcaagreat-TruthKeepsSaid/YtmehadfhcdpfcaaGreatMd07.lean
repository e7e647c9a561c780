/- The reference's Encode of a good code, and SameRows. -/
import Derived.Test.YtmehadfhcdpfcaaGreatMd06
import Derived.Test.YtmehadfhcdpfcaaGreatMd02
import Derived.Test.YtmehadfhcdpfcaaGreatMd01
namespace Go.Proofs.YtmehadfhcdpfcaaGreat
open Go.RowKit
set_option linter.unusedVariables false
set_option linter.unusedSimpArgs false
theorem FragS.same {w : World} {R R' : Nat → Prop} {v : Value} {hs : List Frg} (h : FragS w R v hs) (hr : ∀ b, R b → R' b) : FragS w R' v hs := h.mono hr
theorem take_snoc (s : ByteArray) (k : Nat) (h : k < s.size) : s.data.toList.take (k + 1) = s.data.toList.take k ++ [s[k]] := by
 rw [List.take_succ_eq_append_getElem (by simpa using h)]; rfl
theorem take_all (s : ByteArray) : s.data.toList.take s.size = s.data.toList := List.take_of_length_le (by rw [Array.length_toList]; exact Nat.le_refl _)
def crcPart (s : ByteArray) (k : Nat) : Nat := crc (s.data.toList.take k)
theorem crcPart_lt (s : ByteArray) (k : Nat) : crcPart s k < 4294967296 := crc_lt _
theorem crcPart_succ (s : ByteArray) (k : Nat) (h : k < s.size) : crcPart s (k + 1) = crcBits 8 (crcPart s k ^^^ (s[k].toNat * 16777216)) := by
 unfold crcPart; rw [take_snoc s k h, crc_snoc]; rfl
theorem crc_in (s : ByteArray) (k : Nat) (c : UInt8) : bits .xor .u32 (crcPart s k : Int) ((c.toNat : Int) % 4294967296 * 16777216 % 4294967296) = ((crcPart s k ^^^ (c.toNat * 16777216) : Nat) : Int) := by
 have hc := c.toNat_lt
 have e : (c.toNat : Int) % 4294967296 * 16777216 % 4294967296 = ((c.toNat * 16777216 : Nat) : Int) := by
  have := byte_top c
  omega
 rw [e]
 exact u32_xor_nat _ _ (crcPart_lt s k) (byte_top c)
theorem crc_hit (x : Nat) (h : ((x : Int) / 2147483648 == 1) = true) : bits .xor .u32 ((x : Int) * 2 % 4294967296) 517762881 = (crcBit x : Int) := by
 have h' : x / 2147483648 = 1 := by have := eq_of_beq h; omega
 have e : (x : Int) * 2 % 4294967296 = ((x * 2 % 4294967296 : Nat) : Int) := by omega
 rw [e, show (517762881 : Int) = ((517762881 : Nat) : Int) from rfl, u32_xor_nat _ _ (by omega) (by omega)]
 unfold crcBit; rw [if_pos h']
theorem crc_miss (x : Nat) (h : ((x : Int) / 2147483648 == 1) = false) : (x : Int) * 2 % 4294967296 = (crcBit x : Int) := by
 have h' : ¬ x / 2147483648 = 1 := by
  intro e
  have : (x : Int) / 2147483648 = 1 := by omega
  rw [this] at h
  cases h
 unfold crcBit; rw [if_neg h']; omega
theorem xor_top_lt (s : ByteArray) (k : Nat) (c : UInt8) : crcPart s k ^^^ (c.toNat * 16777216) < 4294967296 := Nat.xor_lt_two_pow (n := 32) (crcPart_lt s k) (byte_top c)
set_option maxRecDepth 100000 in
set_option maxHeartbeats 800000 in
theorem sum_any (s : ByteArray) (w : World) (hs : s.size ≤ maxLen) :
  Calls Tryz.prog 100 #[.string s] w fun e w' => e = .returned (.int .u32 (crc s.data.toList : Nat)) ∧ w = w' := by
 unfold maxLen at hs
 go_enter Tryz.func100, Tryz.ntmps100
 go_wp2
 go_loop [3, 8] (fun r k => ∃ j : Nat, j ≤ s.size ∧ k = .int .i64 j ∧ r = .int .u32 (crcPart s j : Nat)) (fun r k => s.size - (intOf k).toNat)
 case atStart => exact ⟨0, Nat.zero_le _, rfl, rfl⟩
 case round =>
  obtain ⟨j, hj, rfl, rfl⟩ := hrel
  by_cases hlt : j < s.size
  ·go_wp2
   go_loop [3, 18] (fun r k => ∃ i : Nat, i ≤ 8 ∧ k = .int .i64 i ∧ r = .int .u32 (crcBits i (crcPart s j ^^^ (s[j].toNat * 16777216)) : Nat)) (fun r k => 8 - (intOf k).toNat)
   case atStart => exact ⟨0, by omega, rfl, by rw [crc_in]; rfl⟩
   case round =>
    obtain ⟨i, hi, rfl, rfl⟩ := hrel
    have hb := crcBits_lt i _ (xor_top_lt s j s[j])
    have hsucc := Lib.hid (crcBits_succ i (crcPart s j ^^^ (s[j].toNat * 16777216)))
    obtain ⟨x, hx⟩ : ∃ x, x = crcBits i (crcPart s j ^^^ (s[j].toNat * 16777216)) := ⟨_, rfl⟩
    have HX := Lib.hid hx
    rw [← hx] at hb
    by_cases hi8 : i < 8
    ·rw [← hx]
     clear hx
     go_wp2
     ·go_round
      case rel => exact ⟨i + 1, by omega, by go_num, by rw [crc_hit x (by assumption), hsucc.out, HX.out]⟩
      case measure => simp [intOf]; omega
     ·go_round
      case rel => exact ⟨i + 1, by omega, by go_num, by rw [crc_miss x (by assumption), hsucc.out, HX.out]⟩
      case measure => simp [intOf]; omega
    ·obtain rfl : i = 8 := by omega
     rw [← hx]
     clear hx
     have hp := Lib.hid (crcPart_succ s j hlt)
     go_wp2
     go_round
     case rel => exact ⟨j + 1, by omega, by go_num, by rw [hp.out, HX.out]⟩
     case measure => simp [intOf]; omega
  ·obtain rfl : j = s.size := by omega
   go_wp2
   go_ret
   exact ⟨ret_int (by unfold crcPart; rw [take_all]), rfl⟩
set_option maxRecDepth 100000 in
set_option maxHeartbeats 800000 in
theorem big_any (n size : Nat) (w : World) (hn : n ≤ 18446744073709551615) (hs : size ≤ 8) :
  Calls Tryz.prog 61 #[.int .u64 n, .int .i64 size] w fun e w' => e = .returned (.string ⟨(beTo n size size).toArray⟩) ∧ Below w.heap.size w w' := by
 go_enter Tryz.func61, Tryz.ntmps61
 go_wp2
 go_loopw [5, 6] (fun v i wr => ∃ k : Nat, k ≤ size ∧ i = .int .i64 ((size : Int) - 1 - k) ∧ wr.ownsRow w.heap.size 5 1 v k (bys (beTo n size k)) ∧ Below w.heap.size w wr) (fun _ i _ => (intOf i + 1).toNat)
 case atStart => exact ⟨0, Nat.zero_le _, by go_num, World.ownsRow_nil _ _ _ _, Below.refl _ _⟩
 case round =>
  obtain ⟨k, hk, rfl, hown, hb⟩ := hrel
  have hsz := hb.size
  by_cases hlt : k < size
  ·have h0 : decide ((0 : Int) ≤ (size : Int) - 1 - k) = true := by simp; omega
   go_wp2_with (at_builtin; refine app_u8 (.tmp 13) (.tmp 20) rfl rfl _ _ _ _ (by rfl) hown (by rfl) rfl (by omega) hsz ?_; intro v' w1 hown' hg hat)
   go_roundw
   case rel => exact ⟨k + 1, by omega, by go_num, by rw [beTo_succ, bys_snoc, ← byte_of]; exact hown', (hb.grown hg hsz (fun b h => (hown.lt b h).1))⟩
   case measure => simp [intOf]; omega
  ·obtain rfl : k = size := by omega
   have h0 : decide ((0 : Int) ≤ (k : Int) - 1 - k) = false := by simp; omega
   have hcv := conv_bytes (ByS.own (R := Bl wr.heap.size) hown (fun b h => (hown.lt b h).2))
   go_wp2
   go_ret
   exact ⟨rfl, hb⟩
set_option maxRecDepth 100000 in
set_option maxHeartbeats 800000 in
theorem refsum_any (s : ByteArray) (w : World) (hs : s.size ≤ maxLen) :
  Calls Tryz.prog 85 #[.string s] w fun e w' => e = .returned (.int .u32 (crc s.data.toList : Nat)) ∧ w = w' := by
 unfold maxLen at hs
 go_enter Tryz.func85, Tryz.ntmps85
 go_wp2
 go_loop [3, 4] (fun r k => ∃ j : Nat, j ≤ s.size ∧ k = .int .i64 j ∧ r = .int .u32 (crcPart s j : Nat)) (fun r k => s.size - (intOf k).toNat)
 case atStart => exact ⟨0, Nat.zero_le _, rfl, rfl⟩
 case round =>
  obtain ⟨j, hj, rfl, rfl⟩ := hrel
  by_cases hlt : j < s.size
  ·go_wp2
   go_loop [3, 5] (fun r k => ∃ i : Nat, i ≤ 8 ∧ k = .int .i64 i ∧ r = .int .u32 (crcBits i (crcPart s j ^^^ (s[j].toNat * 16777216)) : Nat)) (fun r k => 8 - (intOf k).toNat)
   case atStart => exact ⟨0, by omega, rfl, by rw [crc_in]; rfl⟩
   case round =>
    obtain ⟨i, hi, rfl, rfl⟩ := hrel
    have hb := crcBits_lt i _ (xor_top_lt s j s[j])
    have hsucc := Lib.hid (crcBits_succ i (crcPart s j ^^^ (s[j].toNat * 16777216)))
    obtain ⟨x, hx⟩ : ∃ x, x = crcBits i (crcPart s j ^^^ (s[j].toNat * 16777216)) := ⟨_, rfl⟩
    have HX := Lib.hid hx
    rw [← hx] at hb
    by_cases hi8 : i < 8
    ·rw [← hx]
     clear hx
     go_wp2
     ·go_round
      case rel => exact ⟨i + 1, by omega, by go_num, by rw [crc_hit x (by assumption), hsucc.out, HX.out]⟩
      case measure => simp [intOf]; omega
     ·go_round
      case rel => exact ⟨i + 1, by omega, by go_num, by rw [crc_miss x (by assumption), hsucc.out, HX.out]⟩
      case measure => simp [intOf]; omega
    ·obtain rfl : i = 8 := by omega
     rw [← hx]
     clear hx
     have hp := Lib.hid (crcPart_succ s j hlt)
     go_wp2
     go_round
     case rel => exact ⟨j + 1, by omega, by go_num, by rw [hp.out, HX.out]⟩
     case measure => simp [intOf]; omega
  ·obtain rfl : j = s.size := by omega
   go_wp2
   go_ret
   exact ⟨ret_int (by unfold crcPart; rw [take_all]), rfl⟩
set_option maxRecDepth 100000 in
set_option maxHeartbeats 800000 in
theorem sealed_any (l : List UInt8) (w : World) (hl : l.length ≤ 65536) :
  Calls Tryz.prog 62 #[.string ⟨l.toArray⟩] w fun e w' => e = .returned (.string ⟨(sealB l).toArray⟩) ∧ Below w.heap.size w w' := by
 have hc := crc_lt l
 have hbl : (beTo (crc l) 4 4).length ≤ 4 := by rw [beTo_length]; omega
 have hs : ((⟨l.toArray⟩ : ByteArray).size : Int) ≤ 65536 := by show ((l.toArray.size : Nat) : Int) ≤ 65536; simp; omega
 have h1 := refsum_any ⟨l.toArray⟩ w (by unfold maxLen; omega)
 have h2 := big_any (crc l) 4 w (by omega) (by omega)
 have H1 := Lib.hid h1
 have H2 := Lib.hid h2
 clear h1 h2
 go_enter Tryz.func62, Tryz.ntmps62
 go_wp2_with fail
 refine H1.out.mono ?_
 rintro e w1 ⟨rfl, rfl⟩
 go_wp2_with fail
 refine H2.out.mono ?_
 rintro e w1 ⟨rfl, hb⟩
 go_wp2
 go_ret
 exact ⟨by rw [ByteArray.mk_append_mk]; rfl, hb⟩
theorem pow7 : ∀ k : Nat, k < 8 → (128 : Int) / 2 ^ k = ((2 ^ (7 - k) : Nat) : Int) ∧ 2 ^ (7 - k) < 256 := by decide
theorem flip_byte (c : UInt8) (k : Nat) (hk : k < 8) : ∃ y : UInt8, bits .xor .u8 (c.toNat : Int) (128 / 2 ^ k) = (y.toNat : Int) ∧ y.toNat = c.toNat ^^^ 2 ^ (7 - k) := by
 have hc := c.toNat_lt
 obtain ⟨h1, h2⟩ := pow7 k hk
 have h : c.toNat ^^^ 2 ^ (7 - k) < 256 := Nat.xor_lt_two_pow (n := 8) (by omega) (by omega)
 rw [h1]
 generalize 2 ^ (7 - k) = m at *
 refine ⟨UInt8.ofNat (c.toNat ^^^ m), ?_, ?_⟩
 ·rw [u8_xor _ _ (by omega) (by omega) (by omega) (by omega), UInt8.toNat_ofNat', Nat.mod_eq_of_lt (by simpa using h)]; simp
 ·rw [UInt8.toNat_ofNat', Nat.mod_eq_of_lt (by simpa using h)]
structure Pc where
 vol : Int
 frag : Int
 stripe : Int
 gen : Int
 ver : Int
 data : List UInt8
def validP (p : Pc) : Bool := decide (0 ≤ p.vol ∧ p.vol < 12 ∧ 0 ≤ p.frag ∧ p.frag < 8 ∧ 0 ≤ p.stripe ∧ p.stripe < 4 ∧ 1 ≤ p.gen ∧ p.gen ≤ 1099511627775 ∧ 1 ≤ p.ver ∧ p.ver ≤ 1099511627775 ∧ p.data.length = 16)
theorem validP_no {a b c g r : Int} {l : List UInt8} (h : ¬ (0 ≤ a ∧ a < 12 ∧ 0 ≤ b ∧ b < 8 ∧ 0 ≤ c ∧ c < 4 ∧ 1 ≤ g ∧ g ≤ 1099511627775 ∧ 1 ≤ r ∧ r ≤ 1099511627775 ∧ l.length = 16)) : validP ⟨a, b, c, g, r, l⟩ = false := by
 unfold validP; exact decide_eq_false h
theorem validP_yes {a b c g r : Int} {l : List UInt8} (h : 0 ≤ a ∧ a < 12 ∧ 0 ≤ b ∧ b < 8 ∧ 0 ≤ c ∧ c < 4 ∧ 1 ≤ g ∧ g ≤ 1099511627775 ∧ 1 ≤ r ∧ r ≤ 1099511627775 ∧ l.length = 16) : validP ⟨a, b, c, g, r, l⟩ = true := by
 unfold validP; exact decide_eq_true h
theorem validP_iff {p : Pc} : validP p = true ↔ 0 ≤ p.vol ∧ p.vol < 12 ∧ 0 ≤ p.frag ∧ p.frag < 8 ∧ 0 ≤ p.stripe ∧ p.stripe < 4 ∧ 1 ≤ p.gen ∧ p.gen ≤ 1099511627775 ∧ 1 ≤ p.ver ∧ p.ver ≤ 1099511627775 ∧ p.data.length = 16 := by
 unfold validP; exact decide_eq_true_iff
def PcV (p : Pc) : Value := .agg #[.int .i64 p.vol, .int .i64 p.frag, .int .i64 p.stripe, .int .i64 p.gen, .int .i64 p.ver, .string ⟨p.data.toArray⟩]
def PcI (p : Pc) : Prop := I64 p.vol ∧ I64 p.frag ∧ I64 p.stripe ∧ I64 p.gen ∧ I64 p.ver ∧ p.data.length ≤ maxLen
theorem size_of (l : List UInt8) : (⟨l.toArray⟩ : ByteArray).size = l.length := by show l.toArray.size = _; simp
set_option maxRecDepth 100000 in
set_option maxHeartbeats 1600000 in
theorem svalid_any (p : Pc) (w : World) (hp : PcI p) :
  Calls Tryz.prog 145 #[PcV p] w fun e w' => e = .returned (.bool (validP p)) ∧ Below w.heap.size w w' := by
 obtain ⟨a, b, c, g, r, l⟩ := p
 obtain ⟨⟨a0, a1⟩, ⟨b0, b1⟩, ⟨c0, c1⟩, ⟨g0, g1⟩, ⟨r0, r1⟩, hl⟩ := hp
 unfold PcV
 simp only at a0 a1 b0 b1 c0 c1 g0 g1 r0 r1 hl ⊢
 have hz := size_of l
 generalize (⟨l.toArray⟩ : ByteArray) = s at *
 unfold maxLen at hl
 have hs : s.size ≤ 9223372036854775807 := by omega
 by_cases h1 : 0 ≤ a
 rotate_left
 ·rw [validP_no (fun h => h1 (h.1))]
  skip
  clear hz hl
  go_enter Tryz.func145, Tryz.ntmps145
  go_wp2
  go_ret
  exact ⟨rfl, (Below.refl _ _).alloc (Nat.le_refl _) _⟩
 by_cases h2 : a < 12
 rotate_left
 ·rw [validP_no (fun h => h2 (h.2.1))]
  skip
  clear hz hl
  go_enter Tryz.func145, Tryz.ntmps145
  go_wp2
  go_ret
  exact ⟨rfl, (Below.refl _ _).alloc (Nat.le_refl _) _⟩
 by_cases h3 : 0 ≤ b
 rotate_left
 ·rw [validP_no (fun h => h3 (h.2.2.1))]
  skip
  clear hz hl
  go_enter Tryz.func145, Tryz.ntmps145
  go_wp2
  go_ret
  exact ⟨rfl, (Below.refl _ _).alloc (Nat.le_refl _) _⟩
 by_cases h4 : b < 8
 rotate_left
 ·rw [validP_no (fun h => h4 (h.2.2.2.1))]
  skip
  clear hz hl
  go_enter Tryz.func145, Tryz.ntmps145
  go_wp2
  go_ret
  exact ⟨rfl, (Below.refl _ _).alloc (Nat.le_refl _) _⟩
 by_cases h5 : 0 ≤ c
 rotate_left
 ·rw [validP_no (fun h => h5 (h.2.2.2.2.1))]
  skip
  clear hz hl
  go_enter Tryz.func145, Tryz.ntmps145
  go_wp2
  go_ret
  exact ⟨rfl, (Below.refl _ _).alloc (Nat.le_refl _) _⟩
 by_cases h6 : c < 4
 rotate_left
 ·rw [validP_no (fun h => h6 (h.2.2.2.2.2.1))]
  skip
  clear hz hl
  go_enter Tryz.func145, Tryz.ntmps145
  go_wp2
  go_ret
  exact ⟨rfl, (Below.refl _ _).alloc (Nat.le_refl _) _⟩
 by_cases h7 : 1 ≤ g
 rotate_left
 ·rw [validP_no (fun h => h7 (h.2.2.2.2.2.2.1))]
  skip
  clear hz hl
  go_enter Tryz.func145, Tryz.ntmps145
  go_wp2
  go_ret
  exact ⟨rfl, (Below.refl _ _).alloc (Nat.le_refl _) _⟩
 by_cases h8 : g ≤ 1099511627775
 rotate_left
 ·rw [validP_no (fun h => h8 (h.2.2.2.2.2.2.2.1))]
  skip
  clear hz hl
  go_enter Tryz.func145, Tryz.ntmps145
  go_wp2
  go_ret
  exact ⟨rfl, (Below.refl _ _).alloc (Nat.le_refl _) _⟩
 by_cases h9 : 1 ≤ r
 rotate_left
 ·rw [validP_no (fun h => h9 (h.2.2.2.2.2.2.2.2.1))]
  skip
  clear hz hl
  go_enter Tryz.func145, Tryz.ntmps145
  go_wp2
  go_ret
  exact ⟨rfl, (Below.refl _ _).alloc (Nat.le_refl _) _⟩
 by_cases h10 : r ≤ 1099511627775
 rotate_left
 ·rw [validP_no (fun h => h10 (h.2.2.2.2.2.2.2.2.2.1))]
  skip
  clear hz hl
  go_enter Tryz.func145, Tryz.ntmps145
  go_wp2
  go_ret
  exact ⟨rfl, (Below.refl _ _).alloc (Nat.le_refl _) _⟩
 by_cases h11 : l.length = 16
 rotate_left
 ·rw [validP_no (fun h => h11 (h.2.2.2.2.2.2.2.2.2.2))]
  have e16 : ((s.size : Int) == 16) = false := by simp; omega
  clear h11
  clear hz hl
  go_enter Tryz.func145, Tryz.ntmps145
  go_wp2
  go_ret
  exact ⟨rfl, (Below.refl _ _).alloc (Nat.le_refl _) _⟩
 rw [validP_yes ⟨h1, h2, h3, h4, h5, h6, h7, h8, h9, h10, h11⟩]
 have e16 : s.size = 16 := by omega
 clear h11
 clear hz hl
 go_enter Tryz.func145, Tryz.ntmps145
 go_wp2
 go_ret
 exact ⟨rfl, (Below.refl _ _).alloc (Nat.le_refl _) _⟩
set_option maxRecDepth 100000 in
set_option maxHeartbeats 1600000 in
theorem refsvalid_any (p : Pc) (w : World) (hp : PcI p) :
  Calls Tryz.prog 60 #[PcV p] w fun e w' => e = .returned (.bool (validP p)) ∧ Below w.heap.size w w' := by
 obtain ⟨a, b, c, g, r, l⟩ := p
 obtain ⟨⟨a0, a1⟩, ⟨b0, b1⟩, ⟨c0, c1⟩, ⟨g0, g1⟩, ⟨r0, r1⟩, hl⟩ := hp
 unfold PcV
 simp only at a0 a1 b0 b1 c0 c1 g0 g1 r0 r1 hl ⊢
 have hz := size_of l
 generalize (⟨l.toArray⟩ : ByteArray) = s at *
 unfold maxLen at hl
 have hs : s.size ≤ 9223372036854775807 := by omega
 by_cases h1 : 0 ≤ a
 rotate_left
 ·rw [validP_no (fun h => h1 (h.1))]
  skip
  clear hz hl
  go_enter Tryz.func60, Tryz.ntmps60
  go_wp2
  go_ret
  exact ⟨rfl, (Below.refl _ _).alloc (Nat.le_refl _) _⟩
 by_cases h2 : a < 12
 rotate_left
 ·rw [validP_no (fun h => h2 (h.2.1))]
  skip
  clear hz hl
  go_enter Tryz.func60, Tryz.ntmps60
  go_wp2
  go_ret
  exact ⟨rfl, (Below.refl _ _).alloc (Nat.le_refl _) _⟩
 by_cases h3 : 0 ≤ b
 rotate_left
 ·rw [validP_no (fun h => h3 (h.2.2.1))]
  skip
  clear hz hl
  go_enter Tryz.func60, Tryz.ntmps60
  go_wp2
  go_ret
  exact ⟨rfl, (Below.refl _ _).alloc (Nat.le_refl _) _⟩
 by_cases h4 : b < 8
 rotate_left
 ·rw [validP_no (fun h => h4 (h.2.2.2.1))]
  skip
  clear hz hl
  go_enter Tryz.func60, Tryz.ntmps60
  go_wp2
  go_ret
  exact ⟨rfl, (Below.refl _ _).alloc (Nat.le_refl _) _⟩
 by_cases h5 : 0 ≤ c
 rotate_left
 ·rw [validP_no (fun h => h5 (h.2.2.2.2.1))]
  skip
  clear hz hl
  go_enter Tryz.func60, Tryz.ntmps60
  go_wp2
  go_ret
  exact ⟨rfl, (Below.refl _ _).alloc (Nat.le_refl _) _⟩
 by_cases h6 : c < 4
 rotate_left
 ·rw [validP_no (fun h => h6 (h.2.2.2.2.2.1))]
  skip
  clear hz hl
  go_enter Tryz.func60, Tryz.ntmps60
  go_wp2
  go_ret
  exact ⟨rfl, (Below.refl _ _).alloc (Nat.le_refl _) _⟩
 by_cases h7 : 1 ≤ g
 rotate_left
 ·rw [validP_no (fun h => h7 (h.2.2.2.2.2.2.1))]
  skip
  clear hz hl
  go_enter Tryz.func60, Tryz.ntmps60
  go_wp2
  go_ret
  exact ⟨rfl, (Below.refl _ _).alloc (Nat.le_refl _) _⟩
 by_cases h8 : g ≤ 1099511627775
 rotate_left
 ·rw [validP_no (fun h => h8 (h.2.2.2.2.2.2.2.1))]
  skip
  clear hz hl
  go_enter Tryz.func60, Tryz.ntmps60
  go_wp2
  go_ret
  exact ⟨rfl, (Below.refl _ _).alloc (Nat.le_refl _) _⟩
 by_cases h9 : 1 ≤ r
 rotate_left
 ·rw [validP_no (fun h => h9 (h.2.2.2.2.2.2.2.2.1))]
  skip
  clear hz hl
  go_enter Tryz.func60, Tryz.ntmps60
  go_wp2
  go_ret
  exact ⟨rfl, (Below.refl _ _).alloc (Nat.le_refl _) _⟩
 by_cases h10 : r ≤ 1099511627775
 rotate_left
 ·rw [validP_no (fun h => h10 (h.2.2.2.2.2.2.2.2.2.1))]
  skip
  clear hz hl
  go_enter Tryz.func60, Tryz.ntmps60
  go_wp2
  go_ret
  exact ⟨rfl, (Below.refl _ _).alloc (Nat.le_refl _) _⟩
 by_cases h11 : l.length = 16
 rotate_left
 ·rw [validP_no (fun h => h11 (h.2.2.2.2.2.2.2.2.2.2))]
  have e16 : ((s.size : Int) == 16) = false := by simp; omega
  clear h11
  clear hz hl
  go_enter Tryz.func60, Tryz.ntmps60
  go_wp2
  go_ret
  exact ⟨rfl, (Below.refl _ _).alloc (Nat.le_refl _) _⟩
 rw [validP_yes ⟨h1, h2, h3, h4, h5, h6, h7, h8, h9, h10, h11⟩]
 have e16 : s.size = 16 := by omega
 clear h11
 clear hz hl
 go_enter Tryz.func60, Tryz.ntmps60
 go_wp2
 go_ret
 exact ⟨rfl, (Below.refl _ _).alloc (Nat.le_refl _) _⟩
end Go.Proofs.YtmehadfhcdpfcaaGreat
