import Derived.Test.YtffamkodckghgaaJBits
import Derived.Test.YtffamkodckghgaaJBuf
import Derived.Test.YtffamkodckghgaaJTypes
import Derived.Deep.LoopGhost
namespace Go.Proofs.Ytffamkodckghgaa
open Go.RowKit
set_option linter.unusedVariables false
set_option linter.unusedSimpArgs false
/-- x is l but for bits from bit on, at most i of them. -/
def Flipped (l : List UInt8) (bit i : Nat) (x : List UInt8) : Prop := x.length = l.length ∧ ∀ p, p < 8 * l.length → (p < bit ∨ bit + i ≤ p) → bitAt x p = bitAt l p
theorem Flipped.more {l x : List UInt8} {bit i : Nat} (h : Flipped l bit i x) : Flipped l bit (i + 1) x := ⟨h.1, fun p hp ho => h.2 p hp (by omega)⟩
theorem Flipped.step {l x : List UInt8} {bit i : Nat} (h : Flipped l bit i x) (hq : (bit + i) / 8 < x.length) {y : UInt8} (hy : y.toNat = x[(bit + i) / 8].toNat ^^^ (2 ^ (7 - (bit + i) % 8))) : Flipped l bit (i + 1) (x.set ((bit + i) / 8) y) := by
  refine ⟨by rw [List.length_set]; exact h.1, fun p hp ho => ?_⟩
  rw [← h.2 p hp (by omega)]
  unfold bitAt
  by_cases e : p / 8 = (bit + i) / 8
  · rw [e, List.getD, List.getElem?_set_self hq, List.getD, List.getElem?_eq_getElem hq]
    simp only [Option.getD_some]
    rw [hy, Nat.testBit_xor, Nat.testBit_two_pow]
    have : ¬ (7 - (bit + i) % 8 = 7 - p % 8) := by omega
    simp [this]
  · rw [List.getD, List.getElem?_set_ne (fun h => e h.symm), List.getD]

theorem pow7 : ∀ k : Nat, k < 8 → (128 : Int) / 2 ^ k = ((2 ^ (7 - k) : Nat) : Int) ∧ 2 ^ (7 - k) < 256 := by decide
theorem flip_byte (c : UInt8) (k : Nat) (hk : k < 8) : ∃ y : UInt8, bits .xor .u8 (c.toNat : Int) (128 / 2 ^ k) = (y.toNat : Int) ∧ y.toNat = c.toNat ^^^ 2 ^ (7 - k) := by
  have hc := c.toNat_lt
  obtain ⟨h1, h2⟩ := pow7 k hk
  have h : c.toNat ^^^ 2 ^ (7 - k) < 256 := Nat.xor_lt_two_pow (n := 8) (by omega) (by omega)
  rw [h1]
  generalize 2 ^ (7 - k) = m at *
  refine ⟨UInt8.ofNat (c.toNat ^^^ m), ?_, ?_⟩
  · rw [u8_xor _ _ (by omega) (by omega) (by omega) (by omega), UInt8.toNat_ofNat', Nat.mod_eq_of_lt (by simpa using h)]; simp
  · rw [UInt8.toNat_ofNat', Nat.mod_eq_of_lt (by simpa using h)]

set_option maxHeartbeats 1600000 in
set_option maxRecDepth 100000 in
theorem flip_any (l : List UInt8) (bit : Nat) (mask : Int) (w : World) (hl : l.length ≤ 65536) (hb : bit ≤ 8 * l.length) (hm : 0 ≤ mask ∧ mask ≤ 4294967295) :
    Calls Try.prog 22 #[.string ⟨l.toArray⟩, .int .i64 (bit : Int), .int .u32 mask] w fun e w' => ∃ x, e = .returned (.string ⟨x.toArray⟩) ∧ Flipped l bit 32 x ∧ Below w.heap.size w w' := by
  obtain ⟨W2, cap2, hrun, hbW2, hltW, hcap, hbuf⟩ := run_bytes_ex (P := Try.prog) w 9 38 5 l Try.underlying9 Try.underlying38 Try.underlying5
  obtain ⟨hm0, hm1⟩ := hm
  go_enter Try.func22, Try.ntmps22
  go_wp2
  obtain ⟨g, hg⟩ : ∃ g, g = w.heap.size := ⟨_, rfl⟩
  rw [← hg] at hbuf hltW ⊢
  have hgw : w.heap.size ≤ g := by omega
  clear hg
  go_loopg [8] 32 (fun n v8 wr => ∃ (i : Nat) (x : List UInt8), i ≤ 32 ∧ n = 32 - i ∧ v8 = .int .i64 (i : Nat) ∧ BufAt wr g x ∧ Flipped l bit i x ∧ Below w.heap.size w wr)
  case atStart => exact ⟨0, l, by omega, rfl, rfl, hbuf, ⟨rfl, fun _ _ _ => rfl⟩, hbW2⟩
  case round =>
    clear hbuf hbW2
    obtain ⟨i, x, hi, rfl, rfl, hbuf, hx, hbr⟩ := hrel
    have hxl := Lib.hid hx.1
    by_cases hlt : i < 32
    · have h31 : (0 : Int) ≤ 31 - (i : Int) := by omega
      by_cases hat : (bit : Int) + (i : Int) < 8 * (l.length : Int)
      · have hq : (bit + i) / 8 < x.length := by have := hxl.out; omega
        obtain ⟨hcell, hfz⟩ := hbuf _ _ (List.getElem?_eq_getElem hq)
        obtain ⟨y, hy1, hy2⟩ := flip_byte x[(bit + i) / 8] ((bit + i) % 8) (by omega)
        have HY := Lib.hid hy1
        clear hy1
        go_wp2
        · go_roundg (32 - (i + 1))
          case measure => omega
          case rel => exact ⟨i + 1, _, by omega, rfl, by go_num, by rw [HY.out]; exact hbuf.set_ hq y, hx.step hq hy2, hbr.setCell hgw _⟩
        · go_roundg (32 - (i + 1))
          case measure => omega
          case rel => exact ⟨i + 1, x, by omega, rfl, by go_num, hbuf, hx.more, hbr⟩
      · go_wp2
        all_goals
          go_roundg (32 - (i + 1))
          case measure => omega
          case rel => exact ⟨i + 1, x, by omega, rfl, by go_num, hbuf, hx.more, hbr⟩
    · obtain rfl : i = 32 := by omega
      have hcv : (convert 38 9 (.slice (some ⟨g, 0, none⟩) l.length cap2)).run Try.prog wr = .ok (.string ⟨x.toArray⟩) wr := by
        have h := conv_bytes (hbuf.byS (c := cap2) (R := fun _ => True) (by rw [hxl.out]; exact hcap) (by rw [hxl.out]; unfold maxLen; omega) trivial)
        rw [hxl.out] at h
        exact h
      go_wp2
      go_ret
      exact ⟨x, rfl, hx, hbr⟩
end Go.Proofs.Ytffamkodckghgaa
