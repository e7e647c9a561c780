/- Records of a journal and their frames, as plain lists. -/
import Derived.Laws.BitsAllLaws
import Derived.IntWalk
namespace Go.Proofs.Ytffamkodckghgaa

/-- The checksum: one bit, one byte, all bytes. -/
def crcBit (r : Nat) : Nat := if r / 2147483648 = 1 then (r * 2 % 4294967296) ^^^ 517762881 else r * 2 % 4294967296
def crcBits : Nat → Nat → Nat
  | 0, r => r
  | n + 1, r => crcBits n (crcBit r)
def crcByte (r : Nat) (c : UInt8) : Nat := crcBits 8 (r ^^^ (c.toNat * 16777216))
def crc (l : List UInt8) : Nat := l.foldl crcByte 4294967295
theorem crcBit_lt (r : Nat) : crcBit r < 4294967296 := by
  unfold crcBit; split
  · exact Nat.xor_lt_two_pow (n := 32) (by omega) (by omega)
  · omega
theorem crcBits_lt (n : Nat) : ∀ r, r < 4294967296 → crcBits n r < 4294967296 := by
  induction n with
  | zero => intro r h; exact h
  | succ n ih => intro r _; exact ih _ (crcBit_lt r)
theorem crcBits_succ (n : Nat) : ∀ r, crcBits (n + 1) r = crcBit (crcBits n r) := by
  induction n with
  | zero => intro r; rfl
  | succ n ih => intro r; exact ih (crcBit r)
theorem byte_top (c : UInt8) : c.toNat * 16777216 < 4294967296 := by have := c.toNat_lt; omega
theorem crcByte_lt (r : Nat) (c : UInt8) (h : r < 4294967296) : crcByte r c < 4294967296 :=
  crcBits_lt _ _ (Nat.xor_lt_two_pow (n := 32) h (byte_top c))
theorem crc_fold_lt (l : List UInt8) : ∀ r, r < 4294967296 → l.foldl crcByte r < 4294967296 := by
  induction l with
  | nil => intro r h; exact h
  | cons c l ih => intro r h; exact ih _ (crcByte_lt r c h)
theorem crc_lt (l : List UInt8) : crc l < 4294967296 := crc_fold_lt l _ (by omega)
theorem crc_snoc (l : List UInt8) (c : UInt8) : crc (l ++ [c]) = crcByte (crc l) c := by simp [crc, List.foldl_append]

/-- Big-endian: the first k of size bytes of n. -/
def beTo (n size k : Nat) : List UInt8 := (List.range k).map fun j => UInt8.ofNat (n / 256 ^ (size - 1 - j))
theorem beTo_length (n size k : Nat) : (beTo n size k).length = k := by simp [beTo]
theorem beTo_succ (n size k : Nat) : beTo n size (k + 1) = beTo n size k ++ [UInt8.ofNat (n / 256 ^ (size - 1 - k))] := by simp [beTo, List.range_succ]
theorem pow_256 (m : Nat) : 2 ^ (8 * m) = 256 ^ m := by rw [Nat.pow_mul]
theorem byte_of (n m : Nat) : (n : Int) / 2 ^ (8 * m) % 256 = ((UInt8.ofNat (n / 256 ^ m)).toNat : Int) := by
  rw [UInt8.toNat_ofNat', ← pow_256]
  have e : ((n / 2 ^ (8 * m) % 2 ^ 8 : Nat) : Int) = (n : Int) / 2 ^ (8 * m) % 256 := by simp
  rw [e]

theorem ofInt_i64 (a : Nat) (ha : a < 9223372036854775808) : (BitVec.ofInt 64 (a : Int)).toNat = a := by
  rw [BitVec.ofInt_natCast, BitVec.toNat_ofNat]; exact Nat.mod_eq_of_lt (by omega)
theorem i64_or_nat (a b : Nat) (ha : a < 9223372036854775808) (hb : b < 9223372036854775808) : bits .or .i64 (a : Int) (b : Int) = ((a ||| b : Nat) : Int) := by
  have hx : a ||| b < 2 ^ 63 := Nat.or_lt_two_pow (by omega) (by omega)
  show IntKind.i64.wrap ((BitVec.ofInt 64 (a : Int) ||| BitVec.ofInt 64 (b : Int)).toNat : Int) = _
  rw [BitVec.toNat_or, ofInt_i64 a ha, ofInt_i64 b hb, IntKind.wrap_i64]
  omega
/-- The number of some bytes, the most significant first. -/
def num (l : List UInt8) : Nat := l.foldl (fun a c => a * 256 + c.toNat) 0
theorem num_snoc (l : List UInt8) (c : UInt8) : num (l ++ [c]) = num l * 256 + c.toNat := by simp [num, List.foldl_append]
theorem num_lt (l : List UInt8) : num l < 256 ^ l.length := by
  suffices h : ∀ (l : List UInt8) (a k : Nat), a < 256 ^ k → l.foldl (fun a c => a * 256 + c.toNat) a < 256 ^ (k + l.length) by have := h l 0 0 (by decide); rw [Nat.zero_add] at this; exact this
  intro l
  induction l with
  | nil => intro a k h; exact h
  | cons c l ih =>
    intro a k h
    have hc := c.toNat_lt
    have := ih (a * 256 + c.toNat) (k + 1) (by rw [Nat.pow_succ]; have : a + 1 ≤ 256 ^ k := h; omega)
    rw [List.length_cons, show k + (l.length + 1) = k + 1 + l.length from by omega]
    exact this
theorem num_or (n : Nat) (c : UInt8) (hn : n < 36028797018963968) : bits .or .i64 ((n : Int) * 256) (c.toNat : Int) = ((n * 256 + c.toNat : Nat) : Int) := by
  have hc := c.toNat_lt
  rw [show (n : Int) * 256 = ((n * 256 : Nat) : Int) from by omega, i64_or_nat _ _ (by omega) (by omega), nat_join 8 (n * 256) c.toNat (by omega) (by omega)]
/-- How many arguments a kind of record has. -/
def cntTab : List Int := [0, 1, 2, 4, 4, 2, 2, 4, 1, 1, 1, 2, 1, 1, 3]
def cnt (k : Int) : Int := if k < 1 ∨ 15 ≤ k then -1 else cntTab.getD k.toNat 0
theorem cnt_range (k : Int) : -1 ≤ cnt k ∧ cnt k ≤ 4 := by
  unfold cnt; split
  · omega
  · have h : ∀ j : Nat, j < 15 → 0 ≤ cntTab.getD j 0 ∧ cntTab.getD j 0 ≤ 4 := by decide
    have := h k.toNat (by omega); omega

structure Rec where
  kind : Int
  args : List Int
def okArg (a : Int) : Bool := decide (0 ≤ a) && decide (a ≤ 1099511627775)
def validR (r : Rec) : Bool := (cnt r.kind == (r.args.length : Int)) && r.args.all okArg
theorem okArg_low {x : Int} (h : x < 0) : okArg x = false := by simp [okArg]; omega
theorem okArg_high {x : Int} (h : 1099511627775 < x) : okArg x = false := by simp [okArg]; omega
theorem okArg_bad {x : Int} (h : x < 0 ∨ 1099511627775 < x) : okArg x = false := by simp [okArg]; omega
theorem okArg_mid {x : Int} (h : 0 ≤ x) (h' : x ≤ 1099511627775) : okArg x = true := by simp [okArg]; omega
theorem okArg_iff {x : Int} : okArg x = true ↔ 0 ≤ x ∧ x ≤ 1099511627775 := by simp [okArg]
theorem validR_bad {k : Int} {xs : List Int} {x : Int} (hm : x ∈ xs) (h : okArg x = false) : validR ⟨k, xs⟩ = false := by
  unfold validR
  have : xs.all okArg = false := by
    rw [List.all_eq_false]; exact ⟨x, hm, by simp [h]⟩
  simp [this]
theorem validR_count {k : Int} {xs : List Int} (h : cnt k ≠ (xs.length : Int)) : validR ⟨k, xs⟩ = false := by simp [validR, h]
theorem validR_good {k : Int} {xs : List Int} (h : cnt k = (xs.length : Int)) (ho : ∀ t ∈ xs, okArg t = true) : validR ⟨k, xs⟩ = true := by simp [validR, h]; exact ho
theorem validR_args {r : Rec} (h : validR r = true) : cnt r.kind = (r.args.length : Int) ∧ (∀ t ∈ r.args, 0 ≤ t ∧ t ≤ 1099511627775) ∧ r.args.length ≤ 4 ∧ 1 ≤ r.kind ∧ r.kind ≤ 14 := by
  simp [validR] at h
  have h1 := cnt_range r.kind
  refine ⟨h.1, fun t ht => okArg_iff.1 (h.2 t ht), by omega, ?_⟩
  have h2 : ¬ (r.kind < 1 ∨ 15 ≤ r.kind) := fun hk => by
    have := h.1; unfold cnt at this; rw [if_pos hk] at this; omega
  omega
theorem take_ok {xs : List Int} {x : Int} {j : Nat} (h : ∀ t ∈ xs.take j, okArg t = true) (he : xs.take (j + 1) = xs.take j ++ [x]) (hx : okArg x = true) : ∀ t ∈ xs.take (j + 1), okArg t = true := by
  rw [he]; intro t ht
  rcases List.mem_append.1 ht with h1 | h1
  · exact h t h1
  · rw [List.mem_singleton.1 h1]; exact hx
end Go.Proofs.Ytffamkodckghgaa
