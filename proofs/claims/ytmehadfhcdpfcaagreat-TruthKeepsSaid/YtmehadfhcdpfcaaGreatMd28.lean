/- A sealed sector with a burst flipped is not read: the checksum as a linear map on bits (as JBits). What the pieces of a made reality are. -/
import Derived.Test.YtmehadfhcdpfcaaGreatMd27
import Derived.Test.YtmehadfhcdpfcaaGreatMd18
import Derived.Test.YtmehadfhcdpfcaaGreatMd10
import Derived.Test.YtmehadfhcdpfcaaGreatMd19
import Derived.Test.YtmehadfhcdpfcaaGreatMd12
import Derived.Test.YtmehadfhcdpfcaaGreatMd13
import Derived.Test.YtmehadfhcdpfcaaGreatMd20
import Derived.Test.YtmehadfhcdpfcaaGreatMd21
import Derived.Test.YtmehadfhcdpfcaaGreatMd22
import Derived.Test.YtmehadfhcdpfcaaGreatMd23
import Derived.Test.YtmehadfhcdpfcaaGreatMd05
import Derived.BigQuiet
import Derived.Deep.QuietTactic
import Derived.Test.YtmehadfhcdpfcaaGreatMd24
import Derived.Test.YtmehadfhcdpfcaaGreatMd26
import Derived.Test.YtmehadfhcdpfcaaGreatMd11
namespace Go.Proofs.YtmehadfhcdpfcaaGreat
open Go.RowKit
set_option linter.unusedVariables false
set_option linter.unusedSimpArgs false
def mul2 (r : BitVec 32) : BitVec 32 := (r <<< 1) ^^^ (if r.msb then 517762881#32 else 0#32)
theorem mul2_xor (a b : BitVec 32) : mul2 (a ^^^ b) = mul2 a ^^^ mul2 b := by
 unfold mul2
 rw [BitVec.shiftLeft_xor_distrib, BitVec.msb_xor]
 generalize a <<< 1 = x
 generalize b <<< 1 = y
 cases a.msb <;> cases b.msb <;> simp [BitVec.xor_assoc]
 ·rw [BitVec.xor_comm]
 ·rw [BitVec.xor_comm y, ← BitVec.xor_assoc 517762881#32, BitVec.xor_self, BitVec.zero_xor]
theorem mul2_zero : mul2 0#32 = 0#32 := by decide
theorem shl_lsb (r : BitVec 32) : (r <<< 1).getLsbD 0 = false := by simp
theorem mul2_lsb (r : BitVec 32) : (mul2 r).getLsbD 0 = r.msb := by
 unfold mul2
 rw [BitVec.getLsbD_xor, shl_lsb]
 cases r.msb <;> simp
theorem mul2_inj {r : BitVec 32} (h : mul2 r = 0#32) : r = 0#32 := by
 have h0 := mul2_lsb r
 rw [h] at h0
 simp at h0
 unfold mul2 at h
 rw [h0] at h
 simp at h
 apply BitVec.eq_of_getLsbD_eq
 intro i hi
 by_cases hb : i = 31
 ·subst hb
  have : r.getLsbD 31 = r.msb := by rw [BitVec.msb_eq_getLsbD_last]
  rw [this, h0]; simp
 ·have h1 : (r <<< 1).getLsbD (i + 1) = r.getLsbD i := by
   rw [BitVec.getLsbD_shiftLeft]; simp; omega
  rw [← h1, h]; simp
def mulK : Nat → BitVec 32 → BitVec 32
 | 0, r => r
 | n + 1, r => mulK n (mul2 r)
theorem mulK_inj : ∀ (n : Nat) {r : BitVec 32}, mulK n r = 0#32 → r = 0#32 := by
 intro n
 induction n with
 | zero => intro r h; exact h
 | succ n ih => intro r h; exact mul2_inj (ih h)
theorem mulK_zero : ∀ n : Nat, mulK n 0#32 = 0#32 := by
 intro n
 induction n with
 | zero => rfl
 | succ n ih => show mulK n (mul2 0#32) = _; rw [mul2_zero, ih]
theorem mul2_nat (r : BitVec 32) : (mul2 r).toNat = crcBit r.toNat := by
 have hm : r.msb = decide (r.toNat / 2147483648 = 1) := by
  rw [BitVec.msb_eq_decide]
  have := r.isLt
  simp
  omega
 unfold mul2 crcBit
 rw [hm, BitVec.toNat_xor, BitVec.toNat_shiftLeft, Nat.shiftLeft_eq]
 by_cases h : r.toNat / 2147483648 = 1
 ·simp [h]
 ·simp [h]
theorem mulK_nat : ∀ (n : Nat) (r : BitVec 32), (mulK n r).toNat = crcBits n r.toNat := by
 intro n
 induction n with
 | zero => intro r; rfl
 | succ n ih => intro r; show (mulK n (mul2 r)).toNat = crcBits n (crcBit r.toNat); rw [ih, mul2_nat]
def inj (b : Bool) : BitVec 32 := if b then 2147483648#32 else 0#32
theorem inj_xor (a b : Bool) : inj (a ^^ b) = inj a ^^^ inj b := by cases a <;> cases b <;> decide
theorem inj_lsb (b : Bool) (j : Nat) (h : j < 31) : (inj b).getLsbD j = false := by
 cases b
 ·simp [inj]
 ·have : ∀ j : Nat, j < 31 → (2147483648#32).getLsbD j = false := by decide
  exact this j h
theorem inj_msb (b : Bool) : (inj b).msb = b := by cases b <;> decide
def runB (r : BitVec 32) (bs : List Bool) : BitVec 32 := bs.foldl (fun r b => mul2 (r ^^^ inj b)) r
theorem runB_cons (r : BitVec 32) (b : Bool) (bs : List Bool) : runB r (b :: bs) = runB (mul2 (r ^^^ inj b)) bs := rfl
theorem runB_append (r : BitVec 32) (bs cs : List Bool) : runB r (bs ++ cs) = runB (runB r bs) cs := by simp [runB, List.foldl_append]
theorem xor4 (a b c d : BitVec 32) : (a ^^^ b) ^^^ (c ^^^ d) = (a ^^^ c) ^^^ (b ^^^ d) := by
 rw [BitVec.xor_assoc, BitVec.xor_assoc, ← BitVec.xor_assoc b, BitVec.xor_comm b c, BitVec.xor_assoc c]
theorem runB_xor : ∀ (bs cs : List Bool) (a b : BitVec 32), bs.length = cs.length → runB (a ^^^ b) (List.zipWith (fun x y => x ^^ y) bs cs) = runB a bs ^^^ runB b cs := by
 intro bs
 induction bs with
 | nil => intro cs a b h; cases cs with
  | nil => rfl
  | cons c cs => simp at h
 | cons x bs ih =>
  intro cs a b h
  cases cs with
  | nil => simp at h
  | cons y cs =>
   rw [List.zipWith_cons_cons, runB_cons, runB_cons, runB_cons, ← ih cs _ _ (by simpa using h), inj_xor, xor4, mul2_xor]
theorem runB_false : ∀ (bs : List Bool) (r : BitVec 32), (∀ b ∈ bs, b = false) → runB r bs = mulK bs.length r := by
 intro bs
 induction bs with
 | nil => intro r _; rfl
 | cons b bs ih =>
  intro r h
  have hb := h b (by simp)
  subst hb
  rw [runB_cons, ih _ (fun x hx => h x (by simp [hx]))]
  show mulK bs.length (mul2 (r ^^^ 0#32)) = mulK bs.length (mul2 r)
  rw [BitVec.xor_zero]
def pat : List Bool → BitVec 32
 | [] => 0#32
 | b :: bs => inj b ^^^ (pat bs >>> 1)
theorem pat_lsb : ∀ (bs : List Bool) (j : Nat), bs.length + j ≤ 31 → (pat bs).getLsbD j = false := by
 intro bs
 induction bs with
 | nil => intro j _; simp [pat]
 | cons b bs ih =>
  intro j h
  rw [List.length_cons] at h
  rw [pat, BitVec.getLsbD_xor, BitVec.getLsbD_ushiftRight, inj_lsb b j (by omega), ih (1 + j) (by omega)]; rfl
theorem mul2_half {x : BitVec 32} (h : x.getLsbD 0 = false) : mul2 (x >>> 1) = x := by
 have hm : (x >>> 1).msb = false := by rw [BitVec.msb_eq_getLsbD_last, BitVec.getLsbD_ushiftRight]; simp
 unfold mul2
 rw [hm]
 simp
 apply BitVec.eq_of_getLsbD_eq
 intro i hi
 rw [BitVec.getLsbD_shiftLeft, BitVec.getLsbD_ushiftRight]
 by_cases h0 : i = 0
 ·subst h0; rw [h]; rfl
 ·have : 1 + (i - 1) = i := by omega
  rw [this]; simp; omega
theorem runB_pat : ∀ (bs : List Bool) (r : BitVec 32), bs.length ≤ 32 → runB r bs = mulK bs.length (r ^^^ pat bs) := by
 intro bs
 induction bs with
 | nil => intro r _; show r = r ^^^ 0#32; rw [BitVec.xor_zero]
 | cons b bs ih =>
  intro r h
  rw [List.length_cons] at h
  rw [runB_cons, ih _ (by omega)]
  show _ = mulK bs.length (mul2 (r ^^^ (inj b ^^^ (pat bs >>> 1))))
  rw [← BitVec.xor_assoc, mul2_xor (r ^^^ inj b), mul2_half (pat_lsb bs 0 (by omega))]
theorem pat_zero : ∀ (bs : List Bool), bs.length ≤ 32 → pat bs = 0#32 → ∀ b ∈ bs, b = false := by
 intro bs
 induction bs with
 | nil => intro _ _ b hb; cases hb
 | cons b bs ih =>
  intro h hp
  rw [List.length_cons] at h
  rw [pat] at hp
  have hm : (pat bs >>> 1).msb = false := by rw [BitVec.msb_eq_getLsbD_last, BitVec.getLsbD_ushiftRight]; simp
  have hb : b = false := by
   have := congrArg BitVec.msb hp
   rw [BitVec.msb_xor, hm, inj_msb] at this
   simpa using this
  subst hb
  have h2 : pat bs >>> 1 = 0#32 := by
   have e : inj false = 0#32 := rfl
   rw [e, BitVec.zero_xor] at hp
   exact hp
  have h3 : pat bs = 0#32 := by
   rw [← mul2_half (pat_lsb bs 0 (by omega)), h2, mul2_zero]
  intro x hx
  rcases List.mem_cons.1 hx with e | e
  ·exact e
  ·exact ih (by omega) h3 x e
theorem window (E : List Bool) (p : Nat) (hout : ∀ i, i < E.length → (i < p ∨ p + 32 ≤ i) → E[i]? = some false) (h : runB 0#32 E = 0#32) : ∀ b ∈ E, b = false := by
 have e : E = E.take p ++ ((E.drop p).take 32 ++ (E.drop p).drop 32) := by rw [List.take_append_drop, List.take_append_drop]
 have h1 : ∀ b ∈ E.take p, b = false := by
  intro b hb
  obtain ⟨i, hi, rfl⟩ := List.getElem_of_mem hb
  rw [List.length_take] at hi
  have := hout i (by omega) (.inl (by omega))
  rw [List.getElem?_eq_getElem (by omega)] at this
  rw [List.getElem_take]
  simpa using this
 have h3 : ∀ b ∈ (E.drop p).drop 32, b = false := by
  intro b hb
  rw [List.drop_drop] at hb
  obtain ⟨i, hi, rfl⟩ := List.getElem_of_mem hb
  rw [List.length_drop] at hi
  have := hout (p + 32 + i) (by omega) (.inr (by omega))
  rw [List.getElem?_eq_getElem (by omega)] at this
  rw [List.getElem_drop]
  simpa using this
 have hl : ((E.drop p).take 32).length ≤ 32 := List.length_take_le _ _
 rw [e, runB_append, runB_append, runB_false _ _ h1, mulK_zero, runB_false _ _ h3] at h
 have h2 := mulK_inj _ h
 rw [runB_pat _ _ hl, BitVec.zero_xor] at h2
 have h4 := pat_zero _ hl (mulK_inj _ h2)
 intro b hb
 rw [e] at hb
 rcases List.mem_append.1 hb with h | h
 ·exact h1 b h
 ·rcases List.mem_append.1 h with h | h
  ·exact h4 b h
  ·exact h3 b h
def bitsN (n : Nat) : List Bool := (List.range 8).map fun t => n.testBit (7 - t)
def bitsB (c : UInt8) : List Bool := bitsN c.toNat
def bitsL (l : List UInt8) : List Bool := l.flatMap bitsB
theorem bitsB_length (c : UInt8) : (bitsB c).length = 8 := by simp [bitsB, bitsN]
theorem pat_byteN : ∀ n : Nat, n < 256 → pat (bitsN n) = BitVec.ofNat 32 (n * 16777216) := by decide +kernel
theorem crcByte_run (r : BitVec 32) (c : UInt8) : crcByte r.toNat c = (runB r (bitsB c)).toNat := by
 have hc := c.toNat_lt
 rw [runB_pat _ _ (by rw [bitsB_length]; omega), bitsB_length, mulK_nat, BitVec.toNat_xor]
 unfold crcByte bitsB
 rw [pat_byteN _ (by omega), BitVec.toNat_ofNat, Nat.mod_eq_of_lt (by omega)]
theorem fold_run : ∀ (l : List UInt8) (r : BitVec 32), l.foldl crcByte r.toNat = (runB r (bitsL l)).toNat := by
 intro l
 induction l with
 | nil => intro r; rfl
 | cons c l ih =>
  intro r
  rw [List.foldl_cons, crcByte_run, ih]
  show _ = (runB r (bitsB c ++ bitsL l)).toNat
  rw [runB_append]
theorem bitsL_eq : ∀ l : List UInt8, bitsL l = (List.range (8 * l.length)).map (bitAt l) := by
 intro l
 induction l with
 | nil => rfl
 | cons c l ih =>
  show bitsB c ++ bitsL l = _
  have e : 8 * (c :: l).length = 8 + 8 * l.length := by rw [List.length_cons]; omega
  rw [e, List.range_add, List.map_append, ih, List.map_map]
  congr 1
  apply List.map_congr_left
  intro i _
  show bitAt l i = bitAt (c :: l) (8 + i)
  unfold bitAt
  rw [show (8 + i) / 8 = i / 8 + 1 from by omega, show (8 + i) % 8 = i % 8 from by omega]
  rfl
theorem bytes_of_bits {l m : List UInt8} (hl : l.length = m.length) (h : ∀ p, p < 8 * l.length → bitAt l p = bitAt m p) : l = m := by
 apply List.ext_getElem hl
 intro j h1 h2
 apply UInt8.toNat_inj.1
 apply Nat.eq_of_testBit_eq
 intro i
 by_cases hi : i < 8
 ·have := h (8 * j + (7 - i)) (by omega)
  unfold bitAt at this
  rw [show (8 * j + (7 - i)) / 8 = j from by omega, show 7 - (8 * j + (7 - i)) % 8 = i from by omega] at this
  simpa [List.getD, h1, h2] using this
 ·have hb : ∀ c : UInt8, c.toNat.testBit i = false := fun c => Nat.testBit_lt_two_pow (Nat.lt_of_lt_of_le c.toNat_lt (Nat.pow_le_pow_right (by omega) (by omega)))
  rw [hb, hb]
theorem crcBits_small : ∀ (n r : Nat), r * 2 ^ n < 4294967296 → crcBits n r = r * 2 ^ n := by
 intro n
 induction n with
 | zero => intro r _; simp [crcBits]
 | succ n ih =>
  intro r h
  have e : r * 2 ^ (n + 1) = r * 2 * 2 ^ n := by rw [Nat.pow_succ, Nat.mul_assoc, Nat.mul_comm 2]
  have hp : 1 ≤ 2 ^ n := Nat.one_le_two_pow
  have h2 : r * 2 < 4294967296 := Nat.lt_of_le_of_lt (Nat.le_mul_of_pos_right _ hp) (by rw [e] at h; exact h)
  have hb : crcBit r = r * 2 := by
   unfold crcBit
   rw [if_neg (by omega), Nat.mod_eq_of_lt h2]
  show crcBits n (crcBit r) = _
  rw [hb, ih _ (by rw [e] at h; exact h), e]
theorem xor_top (n : Nat) : n ^^^ (n / 16777216 * 16777216) = n % 16777216 := by
 apply Nat.eq_of_testBit_eq
 intro i
 rw [show (16777216 : Nat) = 2 ^ 24 from rfl]
 simp only [Nat.testBit_xor, Nat.testBit_mul_two_pow, Nat.testBit_div_two_pow, Nat.testBit_mod_two_pow]
 by_cases h : 24 ≤ i
 ·simp [h, Nat.sub_add_cancel h, Nat.not_lt.2 h]
 ·simp [h, Nat.lt_of_not_le h]
theorem crcByte_top (n : Nat) (h : n < 4294967296) : crcByte n (UInt8.ofNat (n / 16777216)) = n % 16777216 * 256 := by
 unfold crcByte
 rw [UInt8.toNat_ofNat', Nat.mod_eq_of_lt (by omega), xor_top, crcBits_small _ _ (by omega)]
theorem crc_own (N : Nat) (h : N < 4294967296) : (beTo N 4 4).foldl crcByte N = 0 := by
 have e : beTo N 4 4 = [UInt8.ofNat (N / 16777216), UInt8.ofNat (N / 65536), UInt8.ofNat (N / 256), UInt8.ofNat N] := by simp [beTo, List.range_succ]
 have ofN : ∀ a b : Nat, a % 256 = b % 256 → UInt8.ofNat a = UInt8.ofNat b := fun a b hab => by
  apply UInt8.toNat_inj.1; rw [UInt8.toNat_ofNat', UInt8.toNat_ofNat']; exact hab
 rw [e]
 simp only [List.foldl_cons, List.foldl_nil]
 rw [crcByte_top N h, ofN (N / 65536) (N % 16777216 * 256 / 16777216) (by omega), crcByte_top _ (by omega),
  ofN (N / 256) (N % 16777216 * 256 % 16777216 * 256 / 16777216) (by omega), crcByte_top _ (by omega),
  ofN N (N % 16777216 * 256 % 16777216 * 256 % 16777216 * 256 / 16777216) (by omega), crcByte_top _ (by omega)]
 omega
theorem seal_run (a : List UInt8) : runB 4294967295#32 (bitsL (sealB a)) = 0#32 := by
 apply BitVec.eq_of_toNat_eq
 rw [← fold_run]
 unfold sealB
 rw [List.foldl_append]
 exact crc_own _ (crc_lt _)
theorem burst_seal {a b l m : List UInt8} (hl : l = sealB a) (hm : m = sealB b) (p : Nat) (h : Win p l m) : m = l := by
 have r1 : runB 4294967295#32 (bitsL l) = 0#32 := by rw [hl]; exact seal_run a
 have r2 : runB 4294967295#32 (bitsL m) = 0#32 := by rw [hm]; exact seal_run b
 have l2 : m.length = l.length := h.1
 have hx := runB_xor (bitsL l) (bitsL m) 4294967295#32 4294967295#32 (by rw [bitsL_eq, bitsL_eq]; simp [l2])
 rw [r1, r2, BitVec.xor_self, BitVec.xor_self] at hx
 have hE : ∀ i, i < 8 * l.length → (List.zipWith (fun x y => x ^^ y) (bitsL l) (bitsL m))[i]? = some (bitAt l i ^^ bitAt m i) := by
  intro i hi
  rw [bitsL_eq, bitsL_eq, l2, List.getElem?_zipWith]
  simp [hi]
 have hlen : (List.zipWith (fun x y => x ^^ y) (bitsL l) (bitsL m)).length = 8 * l.length := by
  rw [List.length_zipWith, bitsL_eq, bitsL_eq]; simp [l2]
 have hall := window _ p (fun i hi ho => by rw [hE i (by omega), h.2 i ho]; simp) hx
 refine (bytes_of_bits l2.symm fun q hq => ?_).symm
 have := hall _ (List.mem_of_getElem? (hE q (by omega)))
 simpa using this
theorem num_beK (n size : Nat) : ∀ k, k ≤ size → num (beTo n size k) = n / 256 ^ (size - k) % 256 ^ k := by
 intro k
 induction k with
 | zero => intro _; simp [beTo, num, Nat.mod_one]
 | succ k ih =>
  intro hk
  rw [beTo_succ, num_snoc, ih (by omega), UInt8.toNat_ofNat']
  have e : n / 256 ^ (size - k) = n / 256 ^ (size - 1 - k) / 256 := by
   rw [Nat.div_div_eq_div_mul, ← Nat.pow_succ]
   congr 2; omega
  rw [e, show size - (k + 1) = size - 1 - k from by omega]
  generalize n / 256 ^ (size - 1 - k) = m
  have h1 : (256 : Nat) ^ (k + 1) = 256 * 256 ^ k := by rw [Nat.pow_succ, Nat.mul_comm]
  rw [h1, Nat.mod_mul]
  generalize m / 256 % 256 ^ k = q
  omega
theorem num_b5 {n : Nat} (h : n ≤ 1099511627775) : num (beTo n 5 5) = n := by
 rw [num_beK n 5 5 (Nat.le_refl _)]
 simp only [Nat.sub_self, Nat.pow_zero, Nat.div_one]
 exact Nat.mod_eq_of_lt (by omega)
theorem enc_parts (q : Pc) : encB q = [93, UInt8.ofNat q.vol.toNat, UInt8.ofNat q.frag.toNat, UInt8.ofNat q.stripe.toNat] ++ (beTo q.gen.toNat 5 5 ++ (beTo q.ver.toNat 5 5 ++ ([0, 0] ++ (q.data ++ beTo (crc (headB q)) 4 4)))) := by
 unfold encB sealB
 conv => lhs; lhs; unfold headB
 simp only [List.append_assoc]
theorem decP_enc (q : Pc) (h : validP q = true) : decP (encB q) = q := by
 obtain ⟨h1, h2, h3, h4, h5, h6, h7, h8, h9, h10, h11⟩ := validP_iff.1 h
 obtain ⟨a, b, c, g, r, d⟩ := q
 simp only at h1 h2 h3 h4 h5 h6 h7 h8 h9 h10 h11
 have b1 : ∀ x : Int, 0 ≤ x → x < 256 → (((UInt8.ofNat x.toNat).toNat : Nat) : Int) = x := fun x p q => by
  rw [UInt8.toNat_ofNat']; omega
 have g5 := beTo_length g.toNat 5 5
 have r5 := beTo_length r.toNat 5 5
 have e4 : (encB ⟨a, b, c, g, r, d⟩).drop 4 = beTo g.toNat 5 5 ++ (beTo r.toNat 5 5 ++ ([0, 0] ++ (d ++ beTo (crc (headB ⟨a, b, c, g, r, d⟩)) 4 4))) := by rw [enc_parts]; rfl
 have e9 : (encB ⟨a, b, c, g, r, d⟩).drop 9 = beTo r.toNat 5 5 ++ ([0, 0] ++ (d ++ beTo (crc (headB ⟨a, b, c, g, r, d⟩)) 4 4)) := by
  have : (encB ⟨a, b, c, g, r, d⟩).drop 9 = ((encB ⟨a, b, c, g, r, d⟩).drop 4).drop 5 := by rw [List.drop_drop]
  rw [this, e4, List.drop_left' g5]
 have e16 : (encB ⟨a, b, c, g, r, d⟩).drop 16 = d ++ beTo (crc (headB ⟨a, b, c, g, r, d⟩)) 4 4 := by
  have : (encB ⟨a, b, c, g, r, d⟩).drop 16 = (((encB ⟨a, b, c, g, r, d⟩).drop 9).drop 5).drop 2 := by rw [List.drop_drop, List.drop_drop]
  rw [this, e9, List.drop_left' r5]; rfl
 unfold decP
 rw [e4, e9, e16, List.take_left' g5, List.take_left' r5, List.take_left' h11, num_b5 (by omega), num_b5 (by omega)]
 have f1 : (encB ⟨a, b, c, g, r, d⟩).getD 1 0 = UInt8.ofNat a.toNat := by rw [enc_parts]; rfl
 have f2 : (encB ⟨a, b, c, g, r, d⟩).getD 2 0 = UInt8.ofNat b.toNat := by rw [enc_parts]; rfl
 have f3 : (encB ⟨a, b, c, g, r, d⟩).getD 3 0 = UInt8.ofNat c.toNat := by rw [enc_parts]; rfl
 rw [f1, f2, f3, b1 _ (by omega) (by omega), b1 _ (by omega) (by omega), b1 _ (by omega) (by omega)]
 congr 1 <;> omega
theorem dec_zero {l : List UInt8} (h : decEr l = 0) : l.length = 36 ∧ encB (decP l) = l ∧ l ≠ List.replicate 36 0 := by
 unfold decEr at h
 by_cases h1 : l.length ≠ 36
 ·rw [if_pos h1] at h; cases h
 ·rw [if_neg h1] at h
  by_cases h2 : l = List.replicate 36 0
  ·rw [if_pos h2] at h; cases h
  ·rw [if_neg h2] at h
   by_cases h3 : sealB (l.take 32) ≠ l
   ·rw [if_pos h3] at h; cases h
   ·rw [if_neg h3] at h
    by_cases h4 : validP (decP l) = true ∧ encB (decP l) = l
    ·exact ⟨by omega, h4.2, h2⟩
    ·rw [if_neg h4] at h; cases h
theorem keys_nodup {F : FltM} (hok : FleetOk 2 F) : (keysTo F.ext.toNat F.vols.length 0).Nodup := by
 have h1 := hok.volN
 generalize F.vols.length = n at h1
 rcases hok.ext with e | e <;> rw [e] <;> (match n, h1 with | 0, _ => decide | 1, _ => decide | 2, _ => decide)
theorem stp_eq {F : FltM} {r : Re} {st : List Stp} (hok : FleetOk 2 F) (hmo : MadeOk F r st) {x y : Stp} (hx : x ∈ st) (hy : y ∈ st) (e1 : x.vol = y.vol) (e2 : x.stripe = y.stripe) : x = y := by
 have hn := keys_nodup hok
 rw [← hmo.keys] at hn
 obtain ⟨i, hi, rfl⟩ := List.getElem_of_mem hx
 obtain ⟨j, hj, rfl⟩ := List.getElem_of_mem hy
 have e : (st.map (fun x => (x.vol, x.stripe)))[i]'(by rw [List.length_map]; exact hi) = (st.map (fun x => (x.vol, x.stripe)))[j]'(by rw [List.length_map]; exact hj) := by
  rw [List.getElem_map, List.getElem_map, e1, e2]
 have := (List.getElem_inj hn).1 e
 subst this; rfl
theorem stp_in {F : FltM} {r : Re} {st : List Stp} (hmo : MadeOk F r st) {v s : Nat} (hv : v < F.vols.length) (hs : s < F.ext.toNat) : ∃ x ∈ st, x.vol = v ∧ x.stripe = s := by
 have hm : (v, s) ∈ st.map (fun x => (x.vol, x.stripe)) := by
  rw [hmo.keys]
  unfold keysTo
  exact List.mem_append_left _ (List.mem_flatMap.2 ⟨v, List.mem_range.2 hv, List.mem_map.2 ⟨s, List.mem_range.2 hs, rfl⟩⟩)
 obtain ⟨x, hx, he⟩ := List.mem_map.1 hm
 injection he with e1 e2
 exact ⟨x, hx, e1, e2⟩
theorem stp_ver {F : FltM} {r : Re} {st : List Stp} (hok : FleetOk 2 F) (hmo : MadeOk F r st) {x : Stp} (hx : x ∈ st) : verOf r.acks (x.vol : Int) (x.stripe : Int) = some (x.ver : Int) := by
 unfold verOf
 rw [hmo.acks]
 cases hf : (st.map Stp.ack).find? (fun a => a.vol == (x.vol : Int) && a.stripe == (x.stripe : Int)) with
 | none =>
  rw [List.find?_eq_none] at hf
  have := hf x.ack (List.mem_map.2 ⟨x, hx, rfl⟩)
  simp [Stp.ack] at this
 | some a =>
  obtain ⟨y, hy, rfl⟩ := List.mem_map.1 (List.mem_of_find?_eq_some hf)
  have hp := List.find?_some hf
  simp [Stp.ack] at hp
  have := stp_eq hok hmo hy hx (by omega) (by omega)
  subst this
  rfl
theorem piece_valid {F : FltM} {x : Stp} (hok : FleetOk 2 F) (hx : StpOk F x) {i g : Nat} {old : Bool} (hi : i < x.k + x.m) (h1 : 1 ≤ g) (h3 : g ≤ 3) : validP (x.piece i g old) = true := by
 obtain ⟨v, p, hv, -, -, -⟩ := hx.pol
 have hl := (List.getElem?_eq_some_iff.1 hv).1
 have h2 := hok.volN
 have k2 := hx.k2
 have m2 := hx.m2
 have v1 := hx.ver1
 have v2 := hx.ver2
 have s1 := hx.stripe
 have hw : (x.word.getD i []).length = 16 := (wordT_wide x.k (x.k + x.m) x.rows 16).getD (by rw [wordT_length]; exact hi)
 unfold Stp.piece
 cases old
 ·exact validP_iff.2 ⟨by simp only [Bool.false_eq_true, if_false]; omega, by simp only [Bool.false_eq_true, if_false]; omega, by simp only [Bool.false_eq_true, if_false]; omega, by simp only [Bool.false_eq_true, if_false]; omega, by simp only [Bool.false_eq_true, if_false]; omega, by simp only [Bool.false_eq_true, if_false]; omega, by simp only [Bool.false_eq_true, if_false]; omega, by simp only [Bool.false_eq_true, if_false]; omega, by simp only [Bool.false_eq_true, if_false]; omega, by simp only [Bool.false_eq_true, if_false]; omega, by simp only [Bool.false_eq_true, if_false]; exact hw⟩
 ·exact validP_iff.2 ⟨by simp only [if_true]; omega, by simp only [if_true]; omega, by simp only [if_true]; omega, by simp only [if_true]; omega, by simp only [if_true]; omega, by simp only [if_true]; omega, by simp only [if_true]; omega, by simp only [if_true]; omega, by simp only [if_true]; omega, by simp only [if_true]; omega, rfl⟩
theorem sec_read {F : FltM} {st : List Stp} (hok : FleetOk 2 F) (hst : ∀ x ∈ st, StpOk F x) {s : List UInt8} (hs : SecOk st s) (he : decEr s = 0) : ∃ x ∈ st, ∃ i g old, i < x.k + x.m ∧ 1 ≤ g ∧ g ≤ 3 ∧ decP s = x.piece i g old := by
 obtain ⟨h1, h2, h3⟩ := dec_zero he
 rcases hs with e | ⟨x, hx, i, g, old, bit, hi, hg1, hg3, hw⟩
 ·exact absurd e h3
 ·have e : s = encB (x.piece i g old) := burst_seal (a := headB (x.piece i g old)) (b := headB (decP s)) rfl h2.symm bit hw
  exact ⟨x, hx, i, g, old, hi, hg1, hg3, by rw [e, decP_enc _ (piece_valid hok (hst x hx) hi hg1 hg3)]⟩
theorem pieces_made {F : FltM} {r : Re} {st : List Stp} (hok : FleetOk 2 F) (hmo : MadeOk F r st) : ∀ f ∈ pieces r, ∃ x ∈ st, ∃ i g, i < x.k + x.m ∧ f.p = x.piece i g false := by
 intro f hf
 unfold pieces piecesTo at hf
 obtain ⟨d, hd, hf⟩ := List.mem_flatMap.1 hf
 rw [List.mem_range] at hd
 unfold drvP at hf
 obtain ⟨s, hs, hf⟩ := List.mem_filterMap.1 hf
 have hl : r.plat.getD d [] ∈ r.plat := by rw [List.getD, List.getElem?_eq_getElem hd]; exact List.getElem_mem hd
 have hsec := hmo.sec _ hl s hs
 unfold goodP at hf
 by_cases hc : decEr s.data.toList = 0 ∧ verOf r.acks (decP s.data.toList).vol (decP s.data.toList).stripe = some (decP s.data.toList).ver
 ·rw [if_pos hc] at hf
  injection hf with hf
  subst hf
  obtain ⟨x, hx, i, g, old, hi, -, -, e⟩ := sec_read hok hmo.ok hsec hc.1
  have hv := hc.2
  rw [e] at hv
  cases old with
  | false => exact ⟨x, hx, i, g, hi, e⟩
  | true =>
   have h1 : (x.piece i g true).vol = (x.vol : Int) := rfl
   have h2 : (x.piece i g true).stripe = (x.stripe : Int) := rfl
   have h3 : (x.piece i g true).ver = (x.ver : Int) - 1 := rfl
   rw [h1, h2, h3, stp_ver hok hmo hx] at hv
   injection hv with hv
   omega
 ·rw [if_neg hc] at hf; cases hf
theorem stripe_made {F : FltM} {r : Re} {st : List Stp} (hok : FleetOk 2 F) (hmo : MadeOk F r st) {x : Stp} (hx : x ∈ st) : ∀ f ∈ stripeP (pieces r) (x.vol : Int) (x.stripe : Int), ∃ i : Nat, i < x.k + x.m ∧ f.p.frag = (i : Int) ∧ f.p.data = x.word.getD i [] := by
 intro f hf
 obtain ⟨h1, h2⟩ := List.mem_filter.1 hf
 obtain ⟨y, hy, i, g, hi, e⟩ := pieces_made hok hmo f h1
 rw [e] at h2
 have e1 : (y.piece i g false).vol = (y.vol : Int) := rfl
 have e2 : (y.piece i g false).stripe = (y.stripe : Int) := rfl
 rw [e1, e2] at h2
 simp at h2
 have := stp_eq hok hmo hy hx (by omega) (by omega)
 subst this
 exact ⟨i, hi, by rw [e]; rfl, by rw [e]; rfl⟩
theorem outTo_nodup (r : Re) (up : Bool) (l : List Fd) (n : Int) (j : Nat) : (outTo r up l n j).Nodup ∧ ∀ x ∈ outTo r up l n j, ∃ i : Nat, i < j ∧ x = (i : Int) := by
 induction j with
 | zero => exact ⟨List.nodup_nil, fun x hx => by cases hx⟩
 | succ j ih =>
  rw [outTo_succ]
  have hm : ∀ x ∈ (if hasB r up l j = true ∧ (j : Int) < n then [(j : Int)] else []), x = (j : Int) := by
   intro x hx
   split at hx
   ·simpa using hx
   ·cases hx
  refine ⟨List.nodup_append.2 ⟨ih.1, by split <;> simp, fun a ha b hb e => ?_⟩, fun x hx => ?_⟩
  ·obtain ⟨i, hi, e1⟩ := ih.2 a ha
   have := hm b hb
   omega
  ·rcases List.mem_append.1 hx with h | h
   ·obtain ⟨i, hi, e1⟩ := ih.2 x h
    exact ⟨i, by omega, e1⟩
   ·exact ⟨j, by omega, hm x h⟩
theorem outTo_up (r : Re) (l : List Fd) (n : Int) (j : Nat) : (outTo r true l n j).length ≤ (outTo r false l n j).length := by
 induction j with
 | zero => exact Nat.le_refl _
 | succ j ih =>
  rw [outTo_succ, outTo_succ, List.length_append, List.length_append]
  have hh : hasB r true l j = true → hasB r false l j = true := fun h => by
   unfold hasB at h ⊢
   rw [List.any_eq_true] at h ⊢
   obtain ⟨x, hx, he⟩ := h
   refine ⟨x, hx, ?_⟩
   rw [Bool.and_eq_true] at he
   rw [he.1]; rfl
  by_cases h1 : hasB r true l j = true ∧ (j : Int) < n
  ·rw [if_pos h1, if_pos ⟨hh h1.1, h1.2⟩]; simp; exact ih
  ·rw [if_neg h1]; simp; omega
theorem keeps_plain {F : FltM} {r : Re} {st : List Stp} (hok : FleetOk 2 F) (hmo : MadeOk F r st) {x : Stp} (hx : x ∈ st) (up : Bool) :
  (x.k ≤ (frT r x.vol x.stripe up (x.k + x.m)).length → conE r x.vol x.stripe up x.k (x.k + x.m) = 0 ∧ conS r x.vol x.stripe up x.k (x.k + x.m) = x.rows.flatten) ∧
  ((frT r x.vol x.stripe up (x.k + x.m)).length < x.k → conE r x.vol x.stripe up x.k (x.k + x.m) = 121) := by
 refine ⟨fun hl => ?_, fun hl => by unfold conE; rw [if_pos hl]⟩
 have hst := hmo.ok x hx
 have hfrs : Frs (wordT x.k (x.k + x.m) x.rows 16) (x.k + x.m) (hvT r x.vol x.stripe up x.k (x.k + x.m)) := by
  refine ⟨fun h hh => ?_, ?_⟩
  ·obtain ⟨i, hi, rfl⟩ := List.mem_map.1 hh
   have him : i ∈ outTo r up (stripeP (pieces r) (x.vol : Int) (x.stripe : Int)) ((x.k + x.m : Nat) : Int) 8 := List.mem_of_mem_take hi
   obtain ⟨t, ht, -, hf⟩ := idxC_ok r up _ _ i him
   obtain ⟨a, ha, e1, e2⟩ := stripe_made hok hmo hx _ (List.getElem_mem ht)
   have hs := List.find?_some hf
   unfold srcC at hs
   rw [Bool.and_eq_true, beq_iff_eq] at hs
   refine ⟨a, ha, ?_, ?_⟩
   ·show i = _
    rw [← hs.1, e1]
   ·unfold pickF
    rw [hf]
    exact e2
  ·obtain ⟨h1, h2⟩ := outTo_nodup r up (stripeP (pieces r) (x.vol : Int) (x.stripe : Int)) ((x.k + x.m : Nat) : Int) 8
   have h3 : idxL (hvT r x.vol x.stripe up x.k (x.k + x.m)) = ((frT r x.vol x.stripe up (x.k + x.m)).take x.k).map Int.toNat := by
    unfold idxL hvT
    rw [List.map_map]
    rfl
   rw [h3, List.Nodup, List.pairwise_map]
   have h4 : ((frT r x.vol x.stripe up (x.k + x.m)).take x.k).Nodup := h1.sublist (List.take_sublist _ _)
   refine List.Pairwise.imp_of_mem (fun {a b} ha hb hab e => hab ?_) h4
   obtain ⟨i, -, e1⟩ := h2 a (List.mem_of_mem_take ha)
   obtain ⟨j, -, e2⟩ := h2 b (List.mem_of_mem_take hb)
   omega
 have hk1 := hst.k1
 have hk2 := hst.k2
 have hm2 := hst.m2
 have hlen : (hvT r x.vol x.stripe up x.k (x.k + x.m)).length = x.k := by
  unfold hvT
  rw [List.length_map, List.length_take]; omega
 obtain ⟨h1, h2, h3⟩ := frs_dec x.k x.m 16 x.rows _ ((codeB_iff _ _).2 ⟨by omega, by omega, by omega, by omega, by omega⟩) hst.len hst.wide hfrs (by omega)
 have he : (((x.k + x.m : Nat) : Int) - (x.k : Int)) = (x.m : Int) := by omega
 unfold conE conS
 rw [if_neg (by omega), if_neg (by omega), he, h1, if_pos rfl, h2, h3, wordT_take _ _ _ _ hst.len hst.wide (by omega)]
 exact ⟨rfl, rfl⟩
def cpC (x : Nat × Int) : List Value := [.int .i64 (x.1 : Int), .int .i64 x.2, .int .i64 1]
def CpK (w : World) (R : Nat → Prop) (cs : List Value) (x : Nat × Int) : Prop := cs = cpC x









def HeldO (W0 : World) (p b o : Nat) (x0 x1 x2 y0 y1 y2 : Value) (w' : World) : Prop :=
 w'.cell? ⟨p, 0, none⟩ = some x0 ∧ w'.cell? ⟨p, 1, none⟩ = some x1 ∧ w'.cell? ⟨p, 2, none⟩ = some x2 ∧ w'.cell? ⟨b, o, none⟩ = some y0 ∧ w'.cell? ⟨b, o + 1, none⟩ = some y1 ∧ w'.cell? ⟨b, o + 2, none⟩ = some y2 ∧ Below W0.heap.size W0 w'
theorem HeldO.below {W0 wc w2 : World} {p b o : Nat} {x0 x1 x2 y0 y1 y2 : Value} (h : HeldO W0 p b o x0 x1 x2 y0 y1 y2 wc) (hb : Below wc.heap.size wc w2) (hp : p < W0.heap.size) (hbb : b < W0.heap.size) : HeldO W0 p b o x0 x1 x2 y0 y1 y2 w2 := by
 obtain ⟨d0, d1, d2, e0, e1, e2, hB⟩ := h
 have hs := hB.size
 have m : ∀ i, w2.cell? ⟨p, i, none⟩ = wc.cell? ⟨p, i, none⟩ := fun i => hb.cell (p := ⟨p, i, none⟩) (Nat.lt_of_lt_of_le hp hs)
 have m' : ∀ i, w2.cell? ⟨b, i, none⟩ = wc.cell? ⟨b, i, none⟩ := fun i => hb.cell (p := ⟨b, i, none⟩) (Nat.lt_of_lt_of_le hbb hs)
 exact ⟨(m _).trans d0, (m _).trans d1, (m _).trans d2, (m' _).trans e0, (m' _).trans e1, (m' _).trans e2, hB.trans (hb.mono hs)⟩
theorem HeldO.bl {W0 wc : World} {p b o : Nat} {x0 x1 x2 y0 y1 y2 : Value} (h : HeldO W0 p b o x0 x1 x2 y0 y1 y2 wc) : Below W0.heap.size W0 wc := h.2.2.2.2.2.2
theorem HeldO.ls {W0 wc : World} {p b o : Nat} {x0 x1 x2 y0 y1 y2 v : Value} {l : List Nat} (h : HeldO W0 p b o x0 x1 x2 y0 y1 y2 wc) (hl : LS W0 (Bl W0.heap.size) v l) : LS wc (Bl wc.heap.size) v l := hl.below h.bl
theorem HeldO.set3 {W0 wc : World} {p b o y : Nat} {x0 x1 x2 y0 y1 y2 v0 v1 v2 : Value} (h : HeldO W0 p b o x0 x1 x2 y0 y1 y2 wc) (hy : W0.heap.size ≤ y) (hp : p < W0.heap.size) (hbb : b < W0.heap.size) : HeldO W0 p b o x0 x1 x2 y0 y1 y2 (((wc.setCell ⟨y, 0, none⟩ v0).setCell ⟨y, 1, none⟩ v1).setCell ⟨y, 2, none⟩ v2) := by
 obtain ⟨d0, d1, d2, e0, e1, e2, hB⟩ := h
 have m : ∀ i, (((wc.setCell ⟨y, 0, none⟩ v0).setCell ⟨y, 1, none⟩ v1).setCell ⟨y, 2, none⟩ v2).cell? ⟨p, i, none⟩ = wc.cell? ⟨p, i, none⟩ := fun i => World.cell?_of_block (a := ⟨p, i, none⟩) (kept_set3 wc y v0 v1 v2 (fun q => q = p) (fun q e => by omega) p rfl)
 have m' : ∀ i, (((wc.setCell ⟨y, 0, none⟩ v0).setCell ⟨y, 1, none⟩ v1).setCell ⟨y, 2, none⟩ v2).cell? ⟨b, i, none⟩ = wc.cell? ⟨b, i, none⟩ := fun i => World.cell?_of_block (a := ⟨b, i, none⟩) (kept_set3 wc y v0 v1 v2 (fun q => q = b) (fun q e => by omega) b rfl)
 exact ⟨(m _).trans d0, (m _).trans d1, (m _).trans d2, (m' _).trans e0, (m' _).trans e1, (m' _).trans e2, below_set3 hB hy v0 v1 v2⟩


def condR (lost : Bool) (a u k : Int) : Bool := if lost then decide (a < k) else !decide (a < k) && decide (u < k)
def HeldY (W0 : World) (z y : Nat) (a b c d e f g p q r : Value) (w' : World) : Prop :=
 w'.cell? ⟨z, 0, none⟩ = some a ∧ w'.cell? ⟨z, 1, none⟩ = some b ∧ w'.cell? ⟨z, 2, none⟩ = some c ∧ w'.cell? ⟨z, 3, none⟩ = some d ∧ w'.cell? ⟨z, 4, none⟩ = some e ∧ w'.cell? ⟨z, 5, none⟩ = some f ∧ w'.cell? ⟨z, 6, none⟩ = some g ∧
 w'.cell? ⟨y, 0, none⟩ = some p ∧ w'.cell? ⟨y, 1, none⟩ = some q ∧ w'.cell? ⟨y, 2, none⟩ = some r ∧ Below W0.heap.size W0 w'
theorem HeldY.bl {W0 wc : World} {z y : Nat} {a b c d e f g p q r : Value} (h : HeldY W0 z y a b c d e f g p q r wc) : Below W0.heap.size W0 wc := h.2.2.2.2.2.2.2.2.2.2
theorem HeldY.below {W0 wc w2 : World} {z y : Nat} {a b c d e f g p q r : Value} (h : HeldY W0 z y a b c d e f g p q r wc) (hb : Below wc.heap.size wc w2) (h1 : z < W0.heap.size) (h2 : y < W0.heap.size) : HeldY W0 z y a b c d e f g p q r w2 := by
 have hs := h.bl.size
 have hB := h.bl
 obtain ⟨c0, c1, c2, c3, c4, c5, c6, d0, d1, d2, -⟩ := h
 have k : ∀ i, w2.cell? ⟨z, i, none⟩ = wc.cell? ⟨z, i, none⟩ := fun i => hb.cell (p := ⟨z, i, none⟩) (Nat.lt_of_lt_of_le h1 hs)
 have k' : ∀ i, w2.cell? ⟨y, i, none⟩ = wc.cell? ⟨y, i, none⟩ := fun i => hb.cell (p := ⟨y, i, none⟩) (Nat.lt_of_lt_of_le h2 hs)
 exact ⟨(k _).trans c0, (k _).trans c1, (k _).trans c2, (k _).trans c3, (k _).trans c4, (k _).trans c5, (k _).trans c6, (k' _).trans d0, (k' _).trans d1, (k' _).trans d2, hB.trans (hb.mono hs)⟩
theorem HeldY.start {W0 wz : World} {z y : Nat} {a b c d e f g p q r : Value} (h : HeldY W0 z y a b c d e f g p q r wz) : HeldY wz z y a b c d e f g p q r wz.drew := by
 obtain ⟨c0, c1, c2, c3, c4, c5, c6, d0, d1, d2, -⟩ := h
 exact ⟨c0, c1, c2, c3, c4, c5, c6, d0, d1, d2, (Below.refl _ _).drew⟩
set_option maxRecDepth 100000 in
set_option maxHeartbeats 800000 in
theorem lost1_any (a u k : Int) (w : World) : Calls Tryz.prog 34 #[.int .i64 a, .int .i64 u, .int .i64 k] w fun e w' => e = .returned (.bool (condR true a u k)) ∧ w = w' := by
 have hc : condR true a u k = decide (a < k) := rfl
 rw [hc]
 go_enter Tryz.func34, Tryz.ntmps34
 go_wp2_with fail
 go_ret
 exact ⟨rfl, rfl⟩
set_option maxRecDepth 100000 in
set_option maxHeartbeats 800000 in
theorem un1_any (a u k : Int) (w : World) : Calls Tryz.prog 36 #[.int .i64 a, .int .i64 u, .int .i64 k] w fun e w' => e = .returned (.bool (condR false a u k)) ∧ w = w' := by
 by_cases h1 : k ≤ a
 ·have hc : condR false a u k = decide (u < k) := by unfold condR; rw [decide_eq_false (by omega)]; simp
  rw [hc]
  have hge : decide (k ≤ a) = true := decide_eq_true h1
  go_enter Tryz.func36, Tryz.ntmps36
  go_wp2_with fail
  go_ret
  exact ⟨rfl, rfl⟩
 ·have hc : condR false a u k = false := by unfold condR; rw [decide_eq_true (by omega)]; simp
  rw [hc]
  have hge : decide (k ≤ a) = false := decide_eq_false h1
  go_enter Tryz.func36, Tryz.ntmps36
  go_wp2_with fail
  go_ret
  exact ⟨rfl, rfl⟩
set_option maxRecDepth 100000 in
set_option maxHeartbeats 1600000 in
theorem lost_any (N : Nat) (hN : N ≤ 12) (vl vm vd vv vp vo vp0 vo0 va0 : Value) (F : FltM) (r : Re) (w : World) (hf : FleetS w (Bl w.heap.size) vl vm vd vv vp vo F) (hok : FleetOk N F) (h : ReS w (Bl w.heap.size) vp0 vo0 va0 r) (hp : r.plat.length ≤ 1000) (hl : ∀ l ∈ r.plat, l.length ≤ 1000) (hac : r.acks.length ≤ 1000000) :
  Calls Tryz.prog 13 #[.agg #[.int .i64 F.ext, vl, vm, vd, vv, vp, vo], .agg #[vp0, vo0, va0]] w fun e w' => ∃ u, e = .returned u ∧ OwnKy w' w.heap.size u (keyL F r (condR true) F.ext.toNat F.vols.length 0) ∧ Below w.heap.size w w' := by
 obtain ⟨W0, hW0⟩ : ∃ W0, W0 = (w.alloc (.cells #[.int .i64 F.ext, vl, vm, vd, vv, vp, vo] 37)).alloc (.cells #[vp0, vo0, va0] 27) := ⟨_, rfl⟩
 obtain ⟨z, hz⟩ : ∃ q, q = w.heap.size := ⟨_, rfl⟩
 obtain ⟨y, hy⟩ : ∃ q, q = w.heap.size + 1 := ⟨_, rfl⟩
 have hb0 : Below w.heap.size w W0 := by rw [hW0]; exact ((Below.refl _ _).alloc (Nat.le_refl _) _).alloc (by simp) _
 have hyk : W0.heap[y]? = some (.cells #[vp0, vo0, va0] 27 (0, 0)) := by
  rw [hW0]; exact heap_alloc_at _ _ _ (by rw [hy]; simp)
 have hzk : W0.heap[z]? = some (.cells #[.int .i64 F.ext, vl, vm, vd, vv, vp, vo] 37 (0, 0)) := by
  rw [hW0, hz]; exact (Below.heap_alloc _ _ _ (by simp)).trans (heap_alloc_new w _)
 obtain ⟨c0, c1, c2, c3, c4, c5, c6⟩ := cells7 hzk
 obtain ⟨d0, d1, d2, -⟩ := cells3 hyk
 have HV := Lib.hid (missingL_any (condR true) lost1_any N hN vl vm vd vv vp vo vp0 vo0 va0 F r W0 (hf.below hb0) hok (h.below hb0) hp hl hac)
 have HW0 := Lib.hid hW0
 have HZ := Lib.hid hz
 have HY := Lib.hid hy
 have HB0 := Lib.hid hb0
 obtain ⟨EX, hEX⟩ : ∃ x, x = F.ext := ⟨_, rfl⟩
 obtain ⟨KL, hKL⟩ : ∃ x, x = keyL F r (condR true) F.ext.toNat F.vols.length 0 := ⟨_, rfl⟩
 rw [← hKL] at HV ⊢
 rw [← hEX] at HV HW0 c0 ⊢
 clear hf hok h hp hl hac hW0 hz hy hb0 hzk hyk hEX hKL
 go_enter Tryz.func13, Tryz.ntmps13
 go_upto_region 1 with fail
 rw [← HW0.out, ← HY.out, ← HZ.out]
 go_wp2_with fail
 refine HV.out.mono ?_
 rintro e w1 ⟨u, rfl, ho, hb1⟩
 have HB1 := Lib.hid hb1
 have HO := Lib.hid ho
 clear c0 c1 c2 c3 c4 c5 c6 d0 d1 d2 hb1 ho
 go_wp2_with fail
 go_ret
 exact ⟨_, rfl, HO.out.base HB0.out.size, HB0.out.trans (HB1.out.mono HB0.out.size)⟩
set_option maxRecDepth 100000 in
set_option maxHeartbeats 1600000 in
theorem unav_any (N : Nat) (hN : N ≤ 12) (vl vm vd vv vp vo vp0 vo0 va0 : Value) (F : FltM) (r : Re) (w : World) (hf : FleetS w (Bl w.heap.size) vl vm vd vv vp vo F) (hok : FleetOk N F) (h : ReS w (Bl w.heap.size) vp0 vo0 va0 r) (hp : r.plat.length ≤ 1000) (hl : ∀ l ∈ r.plat, l.length ≤ 1000) (hac : r.acks.length ≤ 1000000) :
  Calls Tryz.prog 15 #[.agg #[.int .i64 F.ext, vl, vm, vd, vv, vp, vo], .agg #[vp0, vo0, va0]] w fun e w' => ∃ u, e = .returned u ∧ OwnKy w' w.heap.size u (keyL F r (condR false) F.ext.toNat F.vols.length 0) ∧ Below w.heap.size w w' := by
 obtain ⟨W0, hW0⟩ : ∃ W0, W0 = (w.alloc (.cells #[.int .i64 F.ext, vl, vm, vd, vv, vp, vo] 37)).alloc (.cells #[vp0, vo0, va0] 27) := ⟨_, rfl⟩
 obtain ⟨z, hz⟩ : ∃ q, q = w.heap.size := ⟨_, rfl⟩
 obtain ⟨y, hy⟩ : ∃ q, q = w.heap.size + 1 := ⟨_, rfl⟩
 have hb0 : Below w.heap.size w W0 := by rw [hW0]; exact ((Below.refl _ _).alloc (Nat.le_refl _) _).alloc (by simp) _
 have hyk : W0.heap[y]? = some (.cells #[vp0, vo0, va0] 27 (0, 0)) := by
  rw [hW0]; exact heap_alloc_at _ _ _ (by rw [hy]; simp)
 have hzk : W0.heap[z]? = some (.cells #[.int .i64 F.ext, vl, vm, vd, vv, vp, vo] 37 (0, 0)) := by
  rw [hW0, hz]; exact (Below.heap_alloc _ _ _ (by simp)).trans (heap_alloc_new w _)
 obtain ⟨c0, c1, c2, c3, c4, c5, c6⟩ := cells7 hzk
 obtain ⟨d0, d1, d2, -⟩ := cells3 hyk
 have HV := Lib.hid (missingU_any (condR false) un1_any N hN vl vm vd vv vp vo vp0 vo0 va0 F r W0 (hf.below hb0) hok (h.below hb0) hp hl hac)
 have HW0 := Lib.hid hW0
 have HZ := Lib.hid hz
 have HY := Lib.hid hy
 have HB0 := Lib.hid hb0
 obtain ⟨EX, hEX⟩ : ∃ x, x = F.ext := ⟨_, rfl⟩
 obtain ⟨KL, hKL⟩ : ∃ x, x = keyL F r (condR false) F.ext.toNat F.vols.length 0 := ⟨_, rfl⟩
 rw [← hKL] at HV ⊢
 rw [← hEX] at HV HW0 c0 ⊢
 clear hf hok h hp hl hac hW0 hz hy hb0 hzk hyk hEX hKL
 go_enter Tryz.func15, Tryz.ntmps15
 go_upto_region 1 with fail
 rw [← HW0.out, ← HY.out, ← HZ.out]
 go_wp2_with fail
 refine HV.out.mono ?_
 rintro e w1 ⟨u, rfl, ho, hb1⟩
 have HB1 := Lib.hid hb1
 have HO := Lib.hid ho
 clear c0 c1 c2 c3 c4 c5 c6 d0 d1 d2 hb1 ho
 go_wp2_with fail
 go_ret
 exact ⟨_, rfl, HO.out.base HB0.out.size, HB0.out.trans (HB1.out.mono HB0.out.size)⟩

def awP : Pc := ⟨1, 2, 0, 9, 5, [48, 49, 50, 51, 52, 53, 54, 55, 56, 57, 97, 98, 99, 100, 101, 102]⟩
def awR (s : ByteArray) : Re := ⟨[[], [s]], [false, false], [⟨1, 0, 5, 0⟩]⟩
theorem aw_valid : validP awP = true := by decide
theorem aw_len : (encB awP).length = 36 := by kernel_rfl
theorem aw_good1 : goodI (awR ⟨(encB awP).toArray⟩) 1 2 0 = [1] := by kernel_rfl
theorem aw_good2 : goodI (awR ⟨(encB awP).toArray⟩) 1 1 0 = [] := by kernel_rfl
theorem aw_int1 : intI (awR ⟨(encB awP).toArray⟩) 1 0 false = [2] := by kernel_rfl
theorem aw_int2 : intI (awR ⟨(encB awP).toArray⟩) 1 0 true = [] := by kernel_rfl
theorem aw_one {α : Type} {x y : α} {k : Nat} (h : [x][k]? = some y) : k = 0 ∧ y = x := by
 match k with
 | 0 => simp at h; exact ⟨rfl, h.symm⟩
 | k + 1 => simp at h
theorem aw_two {α : Type} {x1 x2 y : α} {k : Nat} (h : [x1, x2][k]? = some y) : (k = 0 ∧ y = x1) ∨ (k = 1 ∧ y = x2) := by
 match k with
 | 0 => simp at h; exact .inl ⟨rfl, h.symm⟩
 | 1 => simp at h; exact .inr ⟨rfl, h.symm⟩
 | k + 2 => simp at h
theorem aw_four {α : Type} {x1 x2 x3 x4 y : α} {k : Nat} (h : [x1, x2, x3, x4][k]? = some y) : (k = 0 ∧ y = x1) ∨ (k = 1 ∧ y = x2) ∨ (k = 2 ∧ y = x3) ∨ (k = 3 ∧ y = x4) := by
 match k with
 | 0 => simp at h; exact .inl ⟨rfl, h.symm⟩
 | 1 => simp at h; exact .inr (.inl ⟨rfl, h.symm⟩)
 | 2 => simp at h; exact .inr (.inr (.inl ⟨rfl, h.symm⟩))
 | 3 => simp at h; exact .inr (.inr (.inr ⟨rfl, h.symm⟩))
 | k + 4 => simp at h
theorem aw_re (W : World) (s : ByteArray) (n1 n2 n3 n4 : Nat) (hs : s.size = 36) (h1 : W.cell? ⟨n1, 0, none⟩ = some (.string s)) (h20 : W.cell? ⟨n2, 0, none⟩ = some (.slice none 0 0)) (h21 : W.cell? ⟨n2, 1, none⟩ = some (.slice (some ⟨n1, 0, none⟩) 1 1))
  (h30 : W.cell? ⟨n3, 0, none⟩ = some (.bool false)) (h31 : W.cell? ⟨n3, 1, none⟩ = some (.bool false)) (h40 : W.cell? ⟨n4, 0, none⟩ = some (.int .i64 1)) (h41 : W.cell? ⟨n4, 1, none⟩ = some (.int .i64 0)) (h42 : W.cell? ⟨n4, 2, none⟩ = some (.int .i64 5)) (h43 : W.cell? ⟨n4, 3, none⟩ = some (.int .i64 0)) :
  ReS W (Bl W.heap.size) (.slice (some ⟨n2, 0, none⟩) 2 2) (.slice (some ⟨n3, 0, none⟩) 2 2) (.slice (some ⟨n4, 0, none⟩) 1 1) (awR s) := by
 refine ⟨⟨_, 2, rfl, Nat.le_refl _, by unfold maxLen; simp [awR], fun _ => ⟨n2, 0, rfl, block_lt_of_cell h20, fun k a hk => ?_⟩⟩, ⟨_, 2, rfl, Nat.le_refl _, by unfold maxLen; simp [awR], fun _ => ⟨n3, 0, rfl, block_lt_of_cell h30, fun k a hk => ?_⟩⟩, ⟨_, 1, rfl, Nat.le_refl _, by unfold maxLen; simp [awR], fun _ => ⟨n4, 0, rfl, block_lt_of_cell h40, fun k a hk => ?_⟩⟩⟩
 ·rcases aw_two hk with ⟨rfl, rfl⟩ | ⟨rfl, rfl⟩
  ·exact ⟨[_], rfl, fun i c hc => by obtain ⟨rfl, rfl⟩ := aw_one hc; exact h20, _, rfl, Row.nil _ _ _⟩
  ·refine ⟨[_], rfl, fun i c hc => by obtain ⟨rfl, rfl⟩ := aw_one hc; exact h21, _, rfl, _, 1, rfl, Nat.le_refl _, by unfold maxLen; simp, fun _ => ⟨n1, 0, rfl, block_lt_of_cell h1, fun k a hk => ?_⟩⟩
   obtain ⟨rfl, rfl⟩ := aw_one hk
   exact ⟨[_], rfl, fun i c hc => by obtain ⟨rfl, rfl⟩ := aw_one hc; exact h1, rfl, by rw [hs]; unfold maxLen; decide⟩
 ·rcases aw_two hk with ⟨rfl, rfl⟩ | ⟨rfl, rfl⟩
  ·exact ⟨[_], rfl, fun i c hc => by obtain ⟨rfl, rfl⟩ := aw_one hc; exact h30, rfl⟩
  ·exact ⟨[_], rfl, fun i c hc => by obtain ⟨rfl, rfl⟩ := aw_one hc; exact h31, rfl⟩
 ·obtain ⟨rfl, rfl⟩ := aw_one hk
  refine ⟨[_, _, _, _], rfl, fun i c hc => ?_, rfl, by unfold I64; decide, by unfold I64; decide, by unfold I64; decide, by unfold I64; decide⟩
  rcases aw_four hc with ⟨rfl, rfl⟩ | ⟨rfl, rfl⟩ | ⟨rfl, rfl⟩ | ⟨rfl, rfl⟩
  ·exact h40
  ·exact h41
  ·exact h42
  ·exact h43
theorem aw_new (w : World) (cs : Array Value) (t : TypeId) (b i : Nat) (h : b = w.heap.size) : (w.alloc (.cells cs t)).cell? ⟨b, i, none⟩ = cs[i]? := by
 subst h
 exact cell_of_row _ _ _ _ _ _ (heap_alloc_new w (.cells cs t))
theorem aw_old (w : World) (o : Obj) (b i : Nat) (h : b < w.heap.size) : (w.alloc o).cell? ⟨b, i, none⟩ = w.cell? ⟨b, i, none⟩ := World.cell?_of_block (w := w) (Below.heap_alloc w o b h)
theorem aw_lit {w : World} {g : Nat} {x : Int} (h : w.cell? ⟨g, 0, none⟩ = some (.int .i64 x)) (hx : I64 x) : IntS w (Bl w.heap.size) (.slice (some ⟨g, 0, none⟩) 1 1) [x] :=
 ⟨⟨_, 1, rfl, Nat.le_refl _, by unfold maxLen; simp, fun _ => ⟨g, 0, rfl, block_lt_of_cell h, fun k a hk => by obtain ⟨rfl, rfl⟩ := aw_one hk; exact h⟩⟩, fun y hy => by rw [List.mem_singleton.1 hy]; exact hx⟩
set_option maxRecDepth 100000 in
set_option maxHeartbeats 1600000 in
theorem awake_any (w : World) : Calls Tryz.prog 10 #[] w fun e w' => e = .returned (.bool true) ∧ Below w.heap.size w w' := by
 have henc := fun w => refsenc_any awP w (by unfold PcI I64 maxLen; decide) (by decide)
 rw [show encS awP = encB awP by unfold encS; rw [if_pos aw_valid], show encE awP = 0 by unfold encE; rw [if_pos aw_valid]] at henc
 have hsz : (⟨(encB awP).toArray⟩ : ByteArray).size = 36 := by rw [size_of]; exact aw_len
 have hg1 := aw_good1
 have hg2 := aw_good2
 have hi1 := aw_int1
 have hi2 := aw_int2
 obtain ⟨X, hX⟩ : ∃ X : ByteArray, X = ⟨(encB awP).toArray⟩ := ⟨_, rfl⟩
 rw [← hX] at henc hsz hg1 hg2 hi1 hi2
 have HEN := Lib.hid henc
 have HSZ := Lib.hid hsz
 have HG1 := Lib.hid hg1
 have HG2 := Lib.hid hg2
 have HI1 := Lib.hid hi1
 have HI2 := Lib.hid hi2
 clear henc hsz hg1 hg2 hi1 hi2 hX
 go_enter Tryz.func10, Tryz.ntmps10
 go_wp2_with fail
 refine (HEN.out _).mono ?_
 rintro e w1 ⟨rfl, hb1⟩
 go_wp2_with fail
 obtain ⟨n, hn⟩ : ∃ n, n = w1.heap.size := ⟨_, rfl⟩
 rw [← hn]
 obtain ⟨W, hW⟩ : ∃ W, W = (((((w1.alloc (.cells #[.string X] 9)).alloc (.cells #[.slice none 0 0, .slice (some ⟨n, 0, none⟩) 1 1] 50)).alloc (.cells #[.bool false, .bool false] 4)).alloc (.cells #[.int .i64 1, .int .i64 0, .int .i64 5, .int .i64 0] 53)).alloc (.cells #[.slice (some ⟨n + 1, 0, none⟩) 2 2, .slice (some ⟨n + 1 + 1, 0, none⟩) 2 2, .slice (some ⟨n + 1 + 1 + 1, 0, none⟩) 1 1] 27)) := ⟨_, rfl⟩
 rw [← hW]
 have hre := aw_re W X n (n + 1) (n + 1 + 1) (n + 1 + 1 + 1) HSZ.out (by rw [hW, hn]; rw [aw_old _ _ _ _ (by first | (simp; done) | (simp; omega)), aw_old _ _ _ _ (by first | (simp; done) | (simp; omega)), aw_old _ _ _ _ (by first | (simp; done) | (simp; omega)), aw_old _ _ _ _ (by first | (simp; done) | (simp; omega)), aw_new _ _ _ _ _ (by simp)]; rfl) (by rw [hW, hn]; rw [aw_old _ _ _ _ (by first | (simp; done) | (simp; omega)), aw_old _ _ _ _ (by first | (simp; done) | (simp; omega)), aw_old _ _ _ _ (by first | (simp; done) | (simp; omega)), aw_new _ _ _ _ _ (by simp)]; rfl) (by rw [hW, hn]; rw [aw_old _ _ _ _ (by first | (simp; done) | (simp; omega)), aw_old _ _ _ _ (by first | (simp; done) | (simp; omega)), aw_old _ _ _ _ (by first | (simp; done) | (simp; omega)), aw_new _ _ _ _ _ (by simp)]; rfl) (by rw [hW, hn]; rw [aw_old _ _ _ _ (by first | (simp; done) | (simp; omega)), aw_old _ _ _ _ (by first | (simp; done) | (simp; omega)), aw_new _ _ _ _ _ (by simp)]; rfl) (by rw [hW, hn]; rw [aw_old _ _ _ _ (by first | (simp; done) | (simp; omega)), aw_old _ _ _ _ (by first | (simp; done) | (simp; omega)), aw_new _ _ _ _ _ (by simp)]; rfl) (by rw [hW, hn]; rw [aw_old _ _ _ _ (by first | (simp; done) | (simp; omega)), aw_new _ _ _ _ _ (by simp)]; rfl) (by rw [hW, hn]; rw [aw_old _ _ _ _ (by first | (simp; done) | (simp; omega)), aw_new _ _ _ _ _ (by simp)]; rfl) (by rw [hW, hn]; rw [aw_old _ _ _ _ (by first | (simp; done) | (simp; omega)), aw_new _ _ _ _ _ (by simp)]; rfl) (by rw [hW, hn]; rw [aw_old _ _ _ _ (by first | (simp; done) | (simp; omega)), aw_new _ _ _ _ _ (by simp)]; rfl)
 have hbW : Below w1.heap.size w1 W := by rw [hW]; exact (((((Below.refl _ _).alloc (Nat.le_refl _) _).alloc (by simp) _).alloc (by simp; omega) _).alloc (by simp; omega) _).alloc (by simp; omega) _
 obtain ⟨q, hq⟩ : ∃ q, q = n + 1 + 1 + 1 + 1 := ⟨_, rfl⟩
 rw [← hq]
 have c0 : W.cell? ⟨q, 0, none⟩ = some (.slice (some ⟨n + 1, 0, none⟩) 2 2) := by rw [hW, hq, hn]; rw [aw_new _ _ _ _ _ (by simp)]; rfl
 have c1 : W.cell? ⟨q, 1, none⟩ = some (.slice (some ⟨n + 1 + 1, 0, none⟩) 2 2) := by rw [hW, hq, hn]; rw [aw_new _ _ _ _ _ (by simp)]; rfl
 have c2 : W.cell? ⟨q, 2, none⟩ = some (.slice (some ⟨n + 1 + 1 + 1, 0, none⟩) 1 1) := by rw [hW, hq, hn]; rw [aw_new _ _ _ _ _ (by simp)]; rfl
 obtain ⟨v1, hv1⟩ : ∃ v, v = Value.slice (some ⟨n + 1, 0, none⟩) 2 2 := ⟨_, rfl⟩
 obtain ⟨v2, hv2⟩ : ∃ v, v = Value.slice (some ⟨n + 1 + 1, 0, none⟩) 2 2 := ⟨_, rfl⟩
 obtain ⟨v3, hv3⟩ : ∃ v, v = Value.slice (some ⟨n + 1 + 1 + 1, 0, none⟩) 1 1 := ⟨_, rfl⟩
 have hs1 := block_lt_of_cell c0
 have HH := Lib.hid (show HeldR W q _ _ _ W from ⟨c0, c1, c2, Below.refl _ _⟩)
 rw [← hv1, ← hv2, ← hv3] at hre HH ⊢
 rw [← hv1] at c0
 rw [← hv2] at c1
 rw [← hv3] at c2
 have HRE := Lib.hid hre
 have HB := Lib.hid (hb1.trans (hbW.mono hb1.size))
 have HQ := Lib.hid hs1
 clear hW hbW hb1 hn hq hv1 hv2 hv3 hre hs1
 refine (good_any v1 v2 v3 (awR X) 1 2 0 W HRE.out (by simp [awR]) (by simp [awR]) (by simp [awR]) (by unfold I64; decide) (by unfold I64; decide)).mono ?_
 rintro e w2 ⟨u, rfl, hO, hb2⟩
 have HH2 := Lib.hid (HH.out.below hb2 HQ.out)
 rw [HG1.out] at hO
 have hx2 := hO.intS (by simp [I64])
 obtain ⟨A2, c2', rfl⟩ := hO.form
 have HX2 := Lib.hid hx2
 clear hO hx2 hb2 c0 c1 c2
 obtain ⟨W2, hW2⟩ : ∃ x, x = w2.alloc (.cells #[.int .i64 1] 3) := ⟨_, rfl⟩
 have hl2 := aw_lit (w := W2) (g := w2.heap.size) (x := 1) (by rw [hW2]; simp) (by unfold I64; decide)
 have hk2 : Below w2.heap.size w2 W2 := by rw [hW2]; exact (Below.refl _ _).alloc (Nat.le_refl _) _
 have hx2' := HX2.out.keep (w' := W2) (fun b hb => hk2.block b hb.2)
 have HSI := Lib.hid (sameints_any _ _ _ _ _ W2 hx2' hl2)
 have HH3 := Lib.hid (HH2.out.below hk2 HQ.out)
 clear hl2 hk2 hx2'
 go_wp2_with fail
 rw [← hW2]
 clear hW2
 refine HSI.out.mono ?_
 rintro e w3 ⟨rfl, k, rfl⟩
 have HH4 := Lib.hid (HH3.out.below (Below.drewN' (Below.refl _ _) k) HQ.out)
 obtain ⟨W4, hW4⟩ : ∃ x, x = W2.drewN k := ⟨_, rfl⟩
 rw [← hW4] at HH4 ⊢
 clear hW4
 obtain ⟨d0, d1, d2, hb4⟩ := HH4.out
 have HRE4 := Lib.hid (HRE.out.below hb4)
 clear hb4
 go_wp2_with fail
 refine (Intact_any v1 v2 v3 (awR X) 1 0 false W4 HRE4.out (by simp [awR]) (by simp [awR]) (by simp [awR]) (by unfold I64; decide) (by unfold I64; decide)).mono ?_
 rintro e w5 ⟨u, rfl, hO, hb5⟩
 have HH5 := Lib.hid (HH4.out.below hb5 HQ.out)
 rw [HI1.out] at hO
 have hx5 := hO.intS (by simp [I64])
 obtain ⟨A5, c5', rfl⟩ := hO.form
 have HX5 := Lib.hid hx5
 clear hO hx5 hb5 d0 d1 d2
 obtain ⟨W5, hW5⟩ : ∃ x, x = w5.alloc (.cells #[.int .i64 2] 3) := ⟨_, rfl⟩
 have hl2 := aw_lit (w := W5) (g := w5.heap.size) (x := 2) (by rw [hW5]; simp) (by unfold I64; decide)
 have hk2 : Below w5.heap.size w5 W5 := by rw [hW5]; exact (Below.refl _ _).alloc (Nat.le_refl _) _
 have hx2' := HX5.out.keep (w' := W5) (fun b hb => hk2.block b hb.2)
 have HSI2 := Lib.hid (sameints_any _ _ _ _ _ W5 hx2' hl2)
 have HH6 := Lib.hid (HH5.out.below hk2 HQ.out)
 clear hl2 hk2 hx2'
 go_wp2_with fail
 rw [← hW5]
 clear hW5
 refine HSI2.out.mono ?_
 rintro e w6 ⟨rfl, k6, rfl⟩
 have HH7 := Lib.hid (HH6.out.below (Below.drewN' (Below.refl _ _) k6) HQ.out)
 obtain ⟨W7, hW7⟩ : ∃ x, x = W5.drewN k6 := ⟨_, rfl⟩
 rw [← hW7] at HH7 ⊢
 clear hW7
 obtain ⟨d0, d1, d2, hb7⟩ := HH7.out
 have HRE7 := Lib.hid (HRE.out.below hb7)
 clear hb7
 go_wp2_with fail
 refine (Intact_any v1 v2 v3 (awR X) 1 0 true W7 HRE7.out (by simp [awR]) (by simp [awR]) (by simp [awR]) (by unfold I64; decide) (by unfold I64; decide)).mono ?_
 rintro e w8 ⟨u, rfl, hO, hb8⟩
 have HH8 := Lib.hid (HH7.out.below hb8 HQ.out)
 rw [HI2.out] at hO
 obtain ⟨A8, c8', rfl⟩ := hO.form
 clear hO hb8 d0 d1 d2
 obtain ⟨d0, d1, d2, hb8⟩ := HH8.out
 have HRE8 := Lib.hid (HRE.out.below hb8)
 clear hb8
 go_wp2_with fail
 refine (good_any v1 v2 v3 (awR X) 1 1 0 w8 HRE8.out (by simp [awR]) (by simp [awR]) (by simp [awR]) (by unfold I64; decide) (by unfold I64; decide)).mono ?_
 rintro e w9 ⟨u, rfl, hO, hb9⟩
 rw [HG2.out] at hO
 obtain ⟨A9, c9', rfl⟩ := hO.form
 have HB9 := Lib.hid (HH8.out.bl.trans (hb9.mono HH8.out.bl.size))
 clear hO hb9 d0 d1 d2
 go_wp2_with fail
 go_ret
 exact ⟨rfl, HB.out.trans (HB9.out.mono HB.out.size)⟩
def OwnCp (w : World) (base : Nat) (v : Value) (cs : List (Nat × Int)) : Prop := w.ownsRow base 69 3 v cs.length (cs.flatMap cpC)
theorem OwnCp.nil (w : World) (base : Nat) : OwnCp w base (.slice none 0 0) [] := World.ownsRow_nil _ _ _ _
theorem OwnCp.below {w w2 : World} {base : Nat} {v : Value} {cs : List (Nat × Int)} (h : OwnCp w base v cs) (hb : Below w.heap.size w w2) : OwnCp w2 base v cs := own_below h hb
theorem flat_cp : ∀ (cs : List (Nat × Int)) (k : Nat) (x : Nat × Int), cs[k]? = some x → ∀ i c, (cpC x)[i]? = some c → (cs.flatMap cpC)[k * 3 + i]? = some c
 | [], k, f, h => by simp at h
 | x :: r, 0, f, h => by
  simp at h; subst h
  intro i c hc
  have hi : i < (cpC x).length := (List.getElem?_eq_some_iff.1 hc).1
  rw [List.flatMap_cons, Nat.zero_mul, Nat.zero_add, List.getElem?_append_left hi]; exact hc
 | x :: r, k + 1, f, h => by
  intro i c hc
  have hl : (cpC x).length = 3 := rfl
  rw [List.flatMap_cons, List.getElem?_append_right (by rw [hl]; omega), hl]
  have := flat_cp r k f (by simpa using h) i c hc
  rw [← this]
  congr 1
  omega
theorem OwnCp.slS {w : World} {base : Nat} {v : Value} {cs : List (Nat × Int)} (h : OwnCp w base v cs) : SlS 3 CpK w (Fr base w.heap.size) v cs := by
 have h1 : w.ownsRow base 69 3 v cs.length (cs.flatMap cpC) := h
 have hc := fun g => h1.cells (g := g)
 have hlt := h1.lt
 rcases h1.2 with ⟨rfl, h0⟩ | ⟨g, cap, cur, rfl, _, _, h2, h3, _⟩
 ·unfold SlS; rw [h0]; exact Row.nil _ _ _
 ·refine ⟨_, cap, rfl, h2, Nat.le_trans h2 h3, fun _ => ⟨g, 0, rfl, hlt g rfl, fun k f hf => ⟨cpC f, rfl, fun i c hi => ?_, rfl⟩⟩⟩
  have e1 : ∀ j, (⟨g, 0, none⟩ : Addr).add j = ⟨g, 0 + j, none⟩ := fun j => by unfold Addr.add; split <;> simp_all
  rw [Nat.add_assoc, ← e1]
  exact hc g rfl _ _ (flat_cp cs k f hf i c hi)
theorem ver_made {F : FltM} {r : Re} {st : List Stp} (hmo : MadeOk F r st) {v s : Nat} (hv : v < F.vols.length) (hs : s < F.ext.toNat) : (verOf r.acks (v : Int) (s : Int)).isSome = true := by
 have hm : (v, s) ∈ st.map (fun x => (x.vol, x.stripe)) := by
  rw [hmo.keys]
  unfold keysTo
  exact List.mem_append_left _ (List.mem_flatMap.2 ⟨v, List.mem_range.2 hv, List.mem_map.2 ⟨s, List.mem_range.2 hs, rfl⟩⟩)
 obtain ⟨x, hx, he⟩ := List.mem_map.1 hm
 injection he with e1 e2
 unfold verOf
 rw [Option.isSome_map, hmo.acks, List.find?_isSome]
 exact ⟨x.ack, List.mem_map.2 ⟨x, hx, rfl⟩, by simp [Stp.ack, e1, e2]⟩
theorem key_in (F : FltM) (r : Re) (cond : Int → Int → Int → Bool) (ext NO v s : Nat) (hv : v < NO) (hs : s < ext) : (v, s) ∈ keyL F r cond ext NO 0 ↔ keyP F r cond (v, s) = true := by
 unfold keyL
 rw [List.mem_filter]
 have hm : (v, s) ∈ keysTo ext NO 0 := by
  unfold keysTo
  exact List.mem_append_left _ (List.mem_flatMap.2 ⟨v, List.mem_range.2 hv, List.mem_map.2 ⟨s, List.mem_range.2 hs, rfl⟩⟩)
 exact ⟨fun h => h.2, fun h => ⟨hm, h⟩⟩
end Go.Proofs.YtmehadfhcdpfcaaGreat
