/- The checksum as a linear map on bits: a burst of at most 32 bits is never missed. -/
import Derived.Test.YtffamkodckghgaaJMath6
namespace Go.Proofs.Ytffamkodckghgaa

def mul2 (r : BitVec 32) : BitVec 32 := (r <<< 1) ^^^ (if r.msb then 517762881#32 else 0#32)
theorem mul2_xor (a b : BitVec 32) : mul2 (a ^^^ b) = mul2 a ^^^ mul2 b := by
  unfold mul2
  rw [BitVec.shiftLeft_xor_distrib, BitVec.msb_xor]
  generalize a <<< 1 = x
  generalize b <<< 1 = y
  cases a.msb <;> cases b.msb <;> simp [BitVec.xor_assoc]
  · rw [BitVec.xor_comm]
  · rw [BitVec.xor_comm y, ← BitVec.xor_assoc 517762881#32, BitVec.xor_self, BitVec.zero_xor]
theorem mul2_zero : mul2 0#32 = 0#32 := by decide
theorem shl_lsb (r : BitVec 32) : (r <<< 1).getLsbD 0 = false := by simp
theorem mul2_lsb (r : BitVec 32) : (mul2 r).getLsbD 0 = r.msb := by
  unfold mul2
  rw [BitVec.getLsbD_xor, shl_lsb]
  cases r.msb <;> simp
theorem mul2_inj {r : BitVec 32} (h : mul2 r = 0#32) : r = 0#32 := by
  have h0 := mul2_lsb r
  rw [h] at h0
  simp at h0
  unfold mul2 at h
  rw [h0] at h
  simp at h
  apply BitVec.eq_of_getLsbD_eq
  intro i hi
  by_cases hb : i = 31
  · subst hb
    have : r.getLsbD 31 = r.msb := by rw [BitVec.msb_eq_getLsbD_last]
    rw [this, h0]; simp
  · have h1 : (r <<< 1).getLsbD (i + 1) = r.getLsbD i := by
      rw [BitVec.getLsbD_shiftLeft]; simp; omega
    rw [← h1, h]; simp
def mulK : Nat → BitVec 32 → BitVec 32
  | 0, r => r
  | n + 1, r => mulK n (mul2 r)
theorem mulK_inj : ∀ (n : Nat) {r : BitVec 32}, mulK n r = 0#32 → r = 0#32 := by
  intro n
  induction n with
  | zero => intro r h; exact h
  | succ n ih => intro r h; exact mul2_inj (ih h)
theorem mulK_zero : ∀ n : Nat, mulK n 0#32 = 0#32 := by
  intro n
  induction n with
  | zero => rfl
  | succ n ih => show mulK n (mul2 0#32) = _; rw [mul2_zero, ih]
theorem mul2_nat (r : BitVec 32) : (mul2 r).toNat = crcBit r.toNat := by
  have hm : r.msb = decide (r.toNat / 2147483648 = 1) := by
    rw [BitVec.msb_eq_decide]
    have := r.isLt
    simp
    omega
  unfold mul2 crcBit
  rw [hm, BitVec.toNat_xor, BitVec.toNat_shiftLeft, Nat.shiftLeft_eq]
  by_cases h : r.toNat / 2147483648 = 1
  · simp [h]
  · simp [h]
theorem mulK_nat : ∀ (n : Nat) (r : BitVec 32), (mulK n r).toNat = crcBits n r.toNat := by
  intro n
  induction n with
  | zero => intro r; rfl
  | succ n ih => intro r; show (mulK n (mul2 r)).toNat = crcBits n (crcBit r.toNat); rw [ih, mul2_nat]

def inj (b : Bool) : BitVec 32 := if b then 2147483648#32 else 0#32
theorem inj_xor (a b : Bool) : inj (a ^^ b) = inj a ^^^ inj b := by cases a <;> cases b <;> decide
theorem inj_lsb (b : Bool) (j : Nat) (h : j < 31) : (inj b).getLsbD j = false := by
  cases b
  · simp [inj]
  · have : ∀ j : Nat, j < 31 → (2147483648#32).getLsbD j = false := by decide
    exact this j h
theorem inj_msb (b : Bool) : (inj b).msb = b := by cases b <;> decide
def runB (r : BitVec 32) (bs : List Bool) : BitVec 32 := bs.foldl (fun r b => mul2 (r ^^^ inj b)) r
theorem runB_cons (r : BitVec 32) (b : Bool) (bs : List Bool) : runB r (b :: bs) = runB (mul2 (r ^^^ inj b)) bs := rfl
theorem runB_append (r : BitVec 32) (bs cs : List Bool) : runB r (bs ++ cs) = runB (runB r bs) cs := by simp [runB, List.foldl_append]
theorem xor4 (a b c d : BitVec 32) : (a ^^^ b) ^^^ (c ^^^ d) = (a ^^^ c) ^^^ (b ^^^ d) := by
  rw [BitVec.xor_assoc, BitVec.xor_assoc, ← BitVec.xor_assoc b, BitVec.xor_comm b c, BitVec.xor_assoc c]
theorem runB_xor : ∀ (bs cs : List Bool) (a b : BitVec 32), bs.length = cs.length → runB (a ^^^ b) (List.zipWith (fun x y => x ^^ y) bs cs) = runB a bs ^^^ runB b cs := by
  intro bs
  induction bs with
  | nil => intro cs a b h; cases cs with
    | nil => rfl
    | cons c cs => simp at h
  | cons x bs ih =>
    intro cs a b h
    cases cs with
    | nil => simp at h
    | cons y cs =>
      rw [List.zipWith_cons_cons, runB_cons, runB_cons, runB_cons, ← ih cs _ _ (by simpa using h), inj_xor, xor4, mul2_xor]
theorem runB_false : ∀ (bs : List Bool) (r : BitVec 32), (∀ b ∈ bs, b = false) → runB r bs = mulK bs.length r := by
  intro bs
  induction bs with
  | nil => intro r _; rfl
  | cons b bs ih =>
    intro r h
    have hb := h b (by simp)
    subst hb
    rw [runB_cons, ih _ (fun x hx => h x (by simp [hx]))]
    show mulK bs.length (mul2 (r ^^^ 0#32)) = mulK bs.length (mul2 r)
    rw [BitVec.xor_zero]
/-- Up to 32 bits, as the number that they are. -/
def pat : List Bool → BitVec 32
  | [] => 0#32
  | b :: bs => inj b ^^^ (pat bs >>> 1)
theorem pat_lsb : ∀ (bs : List Bool) (j : Nat), bs.length + j ≤ 31 → (pat bs).getLsbD j = false := by
  intro bs
  induction bs with
  | nil => intro j _; simp [pat]
  | cons b bs ih =>
    intro j h
    rw [List.length_cons] at h
    rw [pat, BitVec.getLsbD_xor, BitVec.getLsbD_ushiftRight, inj_lsb b j (by omega), ih (1 + j) (by omega)]; rfl
theorem mul2_half {x : BitVec 32} (h : x.getLsbD 0 = false) : mul2 (x >>> 1) = x := by
  have hm : (x >>> 1).msb = false := by rw [BitVec.msb_eq_getLsbD_last, BitVec.getLsbD_ushiftRight]; simp
  unfold mul2
  rw [hm]
  simp
  apply BitVec.eq_of_getLsbD_eq
  intro i hi
  rw [BitVec.getLsbD_shiftLeft, BitVec.getLsbD_ushiftRight]
  by_cases h0 : i = 0
  · subst h0; rw [h]; rfl
  · have : 1 + (i - 1) = i := by omega
    rw [this]; simp; omega
theorem runB_pat : ∀ (bs : List Bool) (r : BitVec 32), bs.length ≤ 32 → runB r bs = mulK bs.length (r ^^^ pat bs) := by
  intro bs
  induction bs with
  | nil => intro r _; show r = r ^^^ 0#32; rw [BitVec.xor_zero]
  | cons b bs ih =>
    intro r h
    rw [List.length_cons] at h
    rw [runB_cons, ih _ (by omega)]
    show _ = mulK bs.length (mul2 (r ^^^ (inj b ^^^ (pat bs >>> 1))))
    rw [← BitVec.xor_assoc, mul2_xor (r ^^^ inj b), mul2_half (pat_lsb bs 0 (by omega))]
theorem pat_zero : ∀ (bs : List Bool), bs.length ≤ 32 → pat bs = 0#32 → ∀ b ∈ bs, b = false := by
  intro bs
  induction bs with
  | nil => intro _ _ b hb; cases hb
  | cons b bs ih =>
    intro h hp
    rw [List.length_cons] at h
    rw [pat] at hp
    have hm : (pat bs >>> 1).msb = false := by rw [BitVec.msb_eq_getLsbD_last, BitVec.getLsbD_ushiftRight]; simp
    have hb : b = false := by
      have := congrArg BitVec.msb hp
      rw [BitVec.msb_xor, hm, inj_msb] at this
      simpa using this
    subst hb
    have h2 : pat bs >>> 1 = 0#32 := by
      have e : inj false = 0#32 := rfl
      rw [e, BitVec.zero_xor] at hp
      exact hp
    have h3 : pat bs = 0#32 := by
      rw [← mul2_half (pat_lsb bs 0 (by omega)), h2, mul2_zero]
    intro x hx
    rcases List.mem_cons.1 hx with e | e
    · exact e
    · exact ih (by omega) h3 x e
/-- Bits that vanish outside a window of 32 and leave no remainder vanish. -/
theorem window (E : List Bool) (p : Nat) (hout : ∀ i, i < E.length → (i < p ∨ p + 32 ≤ i) → E[i]? = some false) (h : runB 0#32 E = 0#32) : ∀ b ∈ E, b = false := by
  have e : E = E.take p ++ ((E.drop p).take 32 ++ (E.drop p).drop 32) := by rw [List.take_append_drop, List.take_append_drop]
  have h1 : ∀ b ∈ E.take p, b = false := by
    intro b hb
    obtain ⟨i, hi, rfl⟩ := List.getElem_of_mem hb
    rw [List.length_take] at hi
    have := hout i (by omega) (.inl (by omega))
    rw [List.getElem?_eq_getElem (by omega)] at this
    rw [List.getElem_take]
    simpa using this
  have h3 : ∀ b ∈ (E.drop p).drop 32, b = false := by
    intro b hb
    rw [List.drop_drop] at hb
    obtain ⟨i, hi, rfl⟩ := List.getElem_of_mem hb
    rw [List.length_drop] at hi
    have := hout (p + 32 + i) (by omega) (.inr (by omega))
    rw [List.getElem?_eq_getElem (by omega)] at this
    rw [List.getElem_drop]
    simpa using this
  have hl : ((E.drop p).take 32).length ≤ 32 := List.length_take_le _ _
  rw [e, runB_append, runB_append, runB_false _ _ h1, mulK_zero, runB_false _ _ h3] at h
  have h2 := mulK_inj _ h
  rw [runB_pat _ _ hl, BitVec.zero_xor] at h2
  have h4 := pat_zero _ hl (mulK_inj _ h2)
  intro b hb
  rw [e] at hb
  rcases List.mem_append.1 hb with h | h
  · exact h1 b h
  · rcases List.mem_append.1 h with h | h
    · exact h4 b h
    · exact h3 b h

def bitsN (n : Nat) : List Bool := (List.range 8).map fun t => n.testBit (7 - t)
def bitsB (c : UInt8) : List Bool := bitsN c.toNat
def bitsL (l : List UInt8) : List Bool := l.flatMap bitsB
def bitAt (l : List UInt8) (p : Nat) : Bool := (l.getD (p / 8) 0).toNat.testBit (7 - p % 8)
theorem bitsB_length (c : UInt8) : (bitsB c).length = 8 := by simp [bitsB, bitsN]
theorem pat_byteN : ∀ n : Nat, n < 256 → pat (bitsN n) = BitVec.ofNat 32 (n * 16777216) := by decide +kernel
theorem crcByte_run (r : BitVec 32) (c : UInt8) : crcByte r.toNat c = (runB r (bitsB c)).toNat := by
  have hc := c.toNat_lt
  rw [runB_pat _ _ (by rw [bitsB_length]; omega), bitsB_length, mulK_nat, BitVec.toNat_xor]
  unfold crcByte bitsB
  rw [pat_byteN _ (by omega), BitVec.toNat_ofNat, Nat.mod_eq_of_lt (by omega)]
theorem fold_run : ∀ (l : List UInt8) (r : BitVec 32), l.foldl crcByte r.toNat = (runB r (bitsL l)).toNat := by
  intro l
  induction l with
  | nil => intro r; rfl
  | cons c l ih =>
    intro r
    rw [List.foldl_cons, crcByte_run, ih]
    show _ = (runB r (bitsB c ++ bitsL l)).toNat
    rw [runB_append]
theorem bitsL_eq : ∀ l : List UInt8, bitsL l = (List.range (8 * l.length)).map (bitAt l) := by
  intro l
  induction l with
  | nil => rfl
  | cons c l ih =>
    show bitsB c ++ bitsL l = _
    have e : 8 * (c :: l).length = 8 + 8 * l.length := by rw [List.length_cons]; omega
    rw [e, List.range_add, List.map_append, ih, List.map_map]
    congr 1
    apply List.map_congr_left
    intro i _
    show bitAt l i = bitAt (c :: l) (8 + i)
    unfold bitAt
    rw [show (8 + i) / 8 = i / 8 + 1 from by omega, show (8 + i) % 8 = i % 8 from by omega]
    rfl
theorem bytes_of_bits {l m : List UInt8} (hl : l.length = m.length) (h : ∀ p, p < 8 * l.length → bitAt l p = bitAt m p) : l = m := by
  apply List.ext_getElem hl
  intro j h1 h2
  apply UInt8.toNat_inj.1
  apply Nat.eq_of_testBit_eq
  intro i
  by_cases hi : i < 8
  · have := h (8 * j + (7 - i)) (by omega)
    unfold bitAt at this
    rw [show (8 * j + (7 - i)) / 8 = j from by omega, show 7 - (8 * j + (7 - i)) % 8 = i from by omega] at this
    simpa [List.getD, h1, h2] using this
  · have hb : ∀ c : UInt8, c.toNat.testBit i = false := fun c => Nat.testBit_lt_two_pow (Nat.lt_of_lt_of_le c.toNat_lt (Nat.pow_le_pow_right (by omega) (by omega)))
    rw [hb, hb]
theorem crcBits_small : ∀ (n r : Nat), r * 2 ^ n < 4294967296 → crcBits n r = r * 2 ^ n := by
  intro n
  induction n with
  | zero => intro r _; simp [crcBits]
  | succ n ih =>
    intro r h
    have e : r * 2 ^ (n + 1) = r * 2 * 2 ^ n := by rw [Nat.pow_succ, Nat.mul_assoc, Nat.mul_comm 2]
    have hp : 1 ≤ 2 ^ n := Nat.one_le_two_pow
    have h2 : r * 2 < 4294967296 := Nat.lt_of_le_of_lt (Nat.le_mul_of_pos_right _ hp) (by rw [e] at h; exact h)
    have hb : crcBit r = r * 2 := by
      unfold crcBit
      rw [if_neg (by omega), Nat.mod_eq_of_lt h2]
    show crcBits n (crcBit r) = _
    rw [hb, ih _ (by rw [e] at h; exact h), e]
theorem xor_top (n : Nat) : n ^^^ (n / 16777216 * 16777216) = n % 16777216 := by
  apply Nat.eq_of_testBit_eq
  intro i
  rw [show (16777216 : Nat) = 2 ^ 24 from rfl]
  simp only [Nat.testBit_xor, Nat.testBit_mul_two_pow, Nat.testBit_div_two_pow, Nat.testBit_mod_two_pow]
  by_cases h : 24 ≤ i
  · simp [h, Nat.sub_add_cancel h, Nat.not_lt.2 h]
  · simp [h, Nat.lt_of_not_le h]
theorem crcByte_top (n : Nat) (h : n < 4294967296) : crcByte n (UInt8.ofNat (n / 16777216)) = n % 16777216 * 256 := by
  unfold crcByte
  rw [UInt8.toNat_ofNat', Nat.mod_eq_of_lt (by omega), xor_top, crcBits_small _ _ (by omega)]
theorem crc_own (N : Nat) (h : N < 4294967296) : (beTo N 4 4).foldl crcByte N = 0 := by
  have e : beTo N 4 4 = [UInt8.ofNat (N / 16777216), UInt8.ofNat (N / 65536), UInt8.ofNat (N / 256), UInt8.ofNat N] := by simp [beTo, List.range_succ]
  have ofN : ∀ a b : Nat, a % 256 = b % 256 → UInt8.ofNat a = UInt8.ofNat b := fun a b hab => by
    apply UInt8.toNat_inj.1; rw [UInt8.toNat_ofNat', UInt8.toNat_ofNat']; exact hab
  rw [e]
  simp only [List.foldl_cons, List.foldl_nil]
  rw [crcByte_top N h, ofN (N / 65536) (N % 16777216 * 256 / 16777216) (by omega), crcByte_top _ (by omega),
    ofN (N / 256) (N % 16777216 * 256 % 16777216 * 256 / 16777216) (by omega), crcByte_top _ (by omega),
    ofN N (N % 16777216 * 256 % 16777216 * 256 % 16777216 * 256 / 16777216) (by omega), crcByte_top _ (by omega)]
  omega
theorem frame_run {l : List UInt8} (h : isFrame l = true) : runB 4294967295#32 (bitsL l) = 0#32 ∧ l.length = 26 := by
  have h2 := (isFrame_spec h).2
  refine ⟨?_, by rw [← h2]; exact frameB_length _⟩
  apply BitVec.eq_of_toNat_eq
  rw [← fold_run, ← h2]
  unfold frameB sealB
  rw [List.foldl_append]
  exact crc_own _ (crc_lt _)
/-- Two frames that differ in a window of 32 bits at most are one. -/
theorem burst_frame {l m : List UInt8} (h : isFrame l = true) (h' : isFrame m = true) (p : Nat) (hout : ∀ i, i < 208 → (i < p ∨ p + 32 ≤ i) → bitAt l i = bitAt m i) : l = m := by
  obtain ⟨r1, l1⟩ := frame_run h
  obtain ⟨r2, l2⟩ := frame_run h'
  have hx := runB_xor (bitsL l) (bitsL m) 4294967295#32 4294967295#32 (by rw [bitsL_eq, bitsL_eq]; simp [l1, l2])
  rw [r1, r2, BitVec.xor_self, BitVec.xor_self] at hx
  have hE : ∀ i, i < 208 → (List.zipWith (fun x y => x ^^ y) (bitsL l) (bitsL m))[i]? = some (bitAt l i ^^ bitAt m i) := by
    intro i hi
    rw [bitsL_eq, bitsL_eq, l1, l2, List.getElem?_zipWith]
    simp [hi]
  have hlen : (List.zipWith (fun x y => x ^^ y) (bitsL l) (bitsL m)).length = 208 := by
    rw [List.length_zipWith, bitsL_eq, bitsL_eq]; simp [l1, l2]
  have hall := window _ p (fun i hi ho => by rw [hE i (by omega), hout i (by omega) ho]; simp) hx
  refine bytes_of_bits (by omega) fun q hq => ?_
  have := hall _ (List.mem_of_getElem? (hE q (by omega)))
  simpa using this

/-- What is read of frames of which a window of 32 bits has changed. -/
theorem burst_scan (gs : List Rec) (hg : ∀ r ∈ gs, validR r = true) (x : List UInt8) (hl : x.length = (gs.flatMap frameB).length) (bit hit : Nat)
    (hout : ∀ p, p < 8 * x.length → (p < bit ∨ bit + 32 ≤ p) → bitAt x p = bitAt (gs.flatMap frameB) p)
    (hhit : hit < x.length) (hsame : x.take hit = (gs.flatMap frameB).take hit) (hne : x[hit]? ≠ (gs.flatMap frameB)[hit]?) :
    scan x = gs.take (hit / 26) ∧ hit / 26 < gs.length := by
  obtain ⟨q, hq⟩ : ∃ q, q = hit / 26 := ⟨_, rfl⟩
  obtain ⟨s, hs⟩ : ∃ s, s = gs.flatMap frameB := ⟨_, rfl⟩
  have hsl : s.length = 26 * gs.length := by rw [hs]; exact flat_length gs
  rw [← hq]
  rw [← hs] at hl hout hsame hne
  have hqg : q < gs.length := by omega
  have hparts : ∀ n, n ≤ gs.length → s.take (26 * n) = (gs.take n).flatMap frameB := by
    intro n hn
    have e : s = (gs.take n).flatMap frameB ++ (gs.drop n).flatMap frameB := by rw [hs, ← List.flatMap_append, List.take_append_drop]
    have hln : ((gs.take n).flatMap frameB).length = 26 * n := by rw [flat_length, List.length_take, Nat.min_eq_left hn]
    rw [e, List.take_append_of_le_length (by omega), List.take_of_length_le (by omega)]
  have hx : x = (gs.take q).flatMap frameB ++ x.drop (26 * q) := by
    rw [← hparts q (by omega)]
    have : x.take (26 * q) = s.take (26 * q) := by
      have h := congrArg (List.take (26 * q)) hsame
      rwa [List.take_take, List.take_take, Nat.min_eq_left (by omega)] at h
    rw [← this, List.take_append_drop]
  refine ⟨?_, hqg⟩
  have hno : scan (x.drop (26 * q)) = [] := by
    apply scan_no
    rintro ⟨h26, hf⟩
    have hse : s = (gs.take q).flatMap frameB ++ (frameB gs[q] ++ (gs.drop (q + 1)).flatMap frameB) := by
      rw [hs, ← List.flatMap_cons, ← List.drop_eq_getElem_cons hqg, ← List.flatMap_append, List.take_append_drop]
    have hpl : ((gs.take q).flatMap frameB).length = 26 * q := by rw [flat_length, List.length_take, Nat.min_eq_left (by omega)]
    have hfl := frameB_length gs[q]
    have hsg : ∀ j, j < 26 → s[26 * q + j]? = (frameB gs[q])[j]? := by
      intro j hj
      rw [hse, List.getElem?_append_right (by omega), hpl, Nat.add_sub_cancel_left, List.getElem?_append_left (by omega)]
    have hxg : ∀ j, j < 26 → x[26 * q + j]? = ((x.drop (26 * q)).take 26)[j]? := by
      intro j hj
      rw [List.getElem?_take_of_lt hj, List.getElem?_drop]
    have hb : ∀ (l m : List UInt8) (i : Nat), (∀ j, j < 26 → l[26 * q + j]? = m[j]?) → i < 208 → bitAt m i = bitAt l (208 * q + i) := by
      intro l m i h hi
      unfold bitAt
      rw [show (208 * q + i) / 8 = 26 * q + i / 8 from by omega, show (208 * q + i) % 8 = i % 8 from by omega, List.getD, List.getD, h (i / 8) (by omega)]
    have he := burst_frame hf (isFrame_frame (hg _ (List.getElem_mem hqg))) (bit - 208 * q) (fun i hi ho => by
      rw [hb x _ i hxg hi, hb s _ i hsg hi]
      exact hout _ (by rw [List.length_drop] at h26; omega) (by omega))
    apply hne
    have e : hit = 26 * q + (hit - 26 * q) := by omega
    rw [e, hxg _ (by omega), hsg _ (by omega), he]
  rw [hx, scan_frames _ (fun r hr => hg r (List.mem_of_mem_take hr)), hno, List.append_nil]
end Go.Proofs.Ytffamkodckghgaa
