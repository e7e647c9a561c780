/- Frames read back as the records that they are made of. -/
import Derived.Test.YtffamkodckghgaaJMath4
namespace Go.Proofs.Ytffamkodckghgaa
theorem num_beTo (n size : Nat) : ∀ k, k ≤ size → num (beTo n size k) = n / 256 ^ (size - k) % 256 ^ k := by
  intro k
  induction k with
  | zero => intro _; simp [beTo, num, Nat.mod_one]
  | succ k ih =>
    intro hk
    rw [beTo_succ, num_snoc, ih (by omega), UInt8.toNat_ofNat']
    have e : n / 256 ^ (size - k) = n / 256 ^ (size - 1 - k) / 256 := by
      rw [Nat.div_div_eq_div_mul, ← Nat.pow_succ]
      congr 2; omega
    rw [e, show size - (k + 1) = size - 1 - k from by omega]
    generalize n / 256 ^ (size - 1 - k) = m
    have h1 : (256 : Nat) ^ (k + 1) = 256 * 256 ^ k := by rw [Nat.pow_succ, Nat.mul_comm]
    rw [h1, Nat.mod_mul]
    generalize m / 256 % 256 ^ k = q
    omega
theorem num_be5 {n : Nat} (h : n ≤ 1099511627775) : num (beTo n 5 5) = n := by
  rw [num_beTo n 5 5 (Nat.le_refl _)]
  simp only [Nat.sub_self, Nat.pow_zero, Nat.div_one]
  exact Nat.mod_eq_of_lt (by omega)
theorem flat_at {α : Type} (f : Nat → List α) (c : Nat) (hf : ∀ j, (f j).length = c) : ∀ (n i : Nat), i < n → (((List.range n).flatMap f).drop (i * c)).take c = f i := by
  have hlen : ∀ n, ((List.range n).flatMap f).length = n * c := by
    intro n
    induction n with
    | zero => simp
    | succ n ih => rw [List.range_succ, List.flatMap_append, List.length_append, ih]; simp [hf]; rw [Nat.succ_mul]
  intro n
  induction n with
  | zero => intro i h; omega
  | succ n ih =>
    intro i h
    rw [List.range_succ, List.flatMap_append]
    rcases Nat.lt_or_ge i n with h1 | h1
    · have h2 : (i + 1) * c ≤ n * c := Nat.mul_le_mul_right c h1
      rw [Nat.succ_mul] at h2
      rw [List.drop_append_of_le_length (by rw [hlen]; omega), List.take_append_of_le_length (by rw [List.length_drop, hlen]; omega)]
      exact ih i h1
    · have : i = n := by omega
      subst this
      rw [List.drop_append, hlen, Nat.sub_self, List.drop_eq_nil_of_le (by rw [hlen]; exact Nat.le_refl _)]
      simp only [List.nil_append, List.drop_zero, List.flatMap_cons, List.flatMap_nil, List.append_nil]
      exact List.take_of_length_le (by rw [hf]; exact Nat.le_refl _)
theorem kindOf_frame {r : Rec} (h1 : 1 ≤ r.kind) (h2 : r.kind ≤ 14) : kindOf (frameB r) = r.kind := by
  have : (frameB r).getD 1 0 = UInt8.ofNat r.kind.toNat := by simp [frameB, sealB, bodyB, List.getD]
  unfold kindOf
  rw [this, UInt8.toNat_ofNat']
  omega
theorem frameB_eq (r : Rec) : frameB r = [213, UInt8.ofNat r.kind.toNat] ++ ((List.range 4).flatMap (fun j => beTo (argN r j) 5 5) ++ beTo (crc (bodyB r 4)) 4 4) := by
  unfold frameB sealB
  rw [bodyB, List.append_assoc]
theorem argOf_frame {r : Rec} (hv : validR r = true) {i : Nat} (hi : i < 4) : argOf (frameB r) i = (argN r i : Int) := by
  unfold argOf
  have e : ((frameB r).drop (2 + i * 5)).take 5 = beTo (argN r i) 5 5 := by
    have hl : ((List.range 4).flatMap (fun j => beTo (argN r j) 5 5)).length = 20 := by simp [List.range_succ, beTo_length]
    rw [frameB_eq, ← List.drop_drop, show ([213, UInt8.ofNat r.kind.toNat] ++ ((List.range 4).flatMap (fun j => beTo (argN r j) 5 5) ++ beTo (crc (bodyB r 4)) 4 4)).drop 2 = (List.range 4).flatMap (fun j => beTo (argN r j) 5 5) ++ beTo (crc (bodyB r 4)) 4 4 from rfl]
    rw [List.drop_append_of_le_length (by rw [hl]; omega), List.take_append_of_le_length (by rw [List.length_drop, hl]; omega)]
    exact flat_at (fun j => beTo (argN r j) 5 5) 5 (fun j => beTo_length _ _ _) 4 i hi
  rw [e, num_be5 (argN_le hv i)]
theorem recOf_frame {r : Rec} (hv : validR r = true) : recOf (frameB r) = r := by
  obtain ⟨h1, h2, h3, h4, h5⟩ := validR_args hv
  unfold recOf
  rw [kindOf_frame h4 h5, h1, Int.toNat_natCast]
  have : argsTo (frameB r) r.args.length = r.args := by
    apply List.ext_getElem
    · simp [argsTo]
    · intro i h6 h7
      simp only [argsTo, List.getElem_map, List.getElem_range]
      rw [argOf_frame hv (by omega), argN_in h7 (h2 _ (List.getElem_mem h7)).1]
  rw [this]
theorem isFrame_frame {r : Rec} (hv : validR r = true) : isFrame (frameB r) = true := by
  unfold isFrame; rw [recOf_frame hv, hv]; simp
theorem isFrame_spec {l : List UInt8} (h : isFrame l = true) : validR (recOf l) = true ∧ frameB (recOf l) = l := by
  unfold isFrame at h; simpa using h
theorem scan_frame {r : Rec} (hv : validR r = true) (rest : List UInt8) : scan (frameB r ++ rest) = r :: scan rest := by
  have hl := frameB_length r
  have ht : (frameB r ++ rest).take 26 = frameB r := by rw [List.take_append_of_le_length (by omega), List.take_of_length_le (by omega)]
  have hd : (frameB r ++ rest).drop 26 = rest := by rw [← hl, List.drop_left]
  rw [scan_yes (by rw [List.length_append]; omega) (by rw [ht]; exact isFrame_frame hv), ht, hd, recOf_frame hv]
theorem scan_frames : ∀ (gs : List Rec), (∀ r ∈ gs, validR r = true) → ∀ rest, scan (gs.flatMap frameB ++ rest) = gs ++ scan rest := by
  intro gs
  induction gs with
  | nil => intro _ rest; rfl
  | cons r gs ih =>
    intro h rest
    rw [List.flatMap_cons, List.append_assoc, scan_frame (h r (by simp)), ih (fun x hx => h x (by simp [hx]))]; rfl
theorem scan_short {l : List UInt8} (h : l.length < 26) : scan l = [] := scan_no (fun hh => by omega)
/-- What is read are valid records, and their frames are the bytes that were read. -/
theorem scan_valid : ∀ (n : Nat) (l : List UInt8), l.length ≤ n → (∀ r ∈ scan l, validR r = true) ∧ (scan l).flatMap frameB = l.take ((scan l).length * 26) := by
  intro n
  induction n with
  | zero => intro l h; rw [scan_short (by omega)]; simp
  | succ n ih =>
    intro l h
    by_cases hc : 26 ≤ l.length ∧ isFrame (l.take 26) = true
    · obtain ⟨h1, h2⟩ := isFrame_spec hc.2
      obtain ⟨h3, h4⟩ := ih (l.drop 26) (by rw [List.length_drop]; omega)
      rw [scan_yes hc.1 hc.2]
      refine ⟨fun r hr => ?_, ?_⟩
      · rcases List.mem_cons.1 hr with rfl | hr
        · exact h1
        · exact h3 r hr
      · rw [List.flatMap_cons, h2, h4, List.length_cons, Nat.succ_mul, Nat.add_comm, List.take_add]
    · rw [scan_no hc]; simp
end Go.Proofs.Ytffamkodckghgaa
