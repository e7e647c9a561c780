/- Gauss never fails on rows without a common zero, and yields the inverse. -/
import Derived.Test.YtkpfndhocgmgjaaGG
namespace Go.Proofs.Ytkpfndhocgmgjaa
set_option linter.unusedVariables false
def unitR (n i : Nat) : List UInt8 := (List.range n).map fun j => if j = i then 1 else 0
/-- A matrix and the identity behind it. -/
def augT (A : Mat) : Mat := A.mapIdx fun i r => r ++ unitR A.length i
theorem unitR_length (n i : Nat) : (unitR n i).length = n := by simp [unitR]
theorem unitR_getD (n i j : Nat) (h : j < n) : (unitR n i).getD j 0 = if j = i then 1 else 0 := by
  rw [getD_lt _ _ (by simpa [unitR] using h)]; simp [unitR]
/-- A vector in two parts. -/
def two (v w : Nat → UInt8) (n : Nat) (j : Nat) : UInt8 := if j < n then v j else w (j - n)
theorem dot_two (r : List UInt8) (v w : Nat → UInt8) (n : Nat) : dot r (two v w n) (n + n) = dot r v n ^^^ dot (r.drop n) w n := by
  unfold dot
  rw [List.range_add, lsum_append, lsum_map]
  congr 1
  · apply lsum_congr
    intro j hj
    have := List.mem_range.1 hj
    show gmul _ (two v w n j) = _
    unfold two; rw [if_pos this]
  · apply lsum_congr
    intro j hj
    have e : (r.drop n).getD j 0 = r.getD (n + j) 0 := by rw [List.getD, List.getElem?_drop, List.getD]
    show gmul _ (two v w n (n + j)) = _
    unfold two; rw [if_neg (by omega), e, Nat.add_sub_cancel_left]
theorem dot_zero (r : List UInt8) (n : Nat) : dot r (fun _ => 0) n = 0 := lsum_zero fun j _ => gmul_zero _
theorem dot_unit (r : List UInt8) (w : Nat → UInt8) (n i : Nat) (hi : i < n) (h : ∀ j, j < n → r.getD j 0 = if j = i then 1 else 0) : dot r w n = w i := by
  unfold dot
  rw [lsum_single (List.range n) List.nodup_range i (List.mem_range.2 hi)]
  · rw [h i hi, if_pos rfl, one_gmul]
  · intro j hj hne
    rw [h j (List.mem_range.1 hj), if_neg hne, zero_gmul]
theorem dot_aug (A : Mat) (hA : Wide A A.length) (v w : Nat → UInt8) (i : Nat) (hi : i < A.length) : dot ((augT A).getD i []) (two v w A.length) (A.length + A.length) = dot (A.getD i []) v A.length ^^^ w i := by
  have hw := hA.getD hi
  have e : (augT A).getD i [] = A.getD i [] ++ unitR A.length i := getD_mapIdx _ _ [] [] hi
  rw [e, dot_two, List.drop_append_of_le_length (by omega), List.drop_eq_nil_of_le (by omega), List.nil_append]
  congr 1
  · apply lsum_congr
    intro j hj
    have := List.mem_range.1 hj
    congr 1
    rw [List.getD, List.getElem?_append_left (by omega), List.getD]; rfl
  · exact dot_unit _ _ _ _ hi fun j hj => unitR_getD _ _ _ hj
/-- No vector but zero is turned to zero. -/
def Inj (A : Mat) : Prop := ∀ v : Nat → UInt8, (∀ i, i < A.length → dot (A.getD i []) v A.length = 0) → ∀ j, j < A.length → v j = 0
theorem aug_wide (A : Mat) (hA : Wide A A.length) : Wide (augT A) (A.length + A.length) := by
  intro r hr
  obtain ⟨i, hi, rfl⟩ := List.getElem_of_mem hr
  simp only [augT, List.getElem_mapIdx, List.length_append, unitR_length]
  have hi' : i < A.length := by simpa [augT] using hi
  rw [hA _ (List.getElem_mem hi')]
theorem aug_length (A : Mat) : (augT A).length = A.length := by simp [augT]
theorem gauss_inv (A : Mat) (hA : Wide A A.length) (hI : Inj A) : ∀ k, k ≤ A.length → Inv (augT A) (gaussN (augT A) k) A.length (A.length + A.length) k ∧ (k < A.length → piv (gaussN (augT A) k) k < A.length) := by
  intro k
  induction k with
  | zero =>
    intro hk
    have h0 : Inv (augT A) (augT A) A.length (A.length + A.length) 0 := ⟨aug_length A, aug_wide A hA, fun j hj => by omega, fun u => Iff.rfl⟩
    refine ⟨h0, fun hlt => ?_⟩
    exact piv_ok A hA hI (augT A) 0 h0 hlt
  | succ k ih =>
    intro hk
    obtain ⟨h1, h2⟩ := ih (by omega)
    have h3 := h1.step (by omega) (by omega) (h2 (by omega))
    exact ⟨h3, fun hlt => piv_ok A hA hI _ _ h3 hlt⟩
where
  piv_ok (A : Mat) (hA : Wide A A.length) (hI : Inj A) (t : Mat) (k : Nat) (h : Inv (augT A) t A.length (A.length + A.length) k) (hk : k < A.length) : piv t k < A.length := by
    have hl := h.len
    obtain ⟨p1, p2, p3, -⟩ := piv_spec t k (by omega)
    rcases Nat.lt_or_ge (piv t k) A.length with hlt | hge
    · exact hlt
    · exfalso
      have hz : ∀ i, k ≤ i → i < A.length → en t i k = 0 := fun i h1 h2 => p3 i h1 (by omega)
      let v : Nat → UInt8 := fun j => if j < k then en t j k else if j = k then 1 else 0
      let w : Nat → UInt8 := fun i => dot (A.getD i []) v A.length
      have hs : ∀ i, i < A.length → dot (t.getD i []) (two v w A.length) (A.length + A.length) = 0 := by
        apply (h.sol _).2
        intro i hi
        rw [dot_aug A hA v w i hi]
        exact xor_self _
      have hleft : ∀ i, i < A.length → dot (t.getD i []) v A.length = 0 := by
        intro i hi
        have e : dot (t.getD i []) v A.length = lsum (List.range A.length) fun j => if j < k then (if i = j then v j else 0) else if j = k then en t i k else 0 := by
          unfold dot
          apply lsum_congr
          intro j hj
          have hjn := List.mem_range.1 hj
          by_cases hjk : j < k
          · rw [if_pos hjk]
            show gmul (en t i j) (v j) = _
            rw [h.unit j hjk i hi]
            by_cases hij : i = j
            · rw [if_pos hij, if_pos hij, one_gmul]
            · rw [if_neg hij, if_neg hij, zero_gmul]
          · rw [if_neg hjk]
            by_cases hjk2 : j = k
            · rw [if_pos hjk2]
              show gmul (en t i j) (v j) = _
              have : v j = 1 := by show (if j < k then _ else if j = k then (1 : UInt8) else 0) = 1; rw [if_neg hjk, if_pos hjk2]
              rw [this, gmul_one, hjk2]
            · rw [if_neg hjk2]
              have : v j = 0 := by show (if j < k then _ else if j = k then (1 : UInt8) else 0) = 0; rw [if_neg hjk, if_neg hjk2]
              rw [this, gmul_zero]
        rw [e]
        by_cases hik : i < k
        · have e2 : (fun j => if j < k then (if i = j then v j else 0) else if j = k then en t i k else 0) = fun j => (if j = i then v i else 0) ^^^ (if j = k then en t i k else 0) := by
            funext j
            by_cases hjk : j < k
            · rw [if_pos hjk, if_neg (show ¬ j = k by omega), xor_zero]
              by_cases hij : i = j
              · rw [if_pos hij, if_pos hij.symm, hij]
              · rw [if_neg hij, if_neg (fun e => hij e.symm)]
            · rw [if_neg hjk, if_neg (show ¬ j = i by omega), zero_xor]
          rw [e2, lsum_xor, lsum_single (List.range A.length) List.nodup_range i (List.mem_range.2 hi), lsum_single (List.range A.length) List.nodup_range k (List.mem_range.2 hk), if_pos rfl, if_pos rfl]
          · have : v i = en t i k := if_pos hik
            rw [this, xor_self]
          · intro j _ hj; rw [if_neg hj]
          · intro j _ hj; rw [if_neg hj]
        · apply lsum_zero
          intro j hj
          by_cases hjk : j < k
          · rw [if_pos hjk, if_neg (by omega)]
          · rw [if_neg hjk, hz i (by omega) hi]
            split <;> rfl
      have hright : ∀ i, i < A.length → dot ((t.getD i []).drop A.length) w A.length = 0 := by
        intro i hi
        have h1 := hs i hi
        rw [dot_two, hleft i hi, zero_xor] at h1
        exact h1
      have hw0 : ∀ i, i < A.length → w i = 0 := by
        have h1 : ∀ i, i < A.length → dot (t.getD i []) (two (fun _ => 0) w A.length) (A.length + A.length) = 0 := by
          intro i hi
          rw [dot_two, hright i hi, dot_zero, xor_zero]
        have h2 := (h.sol _).1 h1
        intro i hi
        have h3 := h2 i hi
        rw [dot_aug A hA _ w i hi, dot_zero, zero_xor] at h3
        exact h3
      have hv := hI v hw0 k hk
      have hvk : v k = 1 := by show (if k < k then _ else if k = k then (1 : UInt8) else 0) = 1; rw [if_neg (by omega), if_pos rfl]
      rw [hvk] at hv
      exact absurd hv (by decide)
/-- The inverse: the right half behind all steps. -/
def invT (A : Mat) : Mat := (gaussN (augT A) A.length).map (·.drop A.length)
theorem invT_length (A : Mat) : (invT A).length = A.length := by simp [invT, gaussN_length, aug_length]
theorem invT_wide (A : Mat) (hA : Wide A A.length) (hI : Inj A) : Wide (invT A) A.length := by
  have h := (gauss_inv A hA hI A.length (Nat.le_refl _)).1
  intro r hr
  simp only [invT, List.mem_map] at hr
  obtain ⟨r0, h0, rfl⟩ := hr
  have := h.wide r0 h0
  rw [List.length_drop]; omega
theorem invT_spec (A : Mat) (hA : Wide A A.length) (hI : Inj A) (v w : Nat → UInt8) (hw : ∀ i, i < A.length → w i = dot (A.getD i []) v A.length) : ∀ i, i < A.length → dot ((invT A).getD i []) w A.length = v i := by
  intro i hi
  have h := (gauss_inv A hA hI A.length (Nat.le_refl _)).1
  have hl := h.len
  have hs := (h.sol (two v w A.length)).2 (fun j hj => by rw [dot_aug A hA v w j hj, ← hw j hj, xor_self]) i hi
  rw [dot_two] at hs
  have e : (invT A).getD i [] = ((gaussN (augT A) A.length).getD i []).drop A.length := by
    unfold invT
    rw [getD_lt _ _ (by simp; omega), getD_lt _ _ (by omega), List.getElem_map]
  have hu : dot ((gaussN (augT A) A.length).getD i []) v A.length = v i := dot_unit _ _ _ _ hi fun j hj => by
    have h1 := h.unit j hj i hi
    unfold en at h1
    rw [h1]
    by_cases hij : i = j
    · rw [if_pos hij, if_pos hij.symm]
    · rw [if_neg hij, if_neg (fun e => hij e.symm)]
  rw [hu] at hs
  rw [e]
  exact (xor_eq_zero hs).symm
end Go.Proofs.Ytkpfndhocgmgjaa
