/- The rows of a code word: which of them determine the data. -/
import Derived.Test.YtkpfndhocgmgjaaGH
namespace Go.Proofs.Ytkpfndhocgmgjaa
set_option linter.unusedVariables false
/-- The factor of data row i in parity row j. -/
def coef (j i : Nat) : UInt8 := ginv (UInt8.ofNat (128 + j) ^^^ UInt8.ofNat i)
/-- The factors of the data rows in row at. -/
def coefR (k at_ : Nat) : List UInt8 := (List.range k).map fun i => if at_ < k then (if i = at_ then 1 else 0) else coef (at_ - k) i
theorem coefR_length (k a : Nat) : (coefR k a).length = k := by simp [coefR]
theorem coefR_getD (k a i : Nat) (h : i < k) : (coefR k a).getD i 0 = if a < k then (if i = a then 1 else 0) else coef (a - k) i := by
  rw [getD_lt _ _ (by simpa [coefR] using h)]; simp [coefR]
theorem nodup_sub : ∀ (l m : List Nat), l.Nodup → (∀ x ∈ l, x ∈ m) → l.length ≤ m.length := by
  intro l
  induction l with
  | nil => intro m _ _; exact Nat.zero_le _
  | cons a l ih =>
    intro m hn hs
    have hn2 := List.nodup_cons.1 hn
    have ha : a ∈ m := hs a (by simp)
    have h1 := ih (m.erase a) hn2.2 (fun x hx => by
      have hxa : x ≠ a := fun e => hn2.1 (e ▸ hx)
      exact (List.mem_erase_of_ne hxa).2 (hs x (by simp [hx])))
    have h2 := List.length_erase_of_mem ha
    have h3 : 0 < m.length := List.length_pos_of_mem ha
    rw [List.length_cons]; omega
theorem filter_split {α : Type} (p : α → Bool) (l : List α) : (l.filter p).length + (l.filter fun a => !p a).length = l.length := by
  induction l with
  | nil => rfl
  | cons a l ih =>
    cases h : p a <;> simp [h] <;> omega
theorem byte_ne : ∀ j : Nat, j < 64 → ∀ i : Nat, i < 64 → UInt8.ofNat (128 + j) ≠ UInt8.ofNat i := by
  intro j hj i hi h
  have h1 := congrArg UInt8.toNat h
  rw [UInt8.toNat_ofNat', UInt8.toNat_ofNat'] at h1
  omega
theorem ofNat_inj {a b : Nat} (ha : a < 256) (hb : b < 256) (h : UInt8.ofNat a = UInt8.ofNat b) : a = b := by
  have h1 := congrArg UInt8.toNat h
  rw [UInt8.toNat_ofNat', UInt8.toNat_ofNat'] at h1
  omega
/-- Any k rows of a code word determine the data. -/
theorem coef_inj (k : Nat) (is : List Nat) (hk : k ≤ 64) (hl : is.length = k) (hn : is.Nodup) (hr : ∀ i ∈ is, i < k + 64) : Inj (is.map (coefR k)) := by
  intro v hv
  have hvA : ∀ a ∈ is, dot (coefR k a) v k = 0 := by
    intro a ha
    obtain ⟨i, hi, rfl⟩ := List.getElem_of_mem ha
    have h := hv i (by simpa using hi)
    have hlm : (is.map (coefR k)).length = k := by rw [List.length_map, hl]
    rw [getD_lt _ _ (by simpa using hi), List.getElem_map] at h
    simp only [hlm] at h
    exact h
  rw [List.length_map, hl]
  have hdata : ∀ a ∈ is, a < k → v a = 0 := by
    intro a ha hak
    have h := hvA a ha
    rwa [dot_unit _ _ _ _ hak (fun j hj => by rw [coefR_getD _ _ _ hj, if_pos hak])] at h
  let ys := (List.range k).filter fun i => !is.contains i
  let ps := ys.map fun i => (UInt8.ofNat i, v i)
  let xs := (is.filter fun a => !decide (a < k)).map fun a => UInt8.ofNat (128 + (a - k))
  have hys : ∀ i ∈ ys, i < k ∧ i ∉ is := by
    intro i hi
    have h := List.mem_filter.1 hi
    exact ⟨List.mem_range.1 h.1, by simpa using h.2⟩
  have hc := cauchy ps xs ?_ ?_ ?_ ?_ ?_
  · intro j hj
    by_cases hj2 : j ∈ is
    · exact hdata j hj2 hj
    · exact hc (UInt8.ofNat j, v j) (List.mem_map.2 ⟨j, List.mem_filter.2 ⟨List.mem_range.2 hj, by simpa using hj2⟩, rfl⟩)
  · show ((ys.map fun i => (UInt8.ofNat i, v i)).map (·.1)).Nodup
    rw [List.map_map]
    have hy : ys.Nodup := List.nodup_range.filter _
    have : ys.map ((·.1) ∘ fun i => (UInt8.ofNat i, v i)) = ys.map UInt8.ofNat := rfl
    rw [this]
    refine List.pairwise_map.2 (List.Pairwise.imp_of_mem (fun {a b} ha hb hab => ?_) hy)
    intro e
    have h1 := (hys a ha).1
    have h2 := (hys b hb).1
    exact hab (ofNat_inj (by omega) (by omega) e)
  · show ((is.filter fun a => !decide (a < k)).map fun a => UInt8.ofNat (128 + (a - k))).Nodup
    refine List.pairwise_map.2 (List.Pairwise.imp_of_mem (fun {a b} ha hb hab => ?_) (hn.filter _))
    intro e
    have h1 := List.mem_filter.1 ha
    have h2 := List.mem_filter.1 hb
    have h3 := hr a h1.1
    have h4 := hr b h2.1
    have h5 : ¬ a < k := by simpa using h1.2
    have h6 : ¬ b < k := by simpa using h2.2
    have := ofNat_inj (by omega) (by omega) e
    exact hab (by omega)
  · intro x hx p hp
    obtain ⟨a, ha, rfl⟩ := List.mem_map.1 hx
    obtain ⟨i, hi, rfl⟩ := List.mem_map.1 hp
    have h1 := List.mem_filter.1 ha
    have h3 := hr a h1.1
    have h5 : ¬ a < k := by simpa using h1.2
    have h7 := (hys i hi).1
    exact byte_ne _ (by omega) _ (by omega)
  · have h1 := filter_split (fun a => decide (a < k)) is
    have h2 := filter_split (fun i => is.contains i) (List.range k)
    have h3 := nodup_sub (is.filter fun a => decide (a < k)) ((List.range k).filter fun i => is.contains i) (hn.filter _) (fun x hx => by
      have h := List.mem_filter.1 hx
      have h4 : x < k := by simpa using h.2
      exact List.mem_filter.2 ⟨List.mem_range.2 h4, by simpa using h.1⟩)
    rw [List.length_range] at h2
    show (((List.range k).filter fun i => !is.contains i).map fun i => (UInt8.ofNat i, v i)).length ≤ ((is.filter fun a => !decide (a < k)).map fun a => UInt8.ofNat (128 + (a - k))).length
    rw [List.length_map, List.length_map]
    omega
  · intro x hx
    obtain ⟨a, ha, rfl⟩ := List.mem_map.1 hx
    have h1 := List.mem_filter.1 ha
    have h5 : ¬ a < k := by simpa using h1.2
    have h := hvA a h1.1
    show lsum (ys.map fun i => (UInt8.ofNat i, v i)) _ = 0
    rw [lsum_map, ← h]
    unfold dot
    rw [lsum_filter (fun i => !is.contains i) (List.range k)]
    · apply lsum_congr
      intro i hi
      have h7 := (hys i hi).1
      rw [coefR_getD _ _ _ h7, if_neg h5, gmul_comm]; rfl
    · intro i hi hp
      have : i ∈ is := by simpa using hp
      rw [hdata i this (List.mem_range.1 hi), gmul_zero]
end Go.Proofs.Ytkpfndhocgmgjaa
