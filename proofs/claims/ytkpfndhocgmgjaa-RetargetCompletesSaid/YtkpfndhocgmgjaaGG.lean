/- Gauss: the elimination as both texts do it, and what it yields. -/
import Derived.Test.YtkpfndhocgmgjaaGA
namespace Go.Proofs.Ytkpfndhocgmgjaa
abbrev Mat := List (List UInt8)
def en (t : Mat) (i j : Nat) : UInt8 := (t.getD i []).getD j 0
def dot (r : List UInt8) (u : Nat → UInt8) (m : Nat) : UInt8 := lsum (List.range m) fun j => gmul (r.getD j 0) (u j)
def pivF (t : Mat) (k : Nat) : Nat → Nat → Nat
  | 0, a => a
  | f + 1, a => if en t a k = 0 then pivF t k f (a + 1) else a
def piv (t : Mat) (k : Nat) : Nat := pivF t k (t.length - k) k
def swapL (t : Mat) (i j : Nat) : Mat := (t.set i (t.getD j [])).set j (t.getD i [])
def scaleR (r : List UInt8) (f : UInt8) : List UInt8 := r.mapIdx fun _ x => gmul x f
def elimR (c : UInt8) (p r : List UInt8) : List UInt8 := r.mapIdx fun j x => x ^^^ gmul c (p.getD j 0)
def elimT (s : Mat) (k : Nat) (p : List UInt8) : Mat := s.mapIdx fun i r => if i = k then r else elimR (r.getD k 0) p r
def rowP (s : Mat) (k : Nat) : List UInt8 := scaleR (s.getD k []) (ginv (en s k k))
def gstep (t : Mat) (k : Nat) : Mat :=
  let s := swapL t (piv t k) k
  elimT (s.set k (rowP s k)) k (rowP s k)
def gaussN (t : Mat) : Nat → Mat
  | 0 => t
  | k + 1 => gstep (gaussN t k) k

theorem getD_lt {α : Type} (l : List α) (d : α) {i : Nat} (h : i < l.length) : l.getD i d = l[i] := by rw [List.getD, List.getElem?_eq_getElem h]; rfl
theorem getD_ge {α : Type} (l : List α) (d : α) {i : Nat} (h : l.length ≤ i) : l.getD i d = d := by rw [List.getD, List.getElem?_eq_none h]; rfl
theorem getD_mapIdx {α β : Type} (F : Nat → α → β) (l : List α) (d : α) (d' : β) {i : Nat} (h : i < l.length) : (l.mapIdx F).getD i d' = F i (l.getD i d) := by
  rw [getD_lt _ _ (by simpa using h), getD_lt _ _ h, List.getElem_mapIdx]
theorem getD_set {α : Type} (l : List α) (d x : α) (i j : Nat) (h : i < l.length) : (l.set i x).getD j d = if j = i then x else l.getD j d := by
  by_cases e : j = i
  · subst e; rw [if_pos rfl, List.getD, List.getElem?_set_self h]; rfl
  · rw [if_neg e, List.getD, List.getElem?_set_ne (fun h => e h.symm), List.getD]
/-- A list of which the first j elements have been turned by F. -/
theorem mapIdx_zero {α : Type} (F : Nat → α → α) (l : List α) : l.mapIdx (fun i x => if i < 0 then F i x else x) = l := by
  apply List.ext_getElem
  · simp
  · intro i h1 h2; simp
theorem mapIdx_step {α : Type} (F : Nat → α → α) (l : List α) (j : Nat) (h : j < l.length) :
    (l.mapIdx (fun i x => if i < j then F i x else x)).set j (F j l[j]) = l.mapIdx (fun i x => if i < j + 1 then F i x else x) := by
  apply List.ext_getElem
  · simp
  · intro i h1 h2
    rw [List.getElem_set]
    by_cases e : j = i
    · subst e; simp
    · rw [if_neg e]
      simp only [List.getElem_mapIdx]
      by_cases h3 : i < j
      · rw [if_pos h3, if_pos (by omega)]
      · rw [if_neg h3, if_neg (by omega)]
theorem mapIdx_all {α : Type} (F : Nat → α → α) (l : List α) (j : Nat) (h : l.length ≤ j) : l.mapIdx (fun i x => if i < j then F i x else x) = l.mapIdx F := by
  apply List.ext_getElem
  · simp
  · intro i h1 h2
    simp only [List.getElem_mapIdx]
    rw [if_pos (by simp at h1; omega)]

theorem pivF_spec (t : Mat) (k : Nat) : ∀ f a, a ≤ pivF t k f a ∧ pivF t k f a ≤ a + f ∧ (∀ j, a ≤ j → j < pivF t k f a → en t j k = 0) ∧ (pivF t k f a < a + f → en t (pivF t k f a) k ≠ 0) := by
  intro f
  induction f with
  | zero => intro a; exact ⟨Nat.le_refl _, Nat.le_refl _, fun j h1 h2 => absurd h2 (by show ¬ j < a; omega), fun h => absurd h (by show ¬ a < a + 0; omega)⟩
  | succ f ih =>
    intro a
    unfold pivF
    by_cases h : en t a k = 0
    · rw [if_pos h]
      obtain ⟨h1, h2, h3, h4⟩ := ih (a + 1)
      refine ⟨by omega, by omega, fun j h5 h6 => ?_, fun h5 => h4 (by omega)⟩
      by_cases e : j = a
      · rw [e]; exact h
      · exact h3 j (by omega) h6
    · rw [if_neg h]
      exact ⟨Nat.le_refl _, by omega, fun j h1 h2 => by omega, fun _ => h⟩
theorem piv_spec (t : Mat) (k : Nat) (hk : k ≤ t.length) : k ≤ piv t k ∧ piv t k ≤ t.length ∧ (∀ j, k ≤ j → j < piv t k → en t j k = 0) ∧ (piv t k < t.length → en t (piv t k) k ≠ 0) := by
  obtain ⟨h1, h2, h3, h4⟩ := pivF_spec t k (t.length - k) k
  exact ⟨h1, by unfold piv; omega, h3, fun h => h4 (by unfold piv at h; omega)⟩

theorem dot_scale (r : List UInt8) (f : UInt8) (u : Nat → UInt8) (m : Nat) (h : m ≤ r.length) : dot (scaleR r f) u m = gmul f (dot r u m) := by
  unfold dot scaleR
  rw [lsum_mul]
  apply lsum_congr
  intro j hj
  have := List.mem_range.1 hj
  rw [getD_mapIdx _ _ 0 0 (by omega), gmul_comm _ f, gmul_assoc]
theorem dot_elim (c : UInt8) (p r : List UInt8) (u : Nat → UInt8) (m : Nat) (h : m ≤ r.length) : dot (elimR c p r) u m = dot r u m ^^^ gmul c (dot p u m) := by
  unfold dot elimR
  rw [lsum_mul, ← lsum_xor]
  apply lsum_congr
  intro j hj
  have := List.mem_range.1 hj
  rw [getD_mapIdx _ _ 0 0 (by omega), gmul_left, gmul_assoc]
/-- All rows have m entries. -/
def Wide (t : Mat) (m : Nat) : Prop := ∀ r ∈ t, r.length = m
theorem Wide.getD {t : Mat} {m : Nat} (h : Wide t m) {i : Nat} (hi : i < t.length) : (t.getD i []).length = m := by rw [getD_lt _ _ hi]; exact h _ (List.getElem_mem hi)
theorem scaleR_length (r : List UInt8) (f : UInt8) : (scaleR r f).length = r.length := by simp [scaleR]
theorem elimR_length (c : UInt8) (p r : List UInt8) : (elimR c p r).length = r.length := by simp [elimR]
theorem swapL_length (t : Mat) (i j : Nat) : (swapL t i j).length = t.length := by simp [swapL]
theorem gstep_length (t : Mat) (k : Nat) : (gstep t k).length = t.length := by simp [gstep, elimT, swapL_length]
theorem gaussN_length (t : Mat) (k : Nat) : (gaussN t k).length = t.length := by
  induction k with
  | zero => rfl
  | succ k ih => show (gstep (gaussN t k) k).length = _; rw [gstep_length, ih]
theorem swapL_getD (t : Mat) (a k i : Nat) (ha : a < t.length) (hk : k < t.length) : (swapL t a k).getD i [] = t.getD (if i = k then a else if i = a then k else i) [] := by
  unfold swapL
  rw [getD_set _ _ _ _ _ (by simpa using hk), getD_set _ _ _ _ _ ha]
  by_cases h1 : i = k
  · rw [if_pos h1, if_pos h1]
  · rw [if_neg h1, if_neg h1]
    by_cases h2 : i = a
    · rw [if_pos h2, if_pos h2]
    · rw [if_neg h2, if_neg h2]
/-- The rows behind one step. -/
theorem gstep_row (t : Mat) (k i : Nat) (hk : k < t.length) (hp : piv t k < t.length) (hi : i < t.length) :
    (gstep t k).getD i [] = if i = k then scaleR (t.getD (piv t k) []) (ginv (en t (piv t k) k)) else elimR ((t.getD (if i = piv t k then k else i) []).getD k 0) (scaleR (t.getD (piv t k) []) (ginv (en t (piv t k) k))) (t.getD (if i = piv t k then k else i) []) := by
  have hsk : (swapL t (piv t k) k).getD k [] = t.getD (piv t k) [] := by rw [swapL_getD _ _ _ _ hp hk, if_pos rfl]
  have hr : rowP (swapL t (piv t k) k) k = scaleR (t.getD (piv t k) []) (ginv (en t (piv t k) k)) := by
    unfold rowP en; rw [hsk]
  show (elimT ((swapL t (piv t k) k).set k (rowP (swapL t (piv t k) k) k)) k (rowP (swapL t (piv t k) k) k)).getD i [] = _
  unfold elimT
  rw [getD_mapIdx _ _ [] [] (by simpa [swapL_length] using hi), hr, getD_set _ _ _ _ _ (by simpa [swapL_length] using hk)]
  by_cases h : i = k
  · rw [if_pos h, if_pos h, if_pos h]
  · rw [if_neg h, if_neg h, if_neg h, swapL_getD _ _ _ _ hp hk, if_neg h]

/-- What holds of the matrix behind k steps. -/
structure Inv (t0 t : Mat) (n m k : Nat) : Prop where
  len : t.length = n
  wide : Wide t m
  unit : ∀ j, j < k → ∀ i, i < n → en t i j = if i = j then 1 else 0
  sol : ∀ u, (∀ i, i < n → dot (t.getD i []) u m = 0) ↔ (∀ i, i < n → dot (t0.getD i []) u m = 0)

theorem Inv.step {t0 t : Mat} {n m k : Nat} (h : Inv t0 t n m k) (hk : k < n) (hkm : n ≤ m) (hp : piv t k < n) : Inv t0 (gstep t k) n m (k + 1) := by
  have hl := h.len
  have hk' : k < t.length := by omega
  have hp' : piv t k < t.length := by omega
  obtain ⟨p1, p2, p3, p4⟩ := piv_spec t k (by omega)
  have hne := p4 hp'
  have hrow := fun i (hi : i < n) => gstep_row t k i hk' hp' (by omega)
  generalize piv t k = a at *
  have hwa : (t.getD a []).length = m := h.wide.getD hp'
  have hfa : ginv (en t a k) ≠ 0 := ginv_ne hne
  refine ⟨by rw [gstep_length, hl], ?_, ?_, ?_⟩
  · intro r hr
    obtain ⟨i, hi, rfl⟩ := List.getElem_of_mem hr
    rw [gstep_length] at hi
    have e := hrow i (by omega)
    rw [getD_lt _ _ (by rw [gstep_length]; exact hi)] at e
    rw [e]
    split
    · rw [scaleR_length, hwa]
    · rw [elimR_length]
      exact h.wide.getD (by split <;> omega)
  · intro j hj i hi
    have ej : en (gstep t k) i j = if i = k then gmul (en t a j) (ginv (en t a k)) else en t (if i = a then k else i) j ^^^ gmul (en t (if i = a then k else i) k) (gmul (en t a j) (ginv (en t a k))) := by
      unfold en
      rw [hrow i hi]
      by_cases hik : i = k
      · rw [if_pos hik, if_pos hik]
        exact getD_mapIdx _ _ 0 0 (by rw [hwa]; omega)
      · rw [if_neg hik, if_neg hik]
        have hw2 : (t.getD (if i = a then k else i) []).length = m := h.wide.getD (by split <;> omega)
        unfold elimR
        rw [getD_mapIdx _ _ 0 0 (by rw [hw2]; omega)]
        congr 2
        exact getD_mapIdx _ _ 0 0 (by rw [hwa]; omega)
    rw [ej]
    by_cases hjk : j = k
    · subst hjk
      rw [gmul_inv _ hne]
      by_cases hij : i = j
      · rw [if_pos hij, if_pos hij]
      · rw [if_neg hij, if_neg hij, gmul_one, xor_self]
    · have hjlt : j < k := by omega
      have haj : en t a j = 0 := by rw [h.unit j hjlt a hp, if_neg (by omega)]
      rw [haj, zero_gmul]
      by_cases hik : i = k
      · rw [if_pos hik, if_neg (by omega)]
      · rw [if_neg hik, gmul_zero, xor_zero]
        by_cases hia : i = a
        · rw [if_pos hia, h.unit j hjlt k hk, if_neg (by omega), if_neg (by omega)]
        · rw [if_neg hia, h.unit j hjlt i hi]
  · intro u
    rw [← h.sol u]
    have hd : ∀ i, i < n → dot ((gstep t k).getD i []) u m = if i = k then gmul (ginv (en t a k)) (dot (t.getD a []) u m) else dot (t.getD (if i = a then k else i) []) u m ^^^ gmul (en t (if i = a then k else i) k) (gmul (ginv (en t a k)) (dot (t.getD a []) u m)) := by
      intro i hi
      rw [hrow i hi]
      by_cases hik : i = k
      · rw [if_pos hik, if_pos hik, dot_scale _ _ _ _ (by omega)]
      · rw [if_neg hik, if_neg hik]
        have hw2 : (t.getD (if i = a then k else i) []).length = m := h.wide.getD (by split <;> omega)
        rw [dot_elim _ _ _ _ _ (by omega), dot_scale _ _ _ _ (by omega)]; rfl
    constructor
    · intro hz i hi
      have hza : dot (t.getD a []) u m = 0 := by
        have h1 := hz k hk
        rw [hd k hk, if_pos rfl] at h1
        rcases gmul_eq_zero h1 with h2 | h2
        · exact absurd h2 hfa
        · exact h2
      have hzz : ∀ j, j < n → j ≠ k → dot (t.getD (if j = a then k else j) []) u m = 0 := by
        intro j hj hjk
        have h1 := hz j hj
        rw [hd j hj, if_neg hjk, hza, gmul_zero, gmul_zero, xor_zero] at h1
        exact h1
      by_cases hia : i = a
      · rw [hia]; exact hza
      · by_cases hik : i = k
        · have h1 := hzz a hp (by omega)
          rw [if_pos rfl] at h1
          rw [hik]; exact h1
        · have h1 := hzz i hi hik
          rw [if_neg hia] at h1
          exact h1
    · intro hz i hi
      rw [hd i hi, hz a hp, gmul_zero, gmul_zero, xor_zero]
      by_cases hik : i = k
      · rw [if_pos hik]
      · rw [if_neg hik]
        exact hz _ (by split <;> omega)
end Go.Proofs.Ytkpfndhocgmgjaa
