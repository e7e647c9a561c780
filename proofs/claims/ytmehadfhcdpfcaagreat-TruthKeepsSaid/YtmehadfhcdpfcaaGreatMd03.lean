/- A matrix that the call itself has built: an outer block of slices, and a block for each row. -/
import Derived.Test.YtmehadfhcdpfcaaGreatMd02
import Derived.Laws.CopyOwn
namespace Go.Proofs.YtmehadfhcdpfcaaGreat
open Go.RowKit
set_option linter.unusedVariables false
set_option linter.unusedSimpArgs false
def rowV (m q : Nat) : Value := .slice (some ⟨q, 0, none⟩) m m
structure MatW (W : World) (B g : Nat) (qs : List Nat) (t : Mat) (m : Nat) (rest : List Value) : Prop where
 outer : W.heap[g]? = some (.cells (qs.map (rowV m) ++ rest).toArray 88 (0, 0))
 len : qs.length = t.length
 inj : ∀ i j, i < t.length → j < t.length → qs.getD i 0 = qs.getD j 0 → i = j
 inner : ∀ i, i < t.length → BlkB W (qs.getD i 0) (t.getD i [])
 wide : Wide t m
 base : ∀ i, i < t.length → B ≤ qs.getD i 0
 bg : B ≤ g
 ng : ∀ i, i < t.length → qs.getD i 0 ≠ g
section
variable {W : World} {B g : Nat} {qs : List Nat} {t : Mat} {m : Nat} {rest : List Value}
theorem MatW.cellO (h : MatW W B g qs t m rest) {i : Nat} (hi : i < t.length) : W.cell? ⟨g, i, none⟩ = some (.slice (some ⟨qs.getD i 0, 0, none⟩) m m) := by
 have hl := h.len
 rw [cell_of_row W g i _ _ _ h.outer]
 rw [List.getElem?_toArray, List.getElem?_append_left (by simp; omega), List.getElem?_map, List.getElem?_eq_getElem (by omega), getD_lt _ _ (by omega)]
 rfl
theorem MatW.freeO (h : MatW W B g qs t m rest) (i : Nat) : W.frozen? ⟨g, i, none⟩ = false := frozen_of_row W g i _ _ h.outer
theorem MatW.ltO (h : MatW W B g qs t m rest) : g < W.heap.size := by
 have h1 := h.outer
 rcases Nat.lt_or_ge g W.heap.size with h2 | h2
 ·exact h2
 ·rw [Array.getElem?_eq_none h2] at h1; cases h1
theorem MatW.rowlen (h : MatW W B g qs t m rest) {i : Nat} (hi : i < t.length) : (t.getD i []).length = m := h.wide.getD hi
theorem MatW.cellI (h : MatW W B g qs t m rest) {i j : Nat} (hi : i < t.length) (hj : j < m) : W.cell? ⟨qs.getD i 0, j, none⟩ = some (.int .u8 ((en t i j).toNat : Int)) :=
 (h.inner i hi).cellD (by rw [h.rowlen hi]; exact hj)
theorem MatW.freeI (h : MatW W B g qs t m rest) {i : Nat} (hi : i < t.length) (j : Nat) : W.frozen? ⟨qs.getD i 0, j, none⟩ = false := (h.inner i hi).free j
theorem MatW.drewN (h : MatW W B g qs t m rest) (n : Nat) : MatW (W.drewN n) B g qs t m rest := ⟨h.outer, h.len, h.inj, h.inner, h.wide, h.base, h.bg, h.ng⟩
theorem set_length (t : Mat) (i : Nat) (r : List UInt8) : (t.set i r).length = t.length := by simp
theorem wide_set {t : Mat} {m : Nat} (h : Wide t m) (i : Nat) {r : List UInt8} (hr : r.length = m) : Wide (t.set i r) m := by
 intro x hx
 rcases List.mem_or_eq_of_mem_set hx with h1 | h1
 ·exact h x h1
 ·rw [h1]; exact hr
theorem MatW.put (h : MatW W B g qs t m rest) {i j : Nat} (hi : i < t.length) (y : UInt8) : MatW (W.setCell ⟨qs.getD i 0, j, none⟩ (.int .u8 (y.toNat : Int))) B g qs (t.set i ((t.getD i []).set j y)) m rest := by
 refine ⟨?_, by rw [set_length]; exact h.len, ?_, ?_, wide_set h.wide i (by rw [List.length_set]; exact h.rowlen hi), ?_, h.bg, ?_⟩
 ·exact (heap_setCell_other W _ g _ (fun e => h.ng i hi e.symm)).trans h.outer
 ·intro a b ha hb; rw [set_length] at ha hb; exact h.inj a b ha hb
 ·intro a ha
  rw [set_length] at ha
  rw [getD_set _ _ _ _ _ hi]
  by_cases e : a = i
  ·rw [if_pos e, e]; exact (h.inner i hi).set j y
  ·rw [if_neg e]; exact (h.inner a ha).other (fun e2 => e (h.inj a i ha hi e2)) _
 ·intro a ha; rw [set_length] at ha; exact h.base a ha
 ·intro a ha; rw [set_length] at ha; exact h.ng a ha
def swapQ (qs : List Nat) (i j : Nat) : List Nat := (qs.set i (qs.getD j 0)).set j (qs.getD i 0)
theorem swapQ_getD (qs : List Nat) (a k i : Nat) (ha : a < qs.length) (hk : k < qs.length) : (swapQ qs a k).getD i 0 = qs.getD (if i = k then a else if i = a then k else i) 0 := by
 unfold swapQ
 rw [getD_set _ _ _ _ _ (by simpa using hk), getD_set _ _ _ _ _ ha]
 by_cases h1 : i = k
 ·rw [if_pos h1, if_pos h1]
 ·rw [if_neg h1, if_neg h1]
  by_cases h2 : i = a
  ·rw [if_pos h2, if_pos h2]
  ·rw [if_neg h2, if_neg h2]
theorem MatW.swap (h : MatW W B g qs t m []) {a k : Nat} (ha : a < t.length) (hk : k < t.length) :
  MatW ((W.setCell ⟨g, a, none⟩ (rowV m (qs.getD k 0))).setCell ⟨g, k, none⟩ (rowV m (qs.getD a 0))) B g (swapQ qs a k) (swapL t a k) m [] := by
 have hl := h.len
 have hsl := swapL_length t a k
 have hq := fun i => swapQ_getD qs a k i (by omega) (by omega)
 have ht := fun i => swapL_getD t a k i ha hk
 have hlt : ∀ i, i < t.length → (if i = k then a else if i = a then k else i) < t.length := fun i hi => by split; exact ha; split; exact hk; exact hi
 refine ⟨?_, by simp [swapQ, hl, hsl], ?_, ?_, ?_, ?_, h.bg, ?_⟩
 ·rw [heap_setCell_same _ g k _ _ _ (heap_setCell_same W g a _ _ _ h.outer)]
  simp [swapQ, List.map_set]
 ·intro i j hi hj e
  rw [hsl] at hi hj
  rw [hq, hq] at e
  have h2 := h.inj _ _ (hlt i hi) (hlt j hj) e
  revert h2
  split <;> (try split) <;> (try split) <;> (try split) <;> intro h2 <;> omega
 ·intro i hi
  rw [hsl] at hi
  rw [hq, ht]
  exact ((h.inner _ (hlt i hi)).other (h.ng _ (hlt i hi)) _).other (h.ng _ (hlt i hi)) _
 ·intro r hr
  obtain ⟨i, hi, rfl⟩ := List.getElem_of_mem hr
  have e := ht i
  rw [getD_lt _ _ hi] at e
  rw [e]
  exact h.wide.getD (hlt i (by omega))
 ·intro i hi; rw [hsl] at hi; rw [hq]; exact h.base _ (hlt i hi)
 ·intro i hi; rw [hsl] at hi; rw [hq]; exact h.ng _ (hlt i hi)
theorem MatW.matS (h : MatW W B g qs t m []) (hm : m ≤ maxLen) (hn : t.length ≤ maxLen) : MatS W (Bl W.heap.size) (.slice (some ⟨g, 0, none⟩) t.length t.length) t :=
 ⟨_, _, rfl, Nat.le_refl _, hn, fun _ => ⟨g, 0, rfl, h.ltO, fun k r hk => by
  have hj : k < t.length := (List.getElem?_eq_some_iff.1 hk).1
  have hx : t[k] = r := (List.getElem?_eq_some_iff.1 hk).2
  have h1 := h.cellO hj
  have h2 := h.inner k hj
  rw [getD_lt _ _ hj, hx] at h2
  have h3 : r.length = m := by rw [← hx]; exact h.wide _ (List.getElem_mem hj)
  refine ⟨_, by rw [Nat.zero_add]; exact h1, ?_⟩
  have h4 := h2.byS (c := m) (R := Bl W.heap.size) (by rw [h3]; exact Nat.le_refl _) (by rw [h3]; exact hm) h2.lt
  rw [h3] at h4
  exact h4⟩⟩
end
structure MatX (W : World) (B g : Nat) (qs cs : List Nat) (t : Mat) (m : Nat) : Prop where
 outer : ∀ i, i < t.length → W.cell? ⟨g, i, none⟩ = some (.slice (some ⟨qs.getD i 0, 0, none⟩) m (cs.getD i 0)) ∧ W.frozen? ⟨g, i, none⟩ = false
 len : qs.length = t.length
 lenc : cs.length = t.length
 inj : ∀ i j, i < t.length → j < t.length → qs.getD i 0 = qs.getD j 0 → i = j
 inner : ∀ i, i < t.length → ∀ j, j < m → W.cell? ⟨qs.getD i 0, j, none⟩ = some (.int .u8 ((en t i j).toNat : Int)) ∧ W.frozen? ⟨qs.getD i 0, j, none⟩ = false
 wide : Wide t m
 base : ∀ i, i < t.length → B ≤ qs.getD i 0
 bg : B ≤ g
 ng : ∀ i, i < t.length → qs.getD i 0 ≠ g
 cap : ∀ i, i < t.length → m ≤ cs.getD i 0
section
variable {W : World} {B g : Nat} {qs cs : List Nat} {t : Mat} {m : Nat}
theorem frozen_setM (W : World) (a b : Addr) (v : Value) : (W.setCell a v).frozen? b = W.frozen? b := by simp
theorem MatX.cellO (h : MatX W B g qs cs t m) {i : Nat} (hi : i < t.length) : W.cell? ⟨g, i, none⟩ = some (.slice (some ⟨qs.getD i 0, 0, none⟩) m (cs.getD i 0)) := (h.outer i hi).1
theorem MatX.freeO (h : MatX W B g qs cs t m) {i : Nat} (hi : i < t.length) : W.frozen? ⟨g, i, none⟩ = false := (h.outer i hi).2
theorem MatX.rowlen (h : MatX W B g qs cs t m) {i : Nat} (hi : i < t.length) : (t.getD i []).length = m := h.wide.getD hi
theorem MatX.cellI (h : MatX W B g qs cs t m) {i j : Nat} (hi : i < t.length) (hj : j < m) : W.cell? ⟨qs.getD i 0, j, none⟩ = some (.int .u8 ((en t i j).toNat : Int)) := (h.inner i hi j hj).1
theorem MatX.freeI (h : MatX W B g qs cs t m) {i j : Nat} (hi : i < t.length) (hj : j < m) : W.frozen? ⟨qs.getD i 0, j, none⟩ = false := (h.inner i hi j hj).2
theorem MatX.drewN (h : MatX W B g qs cs t m) (n : Nat) : MatX (W.drewN n) B g qs cs t m := ⟨h.outer, h.len, h.lenc, h.inj, h.inner, h.wide, h.base, h.bg, h.ng, h.cap⟩
theorem MatX.put (h : MatX W B g qs cs t m) {i j : Nat} (hi : i < t.length) (hj : j < m) (y : UInt8) : MatX (W.setCell ⟨qs.getD i 0, j, none⟩ (.int .u8 (y.toNat : Int))) B g qs cs (t.set i ((t.getD i []).set j y)) m := by
 have hrl := h.rowlen hi
 refine ⟨?_, by rw [set_length]; exact h.len, by rw [set_length]; exact h.lenc, ?_, ?_, wide_set h.wide i (by rw [List.length_set]; exact hrl), ?_, h.bg, ?_, ?_⟩
 ·intro a ha
  rw [set_length] at ha
  rw [World.cell?_setCell_other W _ _ _ (fun e => h.ng i hi (by injection e)), frozen_setM]
  exact h.outer a ha
 ·intro a b ha hb; rw [set_length] at ha hb; exact h.inj a b ha hb
 ·intro a ha b hb
  rw [set_length] at ha
  rw [frozen_setM]
  refine ⟨?_, (h.inner a ha b hb).2⟩
  unfold en
  rw [getD_set _ _ _ _ _ hi]
  by_cases e : a = i
  ·subst e
   rw [if_pos rfl, getD_set _ _ _ _ _ (by rw [hrl]; exact hj)]
   by_cases e2 : b = j
   ·subst e2
    rw [if_pos rfl]
    exact World.cell?_setCell_same W _ _ (h.inner a ha b hb).1
   ·rw [if_neg e2, World.cell?_setCell_other W _ _ _ (fun e3 => e2 (by injection e3 with _ e4; exact e4.symm))]
    exact (h.inner a ha b hb).1
  ·rw [if_neg e, World.cell?_setCell_other W _ _ _ (fun e3 => e (h.inj a i ha hi (by injection e3 with e4; exact e4.symm)))]
   exact (h.inner a ha b hb).1
 ·intro a ha; rw [set_length] at ha; exact h.base a ha
 ·intro a ha; rw [set_length] at ha; exact h.ng a ha
 ·intro a ha; rw [set_length] at ha; exact h.cap a ha
theorem MatX.swap (h : MatX W B g qs cs t m) {a k : Nat} (ha : a < t.length) (hk : k < t.length) :
  MatX ((W.setCell ⟨g, a, none⟩ (.slice (some ⟨qs.getD k 0, 0, none⟩) m (cs.getD k 0))).setCell ⟨g, k, none⟩ (.slice (some ⟨qs.getD a 0, 0, none⟩) m (cs.getD a 0))) B g (swapQ qs a k) (swapQ cs a k) (swapL t a k) m := by
 have hl := h.len
 have hlc := h.lenc
 have hsl := swapL_length t a k
 have hq := fun i => swapQ_getD qs a k i (by omega) (by omega)
 have hqc := fun i => swapQ_getD cs a k i (by omega) (by omega)
 have ht := fun i => swapL_getD t a k i ha hk
 have hlt : ∀ i, i < t.length → (if i = k then a else if i = a then k else i) < t.length := fun i hi => by split; exact ha; split; exact hk; exact hi
 refine ⟨?_, by simp [swapQ, hl, hsl], by simp [swapQ, hlc, hsl], ?_, ?_, ?_, ?_, h.bg, ?_, ?_⟩
 ·intro i hi
  rw [hsl] at hi
  rw [frozen_setM, frozen_setM]
  refine ⟨?_, (h.outer i hi).2⟩
  rw [hq, hqc]
  have ha1 : (W.setCell ⟨g, a, none⟩ (.slice (some ⟨qs.getD k 0, 0, none⟩) m (cs.getD k 0))).cell? ⟨g, a, none⟩ = some (.slice (some ⟨qs.getD k 0, 0, none⟩) m (cs.getD k 0)) := World.cell?_setCell_same W _ _ (h.outer a ha).1
  by_cases h1 : i = k
  ·rw [if_pos h1, h1]
   by_cases h2 : k = a
   ·subst h2; exact World.cell?_setCell_same _ _ _ ha1
   ·refine World.cell?_setCell_same _ _ _ (u := .slice (some ⟨qs.getD k 0, 0, none⟩) m (cs.getD k 0)) ?_
    rw [World.cell?_setCell_other W _ _ _ (fun e => h2 (by injection e with _ e2; exact e2.symm))]
    exact (h.outer k hk).1
  ·rw [if_neg h1, World.cell?_setCell_other _ _ _ _ (fun e => h1 (by injection e with _ e2; exact e2.symm))]
   by_cases h2 : i = a
   ·rw [if_pos h2, h2]; exact ha1
   ·rw [if_neg h2, World.cell?_setCell_other W _ _ _ (fun e => h2 (by injection e with _ e2; exact e2.symm))]
    exact (h.outer i hi).1
 ·intro i j hi hj e
  rw [hsl] at hi hj
  rw [hq, hq] at e
  have h2 := h.inj _ _ (hlt i hi) (hlt j hj) e
  revert h2
  split <;> (try split) <;> (try split) <;> (try split) <;> intro h2 <;> omega
 ·intro i hi j hj
  rw [hsl] at hi
  rw [frozen_setM, frozen_setM]
  unfold en
  rw [hq, ht]
  have h3 := h.inner _ (hlt i hi) j hj
  refine ⟨?_, h3.2⟩
  have hne := h.ng _ (hlt i hi)
  rw [World.cell?_setCell_other _ _ _ _ (fun e => hne (by injection e with e2; exact e2.symm)), World.cell?_setCell_other _ _ _ _ (fun e => hne (by injection e with e2; exact e2.symm))]
  exact h3.1
 ·intro r hr
  obtain ⟨i, hi, rfl⟩ := List.getElem_of_mem hr
  have e := ht i
  rw [getD_lt _ _ hi] at e
  rw [e]
  exact h.wide.getD (hlt i (by omega))
 ·intro i hi; rw [hsl] at hi; rw [hq]; exact h.base _ (hlt i hi)
 ·intro i hi; rw [hsl] at hi; rw [hq]; exact h.ng _ (hlt i hi)
 ·intro i hi; rw [hsl] at hi; rw [hqc]; exact h.cap _ (hlt i hi)
end
end Go.Proofs.YtmehadfhcdpfcaaGreat
