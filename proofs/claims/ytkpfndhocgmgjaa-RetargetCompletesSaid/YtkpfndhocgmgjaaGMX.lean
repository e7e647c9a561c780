/- A matrix that the call has built by appends: slices of any capacity, a block for each row. -/
import Derived.Test.YtkpfndhocgmgjaaGMW
namespace Go.Proofs.Ytkpfndhocgmgjaa
open Go.RowKit
set_option linter.unusedVariables false
set_option linter.unusedSimpArgs false
structure MatX (W : World) (B g : Nat) (qs cs : List Nat) (t : Mat) (m : Nat) : Prop where
  outer : ∀ i, i < t.length → W.cell? ⟨g, i, none⟩ = some (.slice (some ⟨qs.getD i 0, 0, none⟩) m (cs.getD i 0)) ∧ W.frozen? ⟨g, i, none⟩ = false
  len : qs.length = t.length
  lenc : cs.length = t.length
  inj : ∀ i j, i < t.length → j < t.length → qs.getD i 0 = qs.getD j 0 → i = j
  inner : ∀ i, i < t.length → ∀ j, j < m → W.cell? ⟨qs.getD i 0, j, none⟩ = some (.int .u8 ((en t i j).toNat : Int)) ∧ W.frozen? ⟨qs.getD i 0, j, none⟩ = false
  wide : Wide t m
  base : ∀ i, i < t.length → B ≤ qs.getD i 0
  bg : B ≤ g
  ng : ∀ i, i < t.length → qs.getD i 0 ≠ g
  cap : ∀ i, i < t.length → m ≤ cs.getD i 0
section
variable {W : World} {B g : Nat} {qs cs : List Nat} {t : Mat} {m : Nat}
theorem frozen_set (W : World) (a b : Addr) (v : Value) : (W.setCell a v).frozen? b = W.frozen? b := by simp
theorem MatX.cellO (h : MatX W B g qs cs t m) {i : Nat} (hi : i < t.length) : W.cell? ⟨g, i, none⟩ = some (.slice (some ⟨qs.getD i 0, 0, none⟩) m (cs.getD i 0)) := (h.outer i hi).1
theorem MatX.freeO (h : MatX W B g qs cs t m) {i : Nat} (hi : i < t.length) : W.frozen? ⟨g, i, none⟩ = false := (h.outer i hi).2
theorem MatX.rowlen (h : MatX W B g qs cs t m) {i : Nat} (hi : i < t.length) : (t.getD i []).length = m := h.wide.getD hi
theorem MatX.cellI (h : MatX W B g qs cs t m) {i j : Nat} (hi : i < t.length) (hj : j < m) : W.cell? ⟨qs.getD i 0, j, none⟩ = some (.int .u8 ((en t i j).toNat : Int)) := (h.inner i hi j hj).1
theorem MatX.freeI (h : MatX W B g qs cs t m) {i j : Nat} (hi : i < t.length) (hj : j < m) : W.frozen? ⟨qs.getD i 0, j, none⟩ = false := (h.inner i hi j hj).2
theorem MatX.drewN (h : MatX W B g qs cs t m) (n : Nat) : MatX (W.drewN n) B g qs cs t m := ⟨h.outer, h.len, h.lenc, h.inj, h.inner, h.wide, h.base, h.bg, h.ng, h.cap⟩
theorem MatX.put (h : MatX W B g qs cs t m) {i j : Nat} (hi : i < t.length) (hj : j < m) (y : UInt8) : MatX (W.setCell ⟨qs.getD i 0, j, none⟩ (.int .u8 (y.toNat : Int))) B g qs cs (t.set i ((t.getD i []).set j y)) m := by
  have hrl := h.rowlen hi
  refine ⟨?_, by rw [set_length]; exact h.len, by rw [set_length]; exact h.lenc, ?_, ?_, wide_set h.wide i (by rw [List.length_set]; exact hrl), ?_, h.bg, ?_, ?_⟩
  · intro a ha
    rw [set_length] at ha
    rw [World.cell?_setCell_other W _ _ _ (fun e => h.ng i hi (by injection e)), frozen_set]
    exact h.outer a ha
  · intro a b ha hb; rw [set_length] at ha hb; exact h.inj a b ha hb
  · intro a ha b hb
    rw [set_length] at ha
    rw [frozen_set]
    refine ⟨?_, (h.inner a ha b hb).2⟩
    unfold en
    rw [getD_set _ _ _ _ _ hi]
    by_cases e : a = i
    · subst e
      rw [if_pos rfl, getD_set _ _ _ _ _ (by rw [hrl]; exact hj)]
      by_cases e2 : b = j
      · subst e2
        rw [if_pos rfl]
        exact World.cell?_setCell_same W _ _ (h.inner a ha b hb).1
      · rw [if_neg e2, World.cell?_setCell_other W _ _ _ (fun e3 => e2 (by injection e3 with _ e4; exact e4.symm))]
        exact (h.inner a ha b hb).1
    · rw [if_neg e, World.cell?_setCell_other W _ _ _ (fun e3 => e (h.inj a i ha hi (by injection e3 with e4; exact e4.symm)))]
      exact (h.inner a ha b hb).1
  · intro a ha; rw [set_length] at ha; exact h.base a ha
  · intro a ha; rw [set_length] at ha; exact h.ng a ha
  · intro a ha; rw [set_length] at ha; exact h.cap a ha
theorem MatX.swap (h : MatX W B g qs cs t m) {a k : Nat} (ha : a < t.length) (hk : k < t.length) :
    MatX ((W.setCell ⟨g, a, none⟩ (.slice (some ⟨qs.getD k 0, 0, none⟩) m (cs.getD k 0))).setCell ⟨g, k, none⟩ (.slice (some ⟨qs.getD a 0, 0, none⟩) m (cs.getD a 0))) B g (swapQ qs a k) (swapQ cs a k) (swapL t a k) m := by
  have hl := h.len
  have hlc := h.lenc
  have hsl := swapL_length t a k
  have hq := fun i => swapQ_getD qs a k i (by omega) (by omega)
  have hqc := fun i => swapQ_getD cs a k i (by omega) (by omega)
  have ht := fun i => swapL_getD t a k i ha hk
  have hlt : ∀ i, i < t.length → (if i = k then a else if i = a then k else i) < t.length := fun i hi => by split; exact ha; split; exact hk; exact hi
  refine ⟨?_, by simp [swapQ, hl, hsl], by simp [swapQ, hlc, hsl], ?_, ?_, ?_, ?_, h.bg, ?_, ?_⟩
  · intro i hi
    rw [hsl] at hi
    rw [frozen_set, frozen_set]
    refine ⟨?_, (h.outer i hi).2⟩
    rw [hq, hqc]
    have ha1 : (W.setCell ⟨g, a, none⟩ (.slice (some ⟨qs.getD k 0, 0, none⟩) m (cs.getD k 0))).cell? ⟨g, a, none⟩ = some (.slice (some ⟨qs.getD k 0, 0, none⟩) m (cs.getD k 0)) := World.cell?_setCell_same W _ _ (h.outer a ha).1
    by_cases h1 : i = k
    · rw [if_pos h1, h1]
      by_cases h2 : k = a
      · subst h2; exact World.cell?_setCell_same _ _ _ ha1
      · refine World.cell?_setCell_same _ _ _ (u := .slice (some ⟨qs.getD k 0, 0, none⟩) m (cs.getD k 0)) ?_
        rw [World.cell?_setCell_other W _ _ _ (fun e => h2 (by injection e with _ e2; exact e2.symm))]
        exact (h.outer k hk).1
    · rw [if_neg h1, World.cell?_setCell_other _ _ _ _ (fun e => h1 (by injection e with _ e2; exact e2.symm))]
      by_cases h2 : i = a
      · rw [if_pos h2, h2]; exact ha1
      · rw [if_neg h2, World.cell?_setCell_other W _ _ _ (fun e => h2 (by injection e with _ e2; exact e2.symm))]
        exact (h.outer i hi).1
  · intro i j hi hj e
    rw [hsl] at hi hj
    rw [hq, hq] at e
    have h2 := h.inj _ _ (hlt i hi) (hlt j hj) e
    revert h2
    split <;> (try split) <;> (try split) <;> (try split) <;> intro h2 <;> omega
  · intro i hi j hj
    rw [hsl] at hi
    rw [frozen_set, frozen_set]
    unfold en
    rw [hq, ht]
    have h3 := h.inner _ (hlt i hi) j hj
    refine ⟨?_, h3.2⟩
    have hne := h.ng _ (hlt i hi)
    rw [World.cell?_setCell_other _ _ _ _ (fun e => hne (by injection e with e2; exact e2.symm)), World.cell?_setCell_other _ _ _ _ (fun e => hne (by injection e with e2; exact e2.symm))]
    exact h3.1
  · intro r hr
    obtain ⟨i, hi, rfl⟩ := List.getElem_of_mem hr
    have e := ht i
    rw [getD_lt _ _ hi] at e
    rw [e]
    exact h.wide.getD (hlt i (by omega))
  · intro i hi; rw [hsl] at hi; rw [hq]; exact h.base _ (hlt i hi)
  · intro i hi; rw [hsl] at hi; rw [hq]; exact h.ng _ (hlt i hi)
  · intro i hi; rw [hsl] at hi; rw [hqc]; exact h.cap _ (hlt i hi)
end
end Go.Proofs.Ytkpfndhocgmgjaa
