/- Collected fragments, one taken out. -/
import Derived.Test.YtkpfndhocgmgjaaGE5
namespace Go.Proofs.Ytkpfndhocgmgjaa
open Go.RowKit
set_option linter.unusedVariables false
set_option linter.unusedSimpArgs false
theorem fgC_one {w : World} {v : Value} {hs : List Frg} {cs : List Value} (h : FgC w v hs cs) (hl : cs.length = hs.length * 2) : ∀ u ∈ cs, u.oneCell' = true := by
  intro u hu
  obtain ⟨i, hi, rfl⟩ := List.getElem_of_mem hu
  have hk : i / 2 < hs.length := by omega
  obtain ⟨va, h1, h2, h3⟩ := h (i / 2) _ (List.getElem?_eq_getElem hk)
  obtain ⟨A, c, rfl, -, -⟩ := h3.form
  rcases Nat.mod_two_eq_zero_or_one i with e | e
  · have e2 : i / 2 * 2 = i := by omega
    rw [e2, List.getElem?_eq_getElem hi] at h1
    injection h1 with h1; rw [h1]; rfl
  · have e2 : i / 2 * 2 + 1 = i := by omega
    rw [e2, List.getElem?_eq_getElem hi] at h2
    injection h2 with h2; rw [h2]; rfl
theorem OwnFg.delete {w : World} {base g n c i : Nat} {hs : List Frg} {cs : List Value} (hn : hs.length = n) (ho : w.ownsRow base 27 2 (.slice (some ⟨g, 0, none⟩) n c) n cs)
    (hc : FgC w (.slice (some ⟨g, 0, none⟩) n c) hs cs) (hk : ∀ h ∈ hs, I64 h.idx) (hi : i < n) :
    OwnFg (w.setCells g (i * 2) (cs.drop ((i + 1) * 2))) base (.slice (some ⟨g, 0, none⟩) (n - 1) c) (hs.eraseIdx i) := by
  obtain ⟨h1, hg⟩ := own_delete ho hi
  have hl := ho.1
  have hel : (hs.eraseIdx i).length = n - 1 := by rw [List.length_eraseIdx]; split <;> omega
  generalize w.setCells g (i * 2) (cs.drop ((i + 1) * 2)) = w' at *
  refine ⟨⟨_, by rw [hel]; exact h1, fun k h hk => ?_⟩, fun h hh => hk h (List.mem_of_mem_eraseIdx hh)⟩
  have hkn : k < n - 1 := by have := (List.getElem?_eq_some_iff.1 hk).1; omega
  have hkeep : ∀ va (l : List UInt8), ByS w (fun b => b < w.heap.size ∧ (Value.slice (some ⟨g, 0, none⟩) n c).ownBlock ≠ some b) va l → ByS w' (fun b => b < w'.heap.size ∧ (Value.slice (some ⟨g, 0, none⟩) (n - 1) c).ownBlock ≠ some b) va l :=
    fun va l h => (h.keep (fun b hb => hg.block b hb.1 (fun e => hb.2 e.symm))).mono (fun b hb => ⟨Nat.lt_of_lt_of_le hb.1 hg.size, hb.2⟩)
  rw [List.getElem?_eraseIdx] at hk
  by_cases hki : k < i
  · rw [if_pos hki] at hk
    obtain ⟨va, c0, c1, hv⟩ := hc k h hk
    refine ⟨va, ?_, ?_, hkeep _ _ hv⟩
    · rw [List.getElem?_append_left (by rw [List.length_take]; omega), List.getElem?_take_of_lt (by omega)]; exact c0
    · rw [List.getElem?_append_left (by rw [List.length_take]; omega), List.getElem?_take_of_lt (by omega)]; exact c1
  · rw [if_neg hki] at hk
    obtain ⟨va, c0, c1, hv⟩ := hc (k + 1) h hk
    have htl : (cs.take (i * 2)).length = i * 2 := by rw [List.length_take]; omega
    refine ⟨va, ?_, ?_, hkeep _ _ hv⟩
    · rw [List.getElem?_append_right (by omega), htl, List.getElem?_drop]
      have e : (i + 1) * 2 + (k * 2 - i * 2) = (k + 1) * 2 := by omega
      rw [e]; exact c0
    · rw [List.getElem?_append_right (by omega), htl, List.getElem?_drop]
      have e : (i + 1) * 2 + (k * 2 + 1 - i * 2) = (k + 1) * 2 + 1 := by omega
      rw [e]; exact c1
end Go.Proofs.Ytkpfndhocgmgjaa
