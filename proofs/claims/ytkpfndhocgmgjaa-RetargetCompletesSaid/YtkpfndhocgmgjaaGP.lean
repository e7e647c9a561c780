/- Fragments of a code word decode to its data: plain. -/
import Derived.Test.YtkpfndhocgmgjaaGE2
namespace Go.Proofs.Ytkpfndhocgmgjaa
open Go.RowKit
set_option linter.unusedVariables false
theorem combT_getD (cs : List UInt8) (t : Mat) (m c : Nat) (hc : c < m) : (combT cs t m).getD c 0 = dot cs (fun r => en t r c) t.length := by
  rw [getD_lt _ _ (by rw [combT_length]; exact hc)]
  simp only [combT, List.getElem_map, List.getElem_range]
  rfl
theorem combT_unit (k a L : Nat) (D : Mat) (hD : D.length = k) (hw : Wide D L) (ha : a < k) : combT (coefR k a) D L = D.getD a [] := by
  have hl : (D.getD a []).length = L := hw.getD (by omega)
  apply List.ext_getElem
  · rw [combT_length, hl]
  · intro c h1 h2
    rw [combT_length] at h1
    have e1 := combT_getD (coefR k a) D L c h1
    rw [getD_lt _ _ (by rw [combT_length]; exact h1)] at e1
    rw [e1, hD, dot_unit _ _ _ a ha (fun j hj => by rw [coefR_getD k a j hj, if_pos ha])]
    show en D a c = _
    unfold en
    rw [getD_lt _ 0 h2]
theorem wordT_take (k n L : Nat) (D : Mat) (hD : D.length = k) (hw : Wide D L) (hn : k ≤ n) : (wordT k n D L).take k = D := by
  apply List.ext_getElem
  · rw [List.length_take, wordT_length, hD]; omega
  · intro a h1 h2
    rw [List.getElem_take]
    have h3 : a < k := by omega
    have e := wordT_getD k n D L a (by omega)
    rw [getD_lt _ _ (by rw [wordT_length]; omega)] at e
    rw [e, combT_unit k a L D hD hw h3, getD_lt]
/-- Fragments of the word T, their numbers apart. -/
def Frs (T : Mat) (n : Nat) (hs : List Frg) : Prop := (∀ h ∈ hs, ∃ a, a < n ∧ h.idx = (a : Int) ∧ h.data = T.getD a []) ∧ (idxL hs).Nodup
theorem frs_dec (k m L : Nat) (D : Mat) (hs : List Frg) (hc : codeB k m = true) (hD : D.length = k) (hw : Wide D L) (h : Frs (wordT k (k + m) D L) (k + m) hs) (hl : k ≤ hs.length) :
    decE k m hs = 0 ∧ decD k hs = D ∧ rowLen hs = L := by
  have hg := (codeB_iff k m).1 hc
  have hT := wordT_length k (k + m) D L
  have hTw := wordT_wide k (k + m) D L
  have hdl : ∀ h ∈ hs, h.data.length = L := fun x hx => by
    obtain ⟨a, ha, -, e⟩ := h.1 x hx
    rw [e]; exact hTw.getD (by rw [hT]; exact ha)
  have hrl : rowLen hs = L := by
    unfold rowLen
    rw [getD_lt _ _ (by rw [datas_length]; omega), datas_getElem hs 0 (by omega)]
    exact hdl _ (List.getElem_mem _)
  have hib : idxBad ((k : Int) + (m : Int)) hs = false := by
    unfold idxBad
    rw [List.any_eq_false]
    intro x hx
    obtain ⟨a, ha, e, -⟩ := h.1 x hx
    simp [outB, e]; omega
  have hdb : dupB hs = false := by unfold dupB; simpa using h.2
  have hlb : levelB (datas hs) = true := levelB_yes (m := L) fun r hr => by
    simp only [datas, List.mem_map] at hr
    obtain ⟨x, hx, rfl⟩ := hr
    exact hdl x hx
  have hln : ¬ (hs.length : Int) < (k : Int) := by omega
  have hinj := matK_inj (k := k) (m := m) hc hib hdb hln
  have ek : ((k : Int)).toNat = k := by omega
  have en' : ((k : Int) + (m : Int)).toNat = k + m := by omega
  rw [ek] at hinj
  have hml := matK_length hl
  have hmw := matK_wide k hs
  have hdec : decD k hs = D := by
    apply List.ext_getElem
    · rw [decD_length, hD]
    · intro i h1 h2
      rw [decD_length] at h1
      simp only [decD, List.getElem_map, List.getElem_range]
      apply List.ext_getElem
      · rw [combT_length, hrl]; exact (hw _ (List.getElem_mem h2)).symm
      · intro c c1 c2
        have hcL : c < L := by rw [combT_length, hrl] at c1; exact c1
        have e1 := combT_getD ((invT (matK k hs)).getD i []) ((datas hs).take k) (rowLen hs) c (by rw [hrl]; exact hcL)
        rw [getD_lt _ _ c1] at e1
        have htl : ((datas hs).take k).length = k := by rw [List.length_take, datas_length]; omega
        have hs1 := invT_spec (matK k hs) (by rw [hml]; exact hmw) hinj (fun r => en D r c) (fun j => en ((datas hs).take k) j c) (fun j hj => by
          rw [hml] at hj ⊢
          rw [matK_getD hl j hj]
          have hjl : j < hs.length := by omega
          obtain ⟨a, ha, ea, ed⟩ := h.1 _ (List.getElem_mem hjl)
          show (((datas hs).take k).getD j []).getD c 0 = _
          rw [getD_lt _ [] (by rw [htl]; exact hj), List.getElem_take, datas_getElem hs j hjl, ed, wordT_getD _ _ _ _ _ ha, combT_getD _ _ _ _ hcL, hD, ea]
          rfl) i (by rw [hml]; exact h1)
        rw [hml] at hs1
        rw [e1, htl]
        refine hs1.trans ?_
        show (D.getD i []).getD c 0 = _
        have hrow : D.getD i [] = D[i] := getD_lt _ _ h2
        rw [hrow, getD_lt _ _ c2]
  have hok : okW k (k + m) hs = true := by
    unfold okW
    rw [List.all_eq_true]
    intro x hx
    obtain ⟨a, ha, ea, ed⟩ := h.1 x hx
    rw [hdec, hrl, ed, ea]
    simp
  exact ⟨decE_ok hc hib hdb hln hlb (by rw [ek, en']; exact hok), hdec, hrl⟩
theorem Frs.erase {T : Mat} {n : Nat} {hs : List Frg} (h : Frs T n hs) (x : Nat) : Frs T n (hs.eraseIdx x) := by
  refine ⟨fun y hy => h.1 y (List.mem_of_mem_eraseIdx hy), ?_⟩
  exact h.2.sublist ((List.eraseIdx_sublist hs x).map _)
theorem frags_frs (T : Mat) (a c n : Nat) (h : a + c ≤ n) : Frs T n (fragsT T a c) := by
  refine ⟨fun x hx => ?_, ?_⟩
  · obtain ⟨i, hi, rfl⟩ := List.getElem_of_mem hx
    rw [fragsT_length] at hi
    rw [fragsT_getElem]
    exact ⟨a + i, by omega, rfl, rfl⟩
  · unfold idxL fragsT
    rw [List.map_map]
    rw [List.Nodup, List.pairwise_map]
    exact List.Pairwise.imp (fun {x y} hxy e => hxy (by simp at e; omega)) List.nodup_range
/-- What the first code's fragments and Complete's make together. -/
theorem frs_more (k m1 m2 L : Nat) (D : Mat) (hs : List Frg) (h : Frs (wordT k (k + m1) D L) (k + m1) hs) (hm : m1 ≤ m2) :
    Frs (wordT k (k + m2) D L) (k + m2) (hs ++ fragsT (wordT k (k + m2) D L) (k + m1) (m2 - m1)) := by
  have h2 := frags_frs (wordT k (k + m2) D L) (k + m1) (m2 - m1) (k + m2) (by omega)
  refine ⟨fun x hx => ?_, ?_⟩
  · rcases List.mem_append.1 hx with hx | hx
    · obtain ⟨a, ha, ea, ed⟩ := h.1 x hx
      refine ⟨a, by omega, ea, ?_⟩
      rw [ed, wordT_getD _ _ _ _ _ ha, wordT_getD _ _ _ _ _ (by omega)]
    · exact h2.1 x hx
  · unfold idxL
    rw [List.map_append, List.nodup_append]
    refine ⟨h.2, h2.2, fun a ha b hb e => ?_⟩
    simp only [List.mem_map] at ha hb
    obtain ⟨x, hx, rfl⟩ := ha
    obtain ⟨y, hy, rfl⟩ := hb
    obtain ⟨p, hp, ep, -⟩ := h.1 x hx
    obtain ⟨i, hi, rfl⟩ := List.getElem_of_mem hy
    rw [fragsT_length] at hi
    rw [fragsT_getElem, ep] at e
    simp at e
    omega
/-- What Complete answers on fragments of a word. -/
theorem frs_com (k m1 m2 L : Nat) (D : Mat) (hs : List Frg) (hc : codeB k m1 = true) (hc2 : codeB k m2 = true) (hm : m1 ≤ m2) (hD : D.length = k) (hw : Wide D L) (h : Frs (wordT k (k + m1) D L) (k + m1) hs) (hl : k ≤ hs.length) :
    comE k m1 m2 hs = 0 ∧ comH k m1 m2 hs = fragsT (wordT k (k + m2) D L) (k + m1) (m2 - m1) := by
  obtain ⟨h1, h2, h3⟩ := frs_dec k m1 L D hs hc hD hw h hl
  refine ⟨?_, ?_⟩
  · unfold comE
    rw [if_neg (by simp [hc, hc2]; omega), h1]
  · have e : comD k m1 hs = D := by unfold comD; rw [h2, h3]; exact wordT_take k (k + m1) L D hD hw (by omega)
    unfold comH
    rw [e, h3]
end Go.Proofs.Ytkpfndhocgmgjaa
