/- Fragments, and what Decode returns: the model. -/
import Derived.Test.YtkpfndhocgmgjaaGD2
namespace Go.Proofs.Ytkpfndhocgmgjaa
open Go.RowKit
set_option linter.unusedVariables false
set_option linter.unusedSimpArgs false
structure Frg where
  idx : Int
  data : List UInt8
def FragAt (w : World) (R : Nat → Prop) (hs : List Frg) (b off : Nat) : Prop :=
  ∀ k h, hs[k]? = some h → ∃ va, w.cell? ⟨b, off + k * 2, none⟩ = some (.int .i64 h.idx) ∧ w.cell? ⟨b, off + k * 2 + 1, none⟩ = some va ∧ ByS w R va h.data
def FragS (w : World) (R : Nat → Prop) (v : Value) (hs : List Frg) : Prop := Row R v hs.length (FragAt w R hs) ∧ ∀ h ∈ hs, I64 h.idx
theorem FragS.keep {w w' : World} {R : Nat → Prop} {v : Value} {hs : List Frg} (h : FragS w R v hs) (hk : Kept R w w') : FragS w' R v hs :=
  ⟨h.1.imp (fun _ hb => hb) fun b off hb hc k r hr => by
    obtain ⟨va, h1, h2, h3⟩ := hc k r hr
    exact ⟨va, (hk.cell hb).trans h1, (hk.cell hb).trans h2, h3.keep hk⟩, h.2⟩
theorem FragS.mono {w : World} {R R' : Nat → Prop} {v : Value} {hs : List Frg} (h : FragS w R v hs) (hr : ∀ b, R b → R' b) : FragS w R' v hs :=
  ⟨h.1.imp hr fun b off _ hc k r hk => by
    obtain ⟨va, h1, h2, h3⟩ := hc k r hk
    exact ⟨va, h1, h2, h3.mono hr⟩, h.2⟩
theorem FragS.below {w w' : World} {v : Value} {hs : List Frg} (h : FragS w (Bl w.heap.size) v hs) (hb : Below w.heap.size w w') : FragS w' (Bl w'.heap.size) v hs := (h.keep (kept_below hb)).mono (Bl.mono hb.size)
theorem FragS.form {w : World} {R : Nat → Prop} {v : Value} {hs : List Frg} (h : FragS w R v hs) : ∃ A c, v = .slice A hs.length c ∧ hs.length ≤ c ∧ hs.length ≤ maxLen := by
  obtain ⟨⟨A', c', e, h1, h2, h3⟩, h4⟩ := h
  exact ⟨A', c', e, h1, h2⟩
theorem FragS.at_ {w : World} {R : Nat → Prop} {A : Option Addr} {n c : Nat} {hs : List Frg} (h : FragS w R (.slice A n c) hs) {k : Nat} (hk : k < hs.length) :
    ∃ b off va, A = some ⟨b, off, none⟩ ∧ R b ∧ w.cell? ⟨b, off + k * 2, none⟩ = some (.int .i64 hs[k].idx) ∧ w.cell? ⟨b, off + k * 2 + 1, none⟩ = some va ∧ ByS w R va hs[k].data ∧ I64 hs[k].idx := by
  obtain ⟨⟨A', c', e, _, _, h3⟩, h4⟩ := h
  obtain ⟨b, off, e2, hb, hc⟩ := h3 (by omega)
  obtain ⟨va, g1, g2, g3⟩ := hc k hs[k] (List.getElem?_eq_getElem hk)
  injection e with e
  exact ⟨b, off, va, e.trans e2, hb, g1, g2, g3, h4 _ (List.getElem_mem hk)⟩
def outB (n : Int) (h : Frg) : Bool := decide (h.idx < 0) || decide (n ≤ h.idx)
def idxBad (n : Int) (hs : List Frg) : Bool := hs.any (outB n)
def idxL (hs : List Frg) : List Nat := hs.map fun h => h.idx.toNat
def dupB (hs : List Frg) : Bool := !decide (idxL hs).Nodup
def datas (hs : List Frg) : Mat := hs.map (·.data)
def rowLen (hs : List Frg) : Nat := ((datas hs).getD 0 []).length
def matK (k : Nat) (hs : List Frg) : Mat := ((idxL hs).take k).map (coefR k)
def decD (k : Nat) (hs : List Frg) : Mat := (List.range k).map fun i => combT ((invT (matK k hs)).getD i []) ((datas hs).take k) (rowLen hs)
def okW (k n : Nat) (hs : List Frg) : Bool := hs.all fun h => (wordT k n (decD k hs) (rowLen hs)).getD h.idx.toNat [] == h.data
def decE (k m : Int) (hs : List Frg) : Int :=
  if codeB k m = false then 1 else if idxBad (k + m) hs = true then 1 else if dupB hs = true then 8 else if (hs.length : Int) < k then 10
  else if levelB (datas hs) = false then 11 else if okW k.toNat (k + m).toNat hs = false then 11 else 0
theorem decD_length (k : Nat) (hs : List Frg) : (decD k hs).length = k := by simp [decD]
theorem decD_wide (k : Nat) (hs : List Frg) : Wide (decD k hs) (rowLen hs) := by
  intro r hr
  simp only [decD, List.mem_map] at hr
  obtain ⟨a, -, rfl⟩ := hr
  exact combT_length _ _ _
theorem datas_length (hs : List Frg) : (datas hs).length = hs.length := by simp [datas]
theorem idxL_length (hs : List Frg) : (idxL hs).length = hs.length := by simp [idxL]
theorem datas_getElem (hs : List Frg) (i : Nat) (h : i < hs.length) : (datas hs)[i]'(by rw [datas_length]; exact h) = hs[i].data := by simp [datas]
theorem idx_in {n : Int} {hs : List Frg} (h : idxBad n hs = false) : ∀ i (hi : i < hs.length), 0 ≤ hs[i].idx ∧ hs[i].idx < n := by
  intro i hi
  unfold idxBad at h
  have := List.any_eq_false.1 h hs[i] (List.getElem_mem hi)
  simp [outB] at this
  omega
theorem matK_length {k : Nat} {hs : List Frg} (h : k ≤ hs.length) : (matK k hs).length = k := by simp [matK, idxL_length]; omega
theorem matK_wide (k : Nat) (hs : List Frg) : Wide (matK k hs) k := by
  intro r hr
  simp only [matK, List.mem_map] at hr
  obtain ⟨a, -, rfl⟩ := hr
  exact coefR_length _ _
theorem matK_getD {k : Nat} {hs : List Frg} (h : k ≤ hs.length) (i : Nat) (hi : i < k) : (matK k hs).getD i [] = coefR k (hs[i]'(by omega)).idx.toNat := by
  rw [getD_lt _ _ (by rw [matK_length h]; exact hi)]
  simp [matK, idxL]
/-- The matrix of k fragments of a code can be inverted. -/
theorem matK_inj {k m : Int} {hs : List Frg} (hc : codeB k m = true) (hi : idxBad (k + m) hs = false) (hd : dupB hs = false) (hl : ¬ (hs.length : Int) < k) : Inj (matK k.toNat hs) := by
  have hk := (codeB_iff k m).1 hc
  have hn : (idxL hs).Nodup := by simpa [dupB] using hd
  refine coef_inj k.toNat _ (by omega) (by rw [List.length_take, idxL_length]; omega) (hn.sublist (List.take_sublist _ _)) fun a ha => ?_
  have ha2 := List.mem_of_mem_take ha
  simp only [idxL, List.mem_map] at ha2
  obtain ⟨h, hh, rfl⟩ := ha2
  obtain ⟨i, hi2, rfl⟩ := List.getElem_of_mem hh
  have := idx_in hi i hi2
  omega
/-- The steps of Decode's tests. -/
theorem decE_code {k m : Int} {hs : List Frg} (h : codeB k m = false) : decE k m hs = 1 := by unfold decE; rw [if_pos h]
theorem decE_idx {k m : Int} {hs : List Frg} (h : codeB k m = true) (h2 : idxBad (k + m) hs = true) : decE k m hs = 1 := by unfold decE; rw [if_neg (by simp [h]), if_pos h2]
theorem decE_dup {k m : Int} {hs : List Frg} (h : codeB k m = true) (h2 : idxBad (k + m) hs = false) (h3 : dupB hs = true) : decE k m hs = 8 := by unfold decE; rw [if_neg (by simp [h]), if_neg (by simp [h2]), if_pos h3]
theorem decE_short {k m : Int} {hs : List Frg} (h : codeB k m = true) (h2 : idxBad (k + m) hs = false) (h3 : dupB hs = false) (h4 : (hs.length : Int) < k) : decE k m hs = 10 := by unfold decE; rw [if_neg (by simp [h]), if_neg (by simp [h2]), if_neg (by simp [h3]), if_pos h4]
theorem decE_level {k m : Int} {hs : List Frg} (h : codeB k m = true) (h2 : idxBad (k + m) hs = false) (h3 : dupB hs = false) (h4 : ¬ (hs.length : Int) < k) (h5 : levelB (datas hs) = false) : decE k m hs = 11 := by unfold decE; rw [if_neg (by simp [h]), if_neg (by simp [h2]), if_neg (by simp [h3]), if_neg h4, if_pos h5]
theorem decE_word {k m : Int} {hs : List Frg} (h : codeB k m = true) (h2 : idxBad (k + m) hs = false) (h3 : dupB hs = false) (h4 : ¬ (hs.length : Int) < k) (h5 : levelB (datas hs) = true) (h6 : okW k.toNat (k + m).toNat hs = false) : decE k m hs = 11 := by unfold decE; rw [if_neg (by simp [h]), if_neg (by simp [h2]), if_neg (by simp [h3]), if_neg h4, if_neg (by simp [h5]), if_pos h6]
theorem decE_ok {k m : Int} {hs : List Frg} (h : codeB k m = true) (h2 : idxBad (k + m) hs = false) (h3 : dupB hs = false) (h4 : ¬ (hs.length : Int) < k) (h5 : levelB (datas hs) = true) (h6 : okW k.toNat (k + m).toNat hs = true) : decE k m hs = 0 := by unfold decE; rw [if_neg (by simp [h]), if_neg (by simp [h2]), if_neg (by simp [h3]), if_neg h4, if_neg (by simp [h5]), if_neg (by simp [h6])]
end Go.Proofs.Ytkpfndhocgmgjaa
