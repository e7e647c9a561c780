/- awake, walked. -/
import Derived.Test.YtkpfndhocgmgjaaGE3
namespace Go.Proofs.Ytkpfndhocgmgjaa
open Go.RowKit
set_option linter.unusedVariables false
set_option linter.unusedSimpArgs false
theorem awake_decE : decE 1 0 [⟨0, [0]⟩] = 0 := by kernel_rfl
theorem awake_comE : comE 1 0 2 [⟨0, [0]⟩] = 0 := by unfold comE; rw [if_neg (by decide), awake_decE]
theorem awake_comH : comH 1 0 2 [⟨0, [0]⟩] = [⟨1, [0]⟩, ⟨2, [0]⟩] := by kernel_rfl
theorem awake_comE2 : comE 1 2 1 [] = 1 := by unfold comE; rw [if_pos (by decide)]
theorem awake_frag (w : World) (g1 g2 : Nat) (h1 : w.cell? ⟨g1, 0, none⟩ = some (.int .u8 0)) (h2 : w.cell? ⟨g2, 0, none⟩ = some (.int .i64 0)) (h3 : w.cell? ⟨g2, 1, none⟩ = some (.slice (some ⟨g1, 0, none⟩) 1 1)) (hg1 : g1 < w.heap.size) (hg2 : g2 < w.heap.size) :
    FragS w (Bl w.heap.size) (.slice (some ⟨g2, 0, none⟩) 1 1) [⟨0, [0]⟩] := by
  refine ⟨⟨_, 1, rfl, Nat.le_refl _, by unfold maxLen; simp, fun _ => ⟨g2, 0, rfl, hg2, fun k h hk => ?_⟩⟩, fun h hh => by
    rw [List.mem_singleton.1 hh]; exact ⟨by decide, by decide⟩⟩
  have hk0 : k = 0 := by have := (List.getElem?_eq_some_iff.1 hk).1; simpa using this
  subst hk0
  simp only [List.getElem?_cons_zero, Option.some.injEq] at hk
  subst hk
  refine ⟨_, h2, h3, ⟨_, 1, rfl, Nat.le_refl _, by unfold maxLen; simp, fun _ => ⟨g1, 0, rfl, hg1, fun j x hj => ?_⟩⟩⟩
  have hj0 : j = 0 := by have := (List.getElem?_eq_some_iff.1 hj).1; simpa using this
  subst hj0
  simp only [List.getElem?_cons_zero, Option.some.injEq] at hj
  subst hj
  exact h1
set_option maxRecDepth 100000 in
set_option maxHeartbeats 1600000 in
theorem awake_any (w : World) : Calls Try.prog 5 #[] w fun e w' => e = .returned (.bool true) ∧ Below w.heap.size w w' := by
  go_enter Try.func5, Try.ntmps5
  go_wp2_with fail
  obtain ⟨g, hg⟩ : ∃ g, g = w.heap.size := ⟨_, rfl⟩
  obtain ⟨W, hW⟩ : ∃ W, W = (w.alloc (.cells #[.int .u8 0] 5)).alloc (.cells #[.int .i64 0, .slice (some ⟨w.heap.size, 0, none⟩) 1 1] 27) := ⟨_, rfl⟩
  have hbW : Below w.heap.size w W := by rw [hW]; exact ((Below.refl _ _).alloc (Nat.le_refl _) _).alloc (by simp) _
  have hfr : FragS W (Bl W.heap.size) (.slice (some ⟨w.heap.size + 1, 0, none⟩) 1 1) [⟨0, [0]⟩] := by
    rw [hW]
    exact awake_frag _ w.heap.size (w.heap.size + 1) (by simp) (by simp) (by simp) (by simp; omega) (by simp)
  have hc1 := complete_any 1 0 2 _ _ W (by unfold I64; omega) (by unfold I64; omega) (by unfold I64; omega) hfr (by simp) (by simp)
  rw [awake_comE] at hc1
  rw [← hg] at hc1 hW ⊢
  rw [← hW]
  clear hfr hW
  refine hc1.mono ?_
  rintro e w1 ⟨v, rfl, ho, -, hb1⟩
  have ho := ho (by trivial)
  have ho2 : OwnFg w1 W.heap.size v [⟨1, [0]⟩, ⟨2, [0]⟩] := ho
  obtain ⟨A, c, rfl⟩ := ho2.form
  have hfs := ho2.fragS
  have hn : FragS w1 (Bl w1.heap.size) (.slice none 0 0) [] := ⟨Row.nil _ _ _, fun h hh => by cases hh⟩
  have hc2 := complete_any 1 2 1 _ _ w1 (by unfold I64; omega) (by unfold I64; omega) (by unfold I64; omega) hn (by simp) (by simp)
  rw [awake_comE2] at hc2
  have HC2 := Lib.hid hc2
  clear hc1 hc2 ho hn
  go_wp2_with fail
  refine HC2.out.mono ?_
  rintro e w2 ⟨v, rfl, -, hv, hb2⟩
  obtain rfl := hv (by decide)
  have hf2 := hfs.below hb2
  obtain ⟨b, off, va, rfl, hR, c0, c1, hva, -⟩ := hf2.at_ (k := 0) (by simp)
  obtain ⟨b', off', vb, he, hR', d0, d1, hvb, -⟩ := hf2.at_ (k := 1) (by simp)
  obtain ⟨rfl, rfl⟩ : b = b' ∧ off = off' := by injection he with h; injection h with h1 h2; exact ⟨h1, h2⟩
  simp only [Nat.zero_mul, Nat.add_zero, Nat.one_mul, List.getElem_cons_zero, List.getElem_cons_succ] at c0 c1 d0 d1 hva
  obtain ⟨A1, c1', rfl, -, -⟩ := hva.form
  have hva' : ByS w2 (Bl w2.heap.size) (.slice A1 1 c1') [0] := hva
  obtain ⟨b1, o1, rfl, -, e0⟩ := hva'.at_ (k := 0) (by simp)
  simp only [Nat.add_zero, List.getElem_cons_zero] at e0
  have hbb := (hbW.trans (hb1.mono hbW.size)).trans (hb2.mono (Nat.le_trans hbW.size hb1.size))
  clear hf2 hfs hva hvb he ho2 hva'
  have e1 : w2.cell? ⟨b1, o1, none⟩ = some (.int .u8 0) := e0
  clear e0
  go_wp2
  go_ret
  exact ⟨rfl, hbb⟩
end Go.Proofs.Ytkpfndhocgmgjaa
