/- Two slices of rows that a call builds side by side, appended to in one region. -/
import Derived.Deep.AppendLies
import Derived.Deep.RegionHeld3
import Derived.Test.YtkpfndhocgmgjaaGR1
namespace Go.Proofs.Ytkpfndhocgmgjaa
open Go.RowKit
set_option linter.unusedVariables false
set_option linter.unusedSimpArgs false
/-- Blocks that are neither va's nor vr's. -/
def Nb (W : World) (va vr : Value) (b : Nat) : Prop := b < W.heap.size ∧ va.ownBlock ≠ some b ∧ vr.ownBlock ≠ some b
structure Two (W : World) (B : Nat) (va vr : Value) (xs ys : List Value) (ta tr : Mat) : Prop where
  ownA : W.ownsRow B 25 1 va ta.length xs
  ownR : W.ownsRow B 25 1 vr tr.length ys
  apart : ∀ b, va.ownBlock = some b → vr.ownBlock ≠ some b
  rowA : ∀ j, j < ta.length → ByS W (Nb W va vr) (xs.getD j undef) (ta.getD j [])
  rowR : ∀ j, j < tr.length → ByS W (Nb W va vr) (ys.getD j undef) (tr.getD j [])
theorem Two.nil (W : World) (B : Nat) : Two W B (.slice none 0 0) (.slice none 0 0) [] [] [] [] :=
  ⟨World.ownsRow_nil _ _ _ _, World.ownsRow_nil _ _ _ _, (fun b h => by cases h), (fun j h => absurd h (Nat.not_lt_zero _)), (fun j h => absurd h (Nat.not_lt_zero _))⟩
theorem Below.al {w w2 : World} (h : Below w.heap.size w w2) (o : Obj) : Below w.heap.size w (w2.alloc o) := h.alloc h.size o
theorem Below.ald {w w2 : World} (o1 : Obj) (h : Below (w.alloc o1).heap.size (w.alloc o1) w2) : Below w.heap.size w w2 := below_box h
theorem step_pairA {ops : Array Oper} {o : Oper} {a : Act} {w W : World} {K : Act → World → Prop} {Q : Exit → Act → World → Prop} {E : Prop}
    (hgd : o.guard = none) (s x : Operand) (ho : o.op = .call { callee := .builtin .append, args := #[s, x], argTypes := #[35, 35] })
    (B : Nat) (v : Value) (n : Nat) (xs : List Value) (q : Nat) (u : Value) (hown : W.ownsRow B 25 1 v n xs) (hP : Below W.heap.size W w) (hB : B ≤ W.heap.size) (hn : n ≤ 1048576)
    (hs : a.eval s = v) (hx : a.eval x = .slice (some ⟨q, 0, none⟩) 1 1) (hc : w.cell? ⟨q, 0, none⟩ = some u) (h1 : u.oneCell' = true)
    (h : ∀ g cap w', Below W.heap.size W w → w'.ownsRow B 25 1 (.slice (some ⟨g, 0, none⟩) (n + 1) cap) (n + 1) (xs ++ [u]) → w.grownBy w' v.ownBlock → (v.ownBlock = some g ∨ g = w.heap.size) → g < w'.heap.size →
      (∀ p z, W.heap.size ≤ p → p < w.heap.size → w.cell? ⟨p, 0, none⟩ = some z → w'.cell? ⟨p, 0, none⟩ = some z) → W.heap.size ≤ w'.heap.size → K (a.put o.dst (.slice (some ⟨g, 0, none⟩) (n + 1) cap)) w') :
    if Region.wanted o (yielded ops a.tmps) = true then Oper.wp Try.prog o a w K Q else E := by
  obtain ⟨i0, hi0, hz0, hz1, hz2⟩ := info_parts info_row
  have hlt := hown.lt
  refine step_append_lies w hgd s x 35 ho B 25 i0 _ 1 24 Try.underlying35 hi0 hz0 hz1 hz2 rfl (by omega) v n xs hs (own_below hown hP) ⟨q, 0, none⟩ 1 1 [u] hx rfl ?_ ?_ (by omega) (by unfold maxLen; omega) (by omega) (Nat.le_trans hB hP.size) _ rfl ?_
  · intro j z hj
    have hj0 : j = 0 := by have := (List.getElem?_eq_some_iff.1 hj).1; simpa using this
    subst hj0
    simp at hj
    subst hj
    simpa [Addr.add] using hc
  · intro z hz; rw [List.mem_singleton.1 hz]; exact h1
  · intro g cap w' h2 h3 h4 h5
    exact h g cap w' hP h2 h3 h4 h5 (fun p z hp hp2 hz => (World.cell?_of_block (w := w) (h3.block p hp2 (fun e => by have := (hlt p e.symm).2; omega))).trans hz) (Nat.le_trans hP.size h3.size)
theorem step_pairR {ops : Array Oper} {o : Oper} {a : Act} {w w9 : World} {K : Act → World → Prop} {Q : Exit → Act → World → Prop} {E : Prop}
    (hgd : o.guard = none) (s x : Operand) (ho : o.op = .call { callee := .builtin .append, args := #[s, x], argTypes := #[35, 35] })
    (B : Nat) (v : Value) (n : Nat) (ys : List Value) (q : Nat) (u : Value) (hown : w9.ownsRow B 25 1 v n ys) (hP : Below w9.heap.size w9 w) (hB : B ≤ w9.heap.size) (hn : n ≤ 1048576)
    (hs : a.eval s = v) (hx : a.eval x = .slice (some ⟨q, 0, none⟩) 1 1) (hc : w.cell? ⟨q, 0, none⟩ = some u) (h1 : u.oneCell' = true)
    (h : ∀ g cap w', Below w9.heap.size w9 w → w'.ownsRow B 25 1 (.slice (some ⟨g, 0, none⟩) (n + 1) cap) (n + 1) (ys ++ [u]) → w.grownBy w' v.ownBlock → (v.ownBlock = some g ∨ g = w.heap.size) → g < w'.heap.size → K (a.put o.dst (.slice (some ⟨g, 0, none⟩) (n + 1) cap)) w') :
    if Region.wanted o (yielded ops a.tmps) = true then Oper.wp Try.prog o a w K Q else E := by
  obtain ⟨i0, hi0, hz0, hz1, hz2⟩ := info_parts info_row
  refine step_append_lies w hgd s x 35 ho B 25 i0 _ 1 24 Try.underlying35 hi0 hz0 hz1 hz2 rfl (by omega) v n ys hs (own_below hown hP) ⟨q, 0, none⟩ 1 1 [u] hx rfl ?_ ?_ (by omega) (by unfold maxLen; omega) (by omega) (Nat.le_trans hB hP.size) _ rfl ?_
  · intro j z hj
    have hj0 : j = 0 := by have := (List.getElem?_eq_some_iff.1 hj).1; simpa using this
    subst hj0
    simp at hj
    subst hj
    simpa [Addr.add] using hc
  · intro z hz; rw [List.mem_singleton.1 hz]; exact h1
  · intro g cap w' h2 h3 h4 h5
    exact h g cap w' hP h2 h3 h4 h5
theorem getD_append_one {α : Type} (l : List α) (x d : α) (n : Nat) (h : l.length = n) : (l ++ [x]).getD n d = x := by
  rw [getD_lt _ _ (by simp; omega), List.getElem_append_right (by omega)]; simp
theorem own_not {W : World} {B : Nat} {e : TypeId} {s n : Nat} {v : Value} {xs : List Value} (h : W.ownsRow B e s v n xs) {b : Nat} (hb : W.heap.size ≤ b) : v.ownBlock ≠ some b := fun e => by have := (h.lt b e).2; omega
theorem Two.step {W wA w9 wB w17 : World} {B g9 cap9 g17 cap17 : Nat} {va vr u d : Value} {xs ys : List Value} {ta tr : Mat} {r s : List UInt8} (h : Two W B va vr xs ys ta tr) (hA : Below W.heap.size W wA)
    (hr : ByS wA (Fr W.heap.size wA.heap.size) u r) (hd : ByS W (Bl B) d s) (hBW : B ≤ W.heap.size)
    (own9 : w9.ownsRow B 25 1 (.slice (some ⟨g9, 0, none⟩) (ta.length + 1) cap9) (ta.length + 1) (xs ++ [u])) (hg9 : wA.grownBy w9 va.ownBlock) (hat9 : va.ownBlock = some g9 ∨ g9 = wA.heap.size) (hB : Below w9.heap.size w9 wB)
    (own17 : w17.ownsRow B 25 1 (.slice (some ⟨g17, 0, none⟩) (tr.length + 1) cap17) (tr.length + 1) (ys ++ [d])) (hg17 : wB.grownBy w17 vr.ownBlock) (hat17 : vr.ownBlock = some g17 ∨ g17 = wB.heap.size) :
    Two w17 B (.slice (some ⟨g9, 0, none⟩) (ta.length + 1) cap9) (.slice (some ⟨g17, 0, none⟩) (tr.length + 1) cap17) (xs ++ [u]) (ys ++ [d]) (ta ++ [r]) (tr ++ [s]) := by
  have hxl : xs.length = ta.length := by have := h.ownA.1; omega
  have hyl : ys.length = tr.length := by have := h.ownR.1; omega
  have hszA := hA.size
  have hsz9 := hg9.size
  have hszB := hB.size
  have hsz17 := hg17.size
  have hlt9 : g9 < w9.heap.size := (own9.lt g9 rfl).2
  have hlt17 : g17 < w17.heap.size := (own17.lt g17 rfl).2
  have hvaL := h.ownA.lt
  have hvrL := h.ownR.lt
  have h9r : vr.ownBlock ≠ some g9 := by
    rcases hat9 with e | e
    · exact h.apart g9 e
    · rw [e]; exact own_not h.ownR hszA
  have h97 : g9 ≠ g17 := by
    rcases hat17 with e | e
    · intro e2; subst e2; exact h9r e
    · omega
  -- a block that is as at W, or new and not one of the two
  have kept : ∀ b, b < wA.heap.size → va.ownBlock ≠ some b → vr.ownBlock ≠ some b → w17.heap[b]? = wA.heap[b]? := fun b hb h1 h2 =>
    ((hg17.block b (by omega) (fun e => h2 e.symm)).trans (hB.block b (by omega))).trans (hg9.block b hb (fun e => h1 e.symm))
  have nb : ∀ b, b < wA.heap.size → va.ownBlock ≠ some b → vr.ownBlock ≠ some b → Nb w17 (.slice (some ⟨g9, 0, none⟩) (ta.length + 1) cap9) (.slice (some ⟨g17, 0, none⟩) (tr.length + 1) cap17) b := fun b hb h1 h2 =>
    ⟨by omega, (fun e => by
      have e' : g9 = b := by simpa [Value.ownBlock] using e
      subst e'
      rcases hat9 with e3 | e3
      · exact h1 e3
      · omega), (fun e => by
      have e' : g17 = b := by simpa [Value.ownBlock] using e
      subst e'
      rcases hat17 with e3 | e3
      · exact h2 e3
      · omega)⟩
  have old : ∀ v l, ByS W (Nb W va vr) v l → ByS w17 (Nb w17 (.slice (some ⟨g9, 0, none⟩) (ta.length + 1) cap9) (.slice (some ⟨g17, 0, none⟩) (tr.length + 1) cap17)) v l := fun v l hv =>
    (hv.keep (w' := w17) (fun b hb => (kept b (Nat.lt_of_lt_of_le hb.1 hszA) hb.2.1 hb.2.2).trans (hA.block b hb.1))).mono (fun b hb => nb b (Nat.lt_of_lt_of_le hb.1 hszA) hb.2.1 hb.2.2)
  refine ⟨?_, ?_, ?_, ?_, ?_⟩
  · rw [List.length_append]
    refine (own_below own9 hB).kept hg17 (.inr ?_)
    show some g9 ≠ _
    exact fun e => h9r e.symm
  · rw [List.length_append]; exact own17
  · intro b hb e
    have e1 : g9 = b := by simpa [Value.ownBlock] using hb
    have e2 : g17 = b := by simpa [Value.ownBlock] using e
    omega
  · intro j hj
    rw [List.length_append] at hj
    rcases Nat.lt_or_ge j ta.length with hlt | hge
    · rw [getD_append_lt _ _ _ (by omega), getD_append_lt _ _ _ hlt]
      exact old _ _ (h.rowA j hlt)
    · have : j = ta.length := by simp at hj; omega
      subst this
      rw [getD_append_one _ _ _ _ hxl, getD_append_one _ _ _ _ rfl]
      exact (hr.keep (w' := w17) (fun b hb => kept b hb.2 (own_not h.ownA hb.1) (own_not h.ownR hb.1))).mono (fun b hb => nb b hb.2 (own_not h.ownA hb.1) (own_not h.ownR hb.1))
  · intro j hj
    rw [List.length_append] at hj
    rcases Nat.lt_or_ge j tr.length with hlt | hge
    · rw [getD_append_lt _ _ _ (by omega), getD_append_lt _ _ _ hlt]
      exact old _ _ (h.rowR j hlt)
    · have : j = tr.length := by simp at hj; omega
      subst this
      rw [getD_append_one _ _ _ _ hyl, getD_append_one _ _ _ _ rfl]
      refine old _ _ (hd.mono fun b hb => ⟨Nat.lt_of_lt_of_le hb hBW, fun e => by have := (hvaL b e).1; have : b < B := hb; omega, fun e => by have := (hvrL b e).1; have : b < B := hb; omega⟩)
theorem Below.aldd {w w2 : World} {o : Obj} (h : Below (w.alloc o).drew.heap.size (w.alloc o).drew w2) : Below w.drew.heap.size w.drew w2 := by
  have h1 := below_boxd h
  exact ⟨h1.os, h1.tape, h1.output, h1.size, h1.block⟩
theorem cell_boxd {w w2 : World} {u : Value} {t : TypeId} (h : Below (w.alloc (.cells #[u] t)).drew.heap.size (w.alloc (.cells #[u] t)).drew w2) (o : Obj) : w.heap.size < (w2.alloc o).heap.size ∧ (w2.alloc o).cell? ⟨w.heap.size, 0, none⟩ = some u := by
  have hs := h.size
  simp at hs
  refine ⟨by simp; omega, ?_⟩
  rw [World.cell?_of_block (w := w2) (a := ⟨w.heap.size, 0, none⟩) (Below.heap_alloc w2 o _ (by show w.heap.size < _; omega)), h.cell (p := ⟨w.heap.size, 0, none⟩) (by simp)]
  simp
theorem Two.drew {W : World} {B : Nat} {va vr : Value} {xs ys : List Value} {ta tr : Mat} (h : Two W B va vr xs ys ta tr) : Two W.drew B va vr xs ys ta tr :=
  ⟨h.ownA, h.ownR, h.apart, fun j hj => (h.rowA j hj).keep (w' := W.drew) (fun _ _ => rfl), fun j hj => (h.rowR j hj).keep (w' := W.drew) (fun _ _ => rfl)⟩
theorem Two.ownR9 {W wA w9 : World} {B : Nat} {va vr : Value} {xs ys : List Value} {ta tr : Mat} (h : Two W B va vr xs ys ta tr) (hA : Below W.heap.size W wA) (hg : wA.grownBy w9 va.ownBlock) : w9.ownsRow B 25 1 vr tr.length ys := by
  refine (own_below h.ownR hA).kept hg ?_
  cases hv : va.ownBlock with
  | none => cases hr : vr.ownBlock with
    | none => exact .inl rfl
    | some b => exact .inr (by simp)
  | some b => exact .inr (h.apart b hv)
theorem Two.base {W : World} {B B' : Nat} {va vr : Value} {xs ys : List Value} {ta tr : Mat} (h : Two W B va vr xs ys ta tr) (hB : B' ≤ B) : Two W B' va vr xs ys ta tr := ⟨own_base h.ownA hB, own_base h.ownR hB, h.apart, h.rowA, h.rowR⟩
theorem Two.ownMA {W : World} {B : Nat} {va vr : Value} {xs ys : List Value} {ta tr : Mat} (h : Two W B va vr xs ys ta tr) : OwnM W B va ta := ⟨xs, h.ownA, fun j hj => (h.rowA j hj).mono (fun b hb => ⟨hb.1, hb.2.1⟩)⟩
theorem Two.ownMR {W : World} {B : Nat} {va vr : Value} {xs ys : List Value} {ta tr : Mat} (h : Two W B va vr xs ys ta tr) : OwnM W B vr tr := ⟨ys, h.ownR, fun j hj => (h.rowR j hj).mono (fun b hb => ⟨hb.1, hb.2.2⟩)⟩
end Go.Proofs.Ytkpfndhocgmgjaa
