/- Slices of any elements, opened. -/
import Derived.Test.YtffamkodckghgaaOpen
namespace Go.Proofs.Ytffamkodckghgaa
open Go.RowKit Go.ChangeShapes Go.WideShapes Go.ChangeAt Go.Deep Go.Joins
set_option linter.unusedVariables false
set_option linter.unusedSimpArgs false
/-- From offset off of block b on lie the elements as, each of size cells; K says which cells an element has. -/
def RowsAt {α : Type} (w : World) (size : Nat) (K : List Value → α → Prop) (as : List α) (b off : Nat) : Prop :=
  ∀ k a, as[k]? = some a → ∃ cs, cs.length = size ∧ (∀ i v, cs[i]? = some v → w.cell? ⟨b, off + k * size + i, none⟩ = some v) ∧ K cs a
section
variable {H : Type} {enc : TypeId × Value → H} {P : Program} {W : World}
theorem open_rows {α : Type} {t te : TypeId} {size fuel : Nat} {v : Value} {x : DataW H × List MemPlace} (K : List Value → α → Prop) (ht : P.underlying t = some (.slice te)) (hC : P.cellsOf te = size) (h0 : 0 < size)
    (hel : ∀ n cs y, DataW.trod enc P W 0 (fun _ => true) true n te cs = some y → cs.length = size → ∃ a, K cs a)
    (h : DataW.trod enc P W 0 (fun _ => true) true fuel t [v] = some x) : ∃ as, Row (Bl W.heap.size) v as.length (RowsAt W size K as) ∧ ∀ a ∈ as, ∃ cs, K cs a := by
  rcases open_slice ht h with ⟨hcs1, _⟩ | ⟨a, len, cap, m, n, D, Pl, hcs1, hb, hl, hm, hmm, _, hi⟩
  · simp at hcs1; subst hcs1
    exact ⟨[], Row.nil _ _ _, fun a ha => by cases ha⟩
  · simp at hcs1; subst hcs1
    have hlm : len ≤ m := by rw [hmm]; split <;> omega
    have key : ∀ i, i < m → ∃ (e : α) (cs : List Value), cs.length = size ∧ (∀ j u, cs[j]? = some u → W.cell? (a.add (i * size + j)) = some u) ∧ K cs e := by
      intro i him
      obtain ⟨cs', hcell, ht'⟩ := hi i him
      rw [hC] at hcell
      obtain ⟨_, hl2, hat⟩ := World.cells?_some hcell
      obtain ⟨e, he⟩ := hel _ _ _ ht' hl2
      refine ⟨e, cs', hl2, fun j u hu => ?_, he⟩
      have hj : j < cs'.length := (List.getElem?_eq_some_iff.1 hu).1
      have g := hat j (by omega)
      have e2 : (a.add (i * size)).add j = a.add (i * size + j) := by
        unfold Addr.add
        by_cases hi0 : i * size = 0 <;> by_cases hj0 : j = 0 <;> simp [hi0, hj0, Nat.add_assoc]
      rw [e2] at g
      rw [g]
      exact hu
    have hex : ∃ as : List α, as.length = len ∧ ∀ k e, as[k]? = some e → ∃ cs : List Value, cs.length = size ∧ (∀ j u, cs[j]? = some u → W.cell? (a.add (k * size + j)) = some u) ∧ K cs e := by
      have : ∀ q, q ≤ len → ∃ as : List α, as.length = q ∧ ∀ k e, as[k]? = some e → ∃ cs : List Value, cs.length = size ∧ (∀ j u, cs[j]? = some u → W.cell? (a.add (k * size + j)) = some u) ∧ K cs e := by
        intro q
        induction q with
        | zero => intro _; exact ⟨[], rfl, fun k e he => by simp at he⟩
        | succ q ih =>
          intro hq
          obtain ⟨as, h1, h2⟩ := ih (by omega)
          obtain ⟨e, cs, h3⟩ := key q (by omega)
          refine ⟨as ++ [e], by simp [h1], fun k e' he' => ?_⟩
          rcases Nat.lt_or_ge k as.length with hk | hk
          · rw [List.getElem?_append_left hk] at he'
            exact h2 k e' he'
          · rw [List.getElem?_append_right hk] at he'
            have : k - as.length = 0 := by
              rcases Nat.eq_zero_or_pos (k - as.length) with h0 | h0
              · exact h0
              · rw [List.getElem?_eq_none (by simp; omega)] at he'; cases he'
            rw [this] at he'
            simp at he'
            subst he'
            have hkq : k = q := by omega
            subst hkq
            exact ⟨cs, h3⟩
      exact this len (Nat.le_refl _)
    obtain ⟨as, hal, has⟩ := hex
    refine ⟨as, ⟨some a, cap, by rw [hal], by rw [hal]; exact hl, by rw [hal]; omega, fun hn => ?_⟩, fun e he => ?_⟩
    · rw [hal] at hn
      obtain ⟨b, off, spot⟩ := a
      obtain ⟨cs0, hc0, hc1, -⟩ := has 0 as[0] (List.getElem?_eq_getElem (by omega))
      have g0 := hc1 0 cs0[0] (List.getElem?_eq_getElem (by omega))
      have hspot : spot = none := by simpa [Addr.add] using World.cell?_spot g0
      subst hspot
      have hbb := block_lt_of_cell g0
      refine ⟨b, off, rfl, by simpa [Addr.add, Bl] using hbb, fun k e hk => ?_⟩
      obtain ⟨cs, q1, q2, q3⟩ := has k e hk
      refine ⟨cs, q1, fun i u hu => ?_, q3⟩
      have := q2 i u hu
      rw [← this]
      unfold Addr.add; split <;> simp_all [Nat.add_assoc]
    · obtain ⟨k, hk, rfl⟩ := List.getElem_of_mem he
      obtain ⟨cs, _, _, q3⟩ := has k _ (List.getElem?_eq_getElem hk)
      exact ⟨cs, q3⟩
end
end Go.Proofs.Ytffamkodckghgaa
