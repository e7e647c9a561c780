/- Two collections of fragments, one behind the other. -/
import Derived.Laws.AppendOwnNone
import Derived.Test.YtkpfndhocgmgjaaGE6
namespace Go.Proofs.Ytkpfndhocgmgjaa
open Go.RowKit
set_option linter.unusedVariables false
set_option linter.unusedSimpArgs false
theorem app_frags {ops : Array Oper} {rest : List Oper} {o : Oper} {a : Act} {Q : Exit → Act → World → Prop} {w : World} (s x : Operand) (hgd : o.guard = none) (ho : o.op = .call { callee := .builtin .append, args := #[s, x], argTypes := #[22, 22] })
    (base base2 : Nat) (v v2 : Value) (n m : Nat) (cs cs2 : List Value) (hs : a.eval s = v) (hown : w.ownsRow base 27 2 v n cs)
    (hx : a.eval x = v2) (hown2 : w.ownsRow base2 27 2 v2 m cs2) (h1 : ∀ u ∈ cs2, u.oneCell' = true) (hn : n + m ≤ 65536) (hbase : base ≤ w.heap.size)
    (h : ∀ v' w', w'.ownsRow base 27 2 v' (n + m) (cs ++ cs2) → w.grownBy w' v.ownBlock → (v'.ownBlock = v.ownBlock ∨ v'.ownBlock = some w.heap.size) → wpList Try.prog ops Q rest (a.put o.dst v') w') :
    wpList Try.prog ops Q (o :: rest) a w := by
  obtain ⟨i0, hi0, hz0, hz1, hz2⟩ := info_parts info_frag
  have hcells := fun g => hown2.cells (g := g)
  have hl2 := hown2.1
  rcases hown2.2 with ⟨rfl, rfl⟩ | ⟨g, cap, cur, rfl, -, -, -, -⟩
  · have e : cs2 = [] := List.eq_nil_of_length_eq_zero (by omega)
    subst e
    refine wpList_append_own_none hgd s x _ ho base _ i0 2 Try.underlying22 hi0 v n cs hs hown hx (h v w ?_ ⟨rfl, rfl, rfl, Nat.le_refl _, fun _ _ _ => rfl⟩ (.inl rfl))
    rw [Nat.add_zero, List.append_nil]; exact hown
  · exact wpList_append_own_at (P := Try.prog) _ hgd s x _ ho base _ i0 _ 2 32 Try.underlying22 hi0 hz0 hz1 hz2 rfl (by omega) v n cs hs hown ⟨g, 0, none⟩ m cap cs2 hx hl2 (hcells g rfl) h1 (by unfold maxLen; omega) (by omega) hbase (fun v' w' a b _ d => h v' w' a b d)
theorem fgC_app {w w' : World} {base : Nat} {hs hs2 : List Frg} {cs cs2 : List Value} {v v' v2 : Value} {n : Nat} {xs : List Value} (h1 : FgC w v hs cs) (h2 : FgC w v2 hs2 cs2) (hl : cs.length = hs.length * 2) (hb : Below w.heap.size w w')
    (ho : w'.ownsRow base 27 2 v' n xs) (hB : w.heap.size ≤ base) : FgC w' v' (hs ++ hs2) (cs ++ cs2) := by
  have hk : ∀ (u : Value) va (l : List UInt8), ByS w (fun b => b < w.heap.size ∧ u.ownBlock ≠ some b) va l → ByS w' (fun b => b < w'.heap.size ∧ v'.ownBlock ≠ some b) va l :=
    fun u va l h => (h.keep (fun b hbb => hb.block b hbb.1)).mono (fun b hbb => ⟨Nat.lt_of_lt_of_le hbb.1 hb.size, fun e => by have := (ho.lt b e).1; have := hbb.1; omega⟩)
  intro k h hh
  rcases Nat.lt_or_ge k hs.length with hlt | hge
  · rw [List.getElem?_append_left hlt] at hh
    obtain ⟨va, c0, c1, hv⟩ := h1 k h hh
    exact ⟨va, by rw [List.getElem?_append_left (by omega)]; exact c0, by rw [List.getElem?_append_left (by omega)]; exact c1, hk _ _ _ hv⟩
  · rw [List.getElem?_append_right hge] at hh
    obtain ⟨va, c0, c1, hv⟩ := h2 _ h hh
    have e1 : k * 2 - cs.length = (k - hs.length) * 2 := by omega
    have e2 : k * 2 + 1 - cs.length = (k - hs.length) * 2 + 1 := by omega
    exact ⟨va, by rw [List.getElem?_append_right (by omega), e1]; exact c0, by rw [List.getElem?_append_right (by omega), e2]; exact c1, hk _ _ _ hv⟩
end Go.Proofs.Ytkpfndhocgmgjaa
