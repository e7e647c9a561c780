/- A fragment is taken out of an own row, in place. -/
import Derived.Deep.RegionLaw
import Derived.Test.YtkpfndhocgmgjaaGE4
namespace Go.Proofs.Ytkpfndhocgmgjaa
open Go.RowKit
set_option linter.unusedVariables false
set_option linter.unusedSimpArgs false
theorem heap_setCells (g : Nat) (e : TypeId) : ∀ (vs : List Value) (o : Nat) (w : World) (pre suf : List Value) (old : List Value), pre.length = o → old.length = vs.length → w.heap[g]? = some (.cells (pre ++ old ++ suf).toArray e (0, 0)) →
    (w.setCells g o vs).heap[g]? = some (.cells (pre ++ vs ++ suf).toArray e (0, 0))
  | [], o, w, pre, suf, old, hp, ho, h => by
    obtain rfl := List.eq_nil_of_length_eq_zero ho
    exact h
  | v :: r, o, w, pre, suf, [], hp, ho, h => by simp at ho
  | v :: r, o, w, pre, suf, u :: old, hp, ho, h => by
    have h1 := heap_setCell_same w g o _ e v h
    have h2 : (pre ++ (u :: old) ++ suf).toArray.setIfInBounds o v = ((pre ++ [v]) ++ old ++ suf).toArray := by
      rw [List.setIfInBounds_toArray]
      congr 1
      subst hp
      simp
    rw [h2] at h1
    have h3 := heap_setCells g e r (o + 1) _ (pre ++ [v]) suf old (by simp [hp]) (by simpa using ho) h1
    rw [World.setCells, h3]
    simp
theorem grown_setCells {a : World} {g : Nat} : ∀ (vs : List Value) (o : Nat) (w : World), a.grownBy w (some g) → a.grownBy (w.setCells g o vs) (some g)
  | [], _, _, h => h
  | v :: r, o, w, h => grown_setCells r (o + 1) _ (only_set2 h o v)
theorem own_delete {w : World} {base : Nat} {e : TypeId} {g n c x : Nat} {cs : List Value} (h : w.ownsRow base e 2 (.slice (some ⟨g, 0, none⟩) n c) n cs) (hx : x < n) :
    (w.setCells g (x * 2) (cs.drop ((x + 1) * 2))).ownsRow base e 2 (.slice (some ⟨g, 0, none⟩) (n - 1) c) (n - 1) (cs.take (x * 2) ++ cs.drop ((x + 1) * 2)) ∧ w.grownBy (w.setCells g (x * 2) (cs.drop ((x + 1) * 2))) (some g) := by
  have hl := h.1
  refine ⟨⟨by rw [List.length_append, List.length_take, List.length_drop]; omega, ?_⟩, ?_⟩
  · rcases h.2 with ⟨h1, -⟩ | ⟨g', cap, cur, h1, hb, hh, hn, hm, hs, ht⟩
    · cases h1
    · injection h1 with h1 h1' h1''
      injection h1 with h1
      injection h1 with h1 _ _
      subst h1; subst h1''
      have hcl : cur.toList.length = c * 2 := by rw [Array.length_toList, hs]
      have hcur : cur.toList = cs ++ cur.toList.drop (n * 2) := by rw [← ht, List.take_append_drop]
      have hold : ((cs.drop (x * 2)).take (cs.drop ((x + 1) * 2)).length).length = (cs.drop ((x + 1) * 2)).length := by
        rw [List.length_take, List.length_drop, List.length_drop]; omega
      have hsplit : cs.take (x * 2) ++ (cs.drop (x * 2)).take (cs.drop ((x + 1) * 2)).length ++ ((cs.drop (x * 2)).drop (cs.drop ((x + 1) * 2)).length ++ cur.toList.drop (n * 2)) = cur.toList := by
        rw [← List.append_assoc, List.append_assoc (cs.take (x * 2)), List.take_append_drop, List.take_append_drop, ← hcur]
      have hres := heap_setCells g e (cs.drop ((x + 1) * 2)) (x * 2) w (cs.take (x * 2)) _ _ (by rw [List.length_take]; omega) hold (by rw [hsplit]; exact hh)
      refine .inr ⟨g, c, _, rfl, hb, hres, by omega, hm, ?_, ?_⟩
      · have hdl : (cur.toList.drop (n * 2)).length = c * 2 - n * 2 := by rw [List.length_drop, hcl]
        simp only [List.size_toArray, List.length_append, List.length_take, List.length_drop, hcl]
        omega
      · show List.take _ (_ ++ _ ++ _) = _
        rw [List.take_append_of_le_length (by rw [List.length_append, List.length_take, List.length_drop]; omega), List.take_of_length_le (by rw [List.length_append, List.length_take, List.length_drop]; omega)]
  · exact grown_setCells _ _ _ (only_refl2 w g)
/-- 'append(xs[:x], xs[x+1:]...)' on an own row, in a region that draws. -/
theorem step_del {ops : Array Oper} {o : Oper} {a : Act} {w : World} {K : Act → World → Prop} {Q : Exit → Act → World → Prop} {E : Prop}
    (hg : o.guard = none) (s x : Operand) (hop : o.op = Op.call { callee := Callee.builtin Builtin.append, args := #[s, x], argTypes := #[22, 22] })
    (base g n c i : Nat) (cs : List Value) (ad : Addr) (m c2 : Nat) (hown : w.ownsRow base 27 2 (.slice (some ⟨g, 0, none⟩) n c) n cs) (hi : i < n) (h1c : ∀ u ∈ cs, u.oneCell' = true)
    (hs : a.eval s = .slice (some ⟨g, 0, none⟩) i c) (hx : a.eval x = .slice (some ad) m c2) (hm : m = n - (i + 1)) (had : i + 1 < n → ad = ⟨g, (i + 1) * 2, none⟩)
    (hK : K (a.put o.dst (.slice (some ⟨g, 0, none⟩) (n - 1) c)) (w.setCells g (i * 2) (cs.drop ((i + 1) * 2)))) :
    if Region.wanted o (yielded ops a.tmps) = true then Oper.wp Try.prog o a w K Q else E := by
  obtain ⟨i0, hi0, hz0, hz1, hz2⟩ := info_parts info_frag
  have hl := hown.1
  have hnc : n ≤ c ∧ ∀ k u, cs[k]? = some u → w.cell? ⟨g, k, none⟩ = some u ∧ w.frozen? ⟨g, k, none⟩ = false := by
    rcases hown.2 with ⟨h1, -⟩ | ⟨g', cap, cur, h1, hb, hh, hn, hmx, hsz, ht⟩
    · cases h1
    · injection h1 with h1 h1' h1''
      injection h1 with h1
      injection h1 with h1 _ _
      subst h1; subst h1''
      refine ⟨hn, fun k u hk => ⟨?_, frozen_of_row w g k _ _ hh⟩⟩
      have hkl := (List.getElem?_eq_some_iff.1 hk).1
      rw [cell_of_row w g k _ _ _ hh, ← hk, ← ht, List.getElem?_take_of_lt (by omega), Array.getElem?_toList]
  have hdl : (cs.drop ((i + 1) * 2)).length = m * 2 := by rw [List.length_drop, hm]; omega
  refine step_append_room hg s x _ hop _ i0 2 Try.underlying22 hi0 hz1 g 0 i c hs ad m c2 (cs.drop ((i + 1) * 2)) hx hdl ?_ (fun u hu => h1c u (List.mem_of_mem_drop hu)) (by omega) ?_ ?_
  · intro j u hj
    have hjl := (List.getElem?_eq_some_iff.1 hj).1
    rw [hdl] at hjl
    rw [had (by omega), Addr.add_lit]
    rw [List.getElem?_drop] at hj
    exact (hnc.2 _ _ hj).1
  · intro j hj
    rw [hdl] at hj
    obtain ⟨u, hu⟩ : ∃ u, cs[i * 2 + j]? = some u := ⟨_, List.getElem?_eq_getElem (by omega)⟩
    have h := hnc.2 _ _ hu
    rw [Nat.zero_add]
    exact ⟨by rw [h.1]; rfl, h.2⟩
  · have e1 : i + m = n - 1 := by omega
    rw [e1, Nat.zero_add]
    exact hK
end Go.Proofs.Ytkpfndhocgmgjaa
