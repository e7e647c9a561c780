/- Fragments that a call collects. -/
import Derived.Test.YtkpfndhocgmgjaaGE1
namespace Go.Proofs.Ytkpfndhocgmgjaa
open Go.RowKit
set_option linter.unusedVariables false
set_option linter.unusedSimpArgs false
theorem info_frag : (Try.prog.info? 27).map (fun i => (i.zero, i.size, i.bytes)) = some (some (.agg #[.int .i64 0, .slice none 0 0]), 2, 32) := by kernel_rfl
theorem app_frag {ops : Array Oper} {rest : List Oper} {o : Oper} {a : Act} {Q : Exit → Act → World → Prop} {w : World} {x0 x1 : Value} (s x : Operand) (hgd : o.guard = none) (ho : o.op = .call { callee := .builtin .append, args := #[s, x], argTypes := #[22, 22] })
    (base : Nat) (v : Value) (n : Nat) (xs : List Value) (hs : a.eval s = v) (hown : w.ownsRow base 27 2 v n xs)
    (hx : a.eval x = .slice (some ⟨w.heap.size, 0, none⟩) 1 1) (h1 : x0.oneCell' = true) (h2 : x1.oneCell' = true) (hn : n + 1 ≤ 16777216) (hbase : base ≤ w.heap.size)
    (h : ∀ v' w', w'.ownsRow base 27 2 v' (n + 1) (xs ++ [x0, x1]) → w.grownBy w' v.ownBlock → (v'.ownBlock = v.ownBlock ∨ v'.ownBlock = some (w.heap.size + 1)) → wpList Try.prog ops Q rest (a.put o.dst v') w') :
    wpList Try.prog ops Q (o :: rest) a (w.alloc (.cells #[x0, x1] 27)) := by
  obtain ⟨i0, hi0, hz0, hz1, hz2⟩ := info_parts info_frag
  exact wpList_append1 hgd s x _ ho base i0 _ 2 32 Try.underlying22 hi0 hz0 hz1 hz2 rfl (by omega) (by omega) v n xs hs hown hx rfl (by simp [h1, h2]) hn hbase h
/-- What the cells of collected fragments hold. -/
def FgC (w : World) (v : Value) (hs : List Frg) (cs : List Value) : Prop :=
  ∀ k h, hs[k]? = some h → ∃ va, cs[k * 2]? = some (.int .i64 h.idx) ∧ cs[k * 2 + 1]? = some va ∧ ByS w (fun b => b < w.heap.size ∧ v.ownBlock ≠ some b) va h.data
/-- A []Fragment that the call has built. -/
def OwnFg (w : World) (base : Nat) (v : Value) (hs : List Frg) : Prop :=
  (∃ cs, w.ownsRow base 27 2 v hs.length cs ∧ FgC w v hs cs) ∧ ∀ h ∈ hs, I64 h.idx
theorem OwnFg.nil (w : World) (base : Nat) : OwnFg w base (.slice none 0 0) [] := ⟨⟨[], World.ownsRow_nil _ _ _ _, fun k r h => by simp at h⟩, fun r h => by cases h⟩
theorem OwnFg.form {w : World} {base : Nat} {v : Value} {hs : List Frg} (h : OwnFg w base v hs) : ∃ A c, v = .slice A hs.length c := by
  obtain ⟨⟨cs, ho, -⟩, -⟩ := h
  exact own_form ho
theorem OwnFg.base {w : World} {base b2 : Nat} {v : Value} {hs : List Frg} (h : OwnFg w base v hs) (hb : b2 ≤ base) : OwnFg w b2 v hs := by
  obtain ⟨⟨cs, ho, hc⟩, hk⟩ := h
  exact ⟨⟨cs, own_base ho hb, hc⟩, hk⟩
theorem OwnFg.below {w w2 : World} {base : Nat} {v : Value} {hs : List Frg} (h : OwnFg w base v hs) (hb : Below w.heap.size w w2) : OwnFg w2 base v hs := by
  obtain ⟨⟨cs, ho, hc⟩, hk⟩ := h
  refine ⟨⟨cs, own_below ho hb, fun k r hr => ?_⟩, hk⟩
  obtain ⟨va, h1, h2, h3⟩ := hc k r hr
  exact ⟨va, h1, h2, (h3.keep (fun b hbb => hb.block b hbb.1)).mono (fun b hbb => ⟨Nat.lt_of_lt_of_le hbb.1 hb.size, hbb.2⟩)⟩
theorem OwnFg.fragS {w : World} {base : Nat} {v : Value} {hs : List Frg} (h : OwnFg w base v hs) : FragS w (Bl w.heap.size) v hs := by
  obtain ⟨⟨cs, ho, hc⟩, hk⟩ := h
  refine ⟨?_, hk⟩
  have hcell := fun g => ho.cells (g := g)
  have hlt := ho.lt
  rcases ho.2 with ⟨rfl, h0⟩ | ⟨g, cap, cur, rfl, _, _, h2, h3, _⟩
  · rw [h0]; exact Row.nil _ _ _
  · refine ⟨_, cap, rfl, h2, Nat.le_trans h2 h3, fun _ => ⟨g, 0, rfl, (hlt g rfl).2, fun k r hr => ?_⟩⟩
    obtain ⟨va, h1, h2', h3'⟩ := hc k r hr
    have e : ∀ j, (⟨g, 0, none⟩ : Addr).add j = ⟨g, 0 + j, none⟩ := fun j => by unfold Addr.add; split <;> simp_all
    refine ⟨va, ?_, ?_, h3'.mono (fun b hb => hb.1)⟩
    · rw [← e]; exact hcell g rfl _ _ h1
    · rw [Nat.add_assoc, ← e]; exact hcell g rfl _ _ h2'
theorem OwnFg.push {w w' : World} {base : Nat} {v v' va : Value} {hs : List Frg} {cs : List Value} {h : Frg} (hk : ∀ h ∈ hs, I64 h.idx)
    (hc : FgC w v hs cs) (ho : w.ownsRow base 27 2 v hs.length cs) (hr : I64 h.idx) (ha : ByS w (fun b => b < w.heap.size ∧ v.ownBlock ≠ some b) va h.data)
    (ho' : w'.ownsRow base 27 2 v' (hs.length + 1) (cs ++ [.int .i64 h.idx, va])) (hg : w.grownBy w' v.ownBlock) (hat : v'.ownBlock = v.ownBlock ∨ v'.ownBlock = some (w.heap.size + 1)) : OwnFg w' base v' (hs ++ [h]) := by
  have hR : ∀ b, (b < w.heap.size ∧ v.ownBlock ≠ some b) → (b < w'.heap.size ∧ v'.ownBlock ≠ some b) := fun b hb => ⟨Nat.lt_of_lt_of_le hb.1 hg.size, by
    rcases hat with e | e
    · rw [e]; exact hb.2
    · rw [e]; intro e2; injection e2 with e2; have := hb.1; omega⟩
  have hkp : Kept (fun b => b < w.heap.size ∧ v.ownBlock ≠ some b) w w' := fun b hb => hg.block b hb.1 (fun e => hb.2 e.symm)
  have hl : cs.length = hs.length * 2 := ho.1
  refine ⟨⟨_, by rw [List.length_append]; exact ho', fun k x hx => ?_⟩, fun x hx => ?_⟩
  · rcases Nat.lt_or_ge k hs.length with hlt | hge
    · rw [List.getElem?_append_left hlt] at hx
      obtain ⟨vb, h1, h2, h3⟩ := hc k x hx
      exact ⟨vb, by rw [List.getElem?_append_left (by omega)]; exact h1, by rw [List.getElem?_append_left (by omega)]; exact h2, (h3.keep hkp).mono hR⟩
    · rw [List.getElem?_append_right hge] at hx
      have hk0 : k - hs.length = 0 := by
        rcases Nat.eq_zero_or_pos (k - hs.length) with h0 | h0
        · exact h0
        · rw [List.getElem?_eq_none (by simp; omega)] at hx; cases hx
      rw [hk0] at hx
      simp at hx
      subst hx
      have hke : k = hs.length := by omega
      subst hke
      exact ⟨va, by rw [List.getElem?_append_right (by omega), hl]; simp, by rw [List.getElem?_append_right (by omega), hl]; simp, (ha.keep hkp).mono hR⟩
  · rcases List.mem_append.1 hx with h | h
    · exact hk x h
    · rw [List.mem_singleton.1 h]; exact hr
/-- Fragments of a word: numbers from a on, c of them. -/
def fragsT (T : Mat) (a c : Nat) : List Frg := (List.range c).map fun i => ⟨((a + i : Nat) : Int), T.getD (a + i) []⟩
theorem fragsT_succ (T : Mat) (a c : Nat) : fragsT T a (c + 1) = fragsT T a c ++ [⟨((a + c : Nat) : Int), T.getD (a + c) []⟩] := by simp [fragsT, List.range_succ]
theorem fragsT_length (T : Mat) (a c : Nat) : (fragsT T a c).length = c := by simp [fragsT]
theorem fragsT_getElem (T : Mat) (a c i : Nat) (h : i < (fragsT T a c).length) : (fragsT T a c)[i] = ⟨((a + i : Nat) : Int), T.getD (a + i) []⟩ := by simp [fragsT]
/-- What Complete answers: its error .. -/
def comE (k m1 m2 : Int) (hs : List Frg) : Int := if codeB k m1 = false ∨ codeB k m2 = false ∨ m2 < m1 then 1 else decE k m1 hs
/-- .. the data that it reads .. -/
def comD (k m1 : Nat) (hs : List Frg) : Mat := (wordT k (k + m1) (decD k hs) (rowLen hs)).take k
/-- .. and the new fragments. -/
def comH (k m1 m2 : Nat) (hs : List Frg) : List Frg := fragsT (wordT k (k + m2) (comD k m1 hs) (rowLen hs)) (k + m1) (m2 - m1)
end Go.Proofs.Ytkpfndhocgmgjaa
