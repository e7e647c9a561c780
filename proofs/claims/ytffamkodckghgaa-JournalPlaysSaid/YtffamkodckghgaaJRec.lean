/- Slices of records that read as lists. -/
import Derived.Test.YtffamkodckghgaaBase
import Derived.Test.YtffamkodckghgaaJMath
namespace Go.Proofs.Ytffamkodckghgaa
open Go.RowKit
set_option linter.unusedVariables false
set_option linter.unusedSimpArgs false
def RecAt (w : World) (R : Nat → Prop) (rs : List Rec) (b off : Nat) : Prop :=
  ∀ k r, rs[k]? = some r → ∃ va, w.cell? ⟨b, off + k * 2, none⟩ = some (.int .i64 r.kind) ∧ w.cell? ⟨b, off + k * 2 + 1, none⟩ = some va ∧ IntS w R va r.args
def RecS (w : World) (R : Nat → Prop) (v : Value) (rs : List Rec) : Prop := Row R v rs.length (RecAt w R rs) ∧ ∀ r ∈ rs, I64 r.kind
theorem RecS.keep {w w' : World} {R : Nat → Prop} {v : Value} {rs : List Rec} (h : RecS w R v rs) (hk : Kept R w w') : RecS w' R v rs :=
  ⟨h.1.imp (fun _ hb => hb) fun b off hb hc k r hr => by
    obtain ⟨va, h1, h2, h3⟩ := hc k r hr
    exact ⟨va, (hk.cell hb).trans h1, (hk.cell hb).trans h2, h3.keep hk⟩, h.2⟩
theorem RecS.mono {w : World} {R R' : Nat → Prop} {v : Value} {rs : List Rec} (h : RecS w R v rs) (hr : ∀ b, R b → R' b) : RecS w R' v rs :=
  ⟨h.1.imp hr fun b off _ hc k r hk => by
    obtain ⟨va, h1, h2, h3⟩ := hc k r hk
    exact ⟨va, h1, h2, h3.mono hr⟩, h.2⟩
theorem RecS.nil (w : World) (R : Nat → Prop) (c : Nat) : RecS w R (.slice none 0 c) [] := ⟨Row.nil _ _ _, fun _ h => by cases h⟩
/-- Element k, where there is one. -/
theorem RecS.at_ {w : World} {R : Nat → Prop} {A : Option Addr} {n c : Nat} {rs : List Rec} (h : RecS w R (.slice A n c) rs) {k : Nat} (hk : k < rs.length) :
    ∃ b off va, A = some ⟨b, off, none⟩ ∧ R b ∧ w.cell? ⟨b, off + k * 2, none⟩ = some (.int .i64 rs[k].kind) ∧ w.cell? ⟨b, off + k * 2 + 1, none⟩ = some va ∧ IntS w R va rs[k].args ∧ I64 rs[k].kind := by
  obtain ⟨⟨A', c', e, _, _, h3⟩, h4⟩ := h
  obtain ⟨b, off, e2, hb, hc⟩ := h3 (by omega)
  obtain ⟨va, g1, g2, g3⟩ := hc k rs[k] (List.getElem?_eq_getElem hk)
  injection e with e
  exact ⟨b, off, va, e.trans e2, hb, g1, g2, g3, h4 _ (List.getElem_mem hk)⟩
theorem RecS.form {w : World} {R : Nat → Prop} {v : Value} {rs : List Rec} (h : RecS w R v rs) : ∃ A c, v = .slice A rs.length c ∧ rs.length ≤ c ∧ rs.length ≤ maxLen := by
  obtain ⟨⟨A', c', e, h1, h2, h3⟩, h4⟩ := h
  exact ⟨A', c', e, h1, h2⟩
theorem IntS.form {w : World} {R : Nat → Prop} {v : Value} {xs : List Int} (h : IntS w R v xs) : ∃ A c, v = .slice A xs.length c ∧ xs.length ≤ c ∧ xs.length ≤ maxLen := by
  obtain ⟨⟨A', c', e, h1, h2, h3⟩, h4⟩ := h
  exact ⟨A', c', e, h1, h2⟩
theorem IntS.at_ {w : World} {R : Nat → Prop} {A : Option Addr} {n c : Nat} {xs : List Int} (h : IntS w R (.slice A n c) xs) {k : Nat} (hk : k < xs.length) :
    ∃ b off, A = some ⟨b, off, none⟩ ∧ R b ∧ w.cell? ⟨b, off + k, none⟩ = some (.int .i64 xs[k]) ∧ I64 xs[k] := by
  obtain ⟨⟨A', c', e, _, _, h3⟩, h4⟩ := h
  obtain ⟨b, off, e2, hb, hc⟩ := h3 (by omega)
  injection e with e
  exact ⟨b, off, e.trans e2, hb, hc k _ (List.getElem?_eq_getElem hk), h4 _ (List.getElem_mem hk)⟩
theorem RecS.takeS {w : World} {R : Nat → Prop} {A : Option Addr} {n c k : Nat} {rs : List Rec} (h : RecS w R (.slice A n c) rs) (hk : k ≤ rs.length) : RecS w R (.slice A k c) (rs.take k) := by
  obtain ⟨⟨A', c', e, h1, h2, h3⟩, h4⟩ := h
  injection e with e1 e2 e3
  subst e1 e3
  have hl : (rs.take k).length = k := by rw [List.length_take]; omega
  refine ⟨⟨_, _, by rw [hl], by rw [hl]; omega, by rw [hl]; omega, fun hn => ?_⟩, fun r hr => h4 r (List.mem_of_mem_take hr)⟩
  obtain ⟨b, off, e2, hb, hc⟩ := h3 (by omega)
  refine ⟨b, off, e2, hb, fun j r hr => hc j r ?_⟩
  have hj : j < (rs.take k).length := (List.getElem?_eq_some_iff.1 hr).1
  rw [hl] at hj
  rwa [List.getElem?_take_of_lt hj] at hr
/-- A slice of records that the call itself has built. -/
def OwnRecs (w : World) (base : Nat) (t : TypeId) (v : Value) (rs : List Rec) : Prop :=
  (∃ cs, w.ownsRow base t 2 v rs.length cs ∧ ∀ k r, rs[k]? = some r → ∃ va, cs[k * 2]? = some (.int .i64 r.kind) ∧ cs[k * 2 + 1]? = some va ∧ IntS w (fun b => b < w.heap.size ∧ v.ownBlock ≠ some b) va r.args) ∧ ∀ r ∈ rs, I64 r.kind
theorem OwnRecs.nil (w : World) (base : Nat) (t : TypeId) : OwnRecs w base t (.slice none 0 0) [] := ⟨⟨[], World.ownsRow_nil _ _ _ _, fun k r h => by simp at h⟩, fun r h => by cases h⟩
theorem OwnRecs.below {w w2 : World} {base : Nat} {t : TypeId} {v : Value} {rs : List Rec} (h : OwnRecs w base t v rs) (hb : Below w.heap.size w w2) : OwnRecs w2 base t v rs := by
  obtain ⟨⟨cs, ho, hc⟩, hk⟩ := h
  refine ⟨⟨cs, ?_, fun k r hr => ?_⟩, hk⟩
  · refine ho.kept (w' := w2) (row := none) ⟨hb.os, hb.tape, hb.output, hb.size, fun i hi _ => hb.block i hi⟩ ?_
    cases hv : v.ownBlock with
    | none => exact .inl rfl
    | some g => exact .inr (by simp)
  · obtain ⟨va, h1, h2, h3⟩ := hc k r hr
    exact ⟨va, h1, h2, (h3.keep (fun b hbb => hb.block b hbb.1)).mono (fun b hbb => ⟨Nat.lt_of_lt_of_le hbb.1 hb.size, hbb.2⟩)⟩
theorem OwnRecs.recS {w : World} {base : Nat} {t : TypeId} {v : Value} {rs : List Rec} (h : OwnRecs w base t v rs) : RecS w (Bl w.heap.size) v rs := by
  obtain ⟨⟨cs, ho, hc⟩, hk⟩ := h
  refine ⟨?_, hk⟩
  have hcell := fun g => ho.cells (g := g)
  have hlt := ho.lt
  rcases ho.2 with ⟨rfl, h0⟩ | ⟨g, cap, cur, rfl, _, _, h2, h3, _⟩
  · rw [h0]; exact Row.nil _ _ _
  · refine ⟨_, cap, rfl, h2, Nat.le_trans h2 h3, fun _ => ⟨g, 0, rfl, (hlt g rfl).2, fun k r hr => ?_⟩⟩
    obtain ⟨va, h1, h2', h3'⟩ := hc k r hr
    have e : ∀ j, (⟨g, 0, none⟩ : Addr).add j = ⟨g, 0 + j, none⟩ := fun j => by unfold Addr.add; split <;> simp_all
    refine ⟨va, ?_, ?_, h3'.mono (fun b hb => hb.1)⟩
    · rw [← e]; exact hcell g rfl _ _ h1
    · rw [Nat.add_assoc, ← e]; exact hcell g rfl _ _ h2'
theorem OwnRecs.push {w w' : World} {base : Nat} {t : TypeId} {v v' va : Value} {rs : List Rec} {cs : List Value} {r : Rec} (hk : ∀ r ∈ rs, I64 r.kind)
    (hc : ∀ k r, rs[k]? = some r → ∃ va, cs[k * 2]? = some (.int .i64 r.kind) ∧ cs[k * 2 + 1]? = some va ∧ IntS w (fun b => b < w.heap.size ∧ v.ownBlock ≠ some b) va r.args)
    (ho : w.ownsRow base t 2 v rs.length cs) (hr : I64 r.kind) (ha : IntS w (fun b => b < w.heap.size ∧ v.ownBlock ≠ some b) va r.args)
    (ho' : w'.ownsRow base t 2 v' (rs.length + 1) (cs ++ [.int .i64 r.kind, va])) (hg : w.grownBy w' v.ownBlock) (hat : v'.ownBlock = v.ownBlock ∨ v'.ownBlock = some (w.heap.size + 1)) : OwnRecs w' base t v' (rs ++ [r]) := by
  have hR : ∀ b, (b < w.heap.size ∧ v.ownBlock ≠ some b) → (b < w'.heap.size ∧ v'.ownBlock ≠ some b) := fun b hb => ⟨Nat.lt_of_lt_of_le hb.1 hg.size, by
    rcases hat with e | e
    · rw [e]; exact hb.2
    · rw [e]; intro e2; injection e2 with e2; have := hb.1; omega⟩
  have hkp : Kept (fun b => b < w.heap.size ∧ v.ownBlock ≠ some b) w w' := fun b hb => hg.block b hb.1 (fun e => hb.2 e.symm)
  have hl : cs.length = rs.length * 2 := ho.1
  refine ⟨⟨_, by rw [List.length_append]; exact ho', fun k x hx => ?_⟩, fun x hx => ?_⟩
  · rcases Nat.lt_or_ge k rs.length with hlt | hge
    · rw [List.getElem?_append_left hlt] at hx
      obtain ⟨vb, h1, h2, h3⟩ := hc k x hx
      exact ⟨vb, by rw [List.getElem?_append_left (by omega)]; exact h1, by rw [List.getElem?_append_left (by omega)]; exact h2, (h3.keep hkp).mono hR⟩
    · rw [List.getElem?_append_right hge] at hx
      have hk0 : k - rs.length = 0 := by
        rcases Nat.eq_zero_or_pos (k - rs.length) with h0 | h0
        · exact h0
        · rw [List.getElem?_eq_none (by simp; omega)] at hx; cases hx
      rw [hk0] at hx
      simp at hx
      subst hx
      have hke : k = rs.length := by omega
      subst hke
      exact ⟨va, by rw [List.getElem?_append_right (by omega), hl]; simp, by rw [List.getElem?_append_right (by omega), hl]; simp, (ha.keep hkp).mono hR⟩
  · rcases List.mem_append.1 hx with h | h
    · exact hk x h
    · rw [List.mem_singleton.1 h]; exact hr
theorem take_eq_succ {α : Type} {xs ys : List α} {j : Nat} (h : xs.take j = ys.take j) (hx : j < xs.length) (hy : j < ys.length) (he : xs[j] = ys[j]) : xs.take (j + 1) = ys.take (j + 1) := by
  rw [List.take_succ_eq_append_getElem hx, List.take_succ_eq_append_getElem hy, h, he]
theorem ne_of_at {α : Type} {xs ys : List α} {j : Nat} (hx : j < xs.length) (hy : j < ys.length) (he : xs[j] ≠ ys[j]) : xs ≠ ys := by
  rintro rfl; exact he rfl
end Go.Proofs.Ytffamkodckghgaa
