/- Records that the call gathers while a journal is written: their parts lie below the call's start. -/
import Derived.Test.YtffamkodckghgaaJRefCrash
import Derived.Laws.AppendOwnNone
namespace Go.Proofs.Ytffamkodckghgaa
open Go.RowKit
set_option linter.unusedVariables false
set_option linter.unusedSimpArgs false
/-- A row of records that the call has built; what they hold lies below base. -/
def SureR (w : World) (base : Nat) (t : TypeId) (v : Value) (rs : List Rec) : Prop :=
  (∃ cs, w.ownsRow base t 2 v rs.length cs ∧ (∀ u ∈ cs, u.oneCell' = true) ∧ ∀ k r, rs[k]? = some r → ∃ va, cs[k * 2]? = some (.int .i64 r.kind) ∧ cs[k * 2 + 1]? = some va ∧ IntS w (Bl base) va r.args) ∧ ∀ r ∈ rs, I64 r.kind
theorem SureR.nil (w : World) (base : Nat) (t : TypeId) : SureR w base t (.slice none 0 0) [] := ⟨⟨[], World.ownsRow_nil _ _ _ _, by simp, by simp⟩, by simp⟩
theorem SureR.kept {w w2 : World} {base : Nat} {t : TypeId} {v : Value} {rs : List Rec} {row : Option Nat} (h : SureR w base t v rs) (hg : w.grownBy w2 row) (hne : v.ownBlock = none ∨ v.ownBlock ≠ row) (hk : Kept (Bl base) w w2) : SureR w2 base t v rs := by
  obtain ⟨⟨cs, ho, h1, hc⟩, h2⟩ := h
  refine ⟨⟨cs, ho.kept hg hne, h1, fun k r hr => ?_⟩, h2⟩
  obtain ⟨va, c1, c2, c3⟩ := hc k r hr
  exact ⟨va, c1, c2, c3.keep hk⟩
theorem SureR.below {w w2 : World} {base : Nat} {t : TypeId} {v : Value} {rs : List Rec} (h : SureR w base t v rs) (hb : Below w.heap.size w w2) (hB : base ≤ w.heap.size) : SureR w2 base t v rs := by
  refine h.kept (row := none) ⟨hb.os, hb.tape, hb.output, hb.size, fun i hi _ => hb.block i hi⟩ ?_ (kept_below' hb hB)
  cases hv : v.ownBlock with
  | none => exact .inl rfl
  | some g => exact .inr (by simp)
theorem SureR.log {w w2 : World} {base g : Nat} {t T : TypeId} {v : Value} {rs : List Rec} {L : LogS} (h : SureR w base t v rs) (hL : LogAt T w g L) (ht : t ≠ T) (hg : w.grownBy w2 (some g)) (hB : base ≤ g) (hs : base ≤ w.heap.size) : SureR w2 base t v rs := by
  refine h.kept hg ?_ (fun b hb => hg.block b (Nat.lt_of_lt_of_le hb hs) (fun e => by injection e with e; unfold Bl at hb; omega))
  obtain ⟨⟨cs, ho, -, -⟩, -⟩ := h
  rcases ho.2 with ⟨rfl, _⟩ | ⟨g', cap, cur, rfl, _, hh, _⟩
  · exact .inl rfl
  · refine .inr fun he => ?_
    have : g' = g := by simpa [Value.ownBlock] using he
    subst this
    unfold LogAt at hL
    rw [hL] at hh
    injection hh with hh
    injection hh with _ hh
    exact ht hh.symm
theorem SureR.push {w w' : World} {base : Nat} {t : TypeId} {v v' va : Value} {rs : List Rec} {cs : List Value} {r : Rec} (hk : ∀ r ∈ rs, I64 r.kind) (h1 : ∀ u ∈ cs, u.oneCell' = true)
    (hc : ∀ k r, rs[k]? = some r → ∃ va, cs[k * 2]? = some (.int .i64 r.kind) ∧ cs[k * 2 + 1]? = some va ∧ IntS w (Bl base) va r.args)
    (ho : w.ownsRow base t 2 v rs.length cs) (hr : I64 r.kind) (ha : IntS w (Bl base) va r.args) (hva : va.oneCell' = true)
    (ho' : w'.ownsRow base t 2 v' (rs.length + 1) (cs ++ [.int .i64 r.kind, va])) (hkp : Kept (Bl base) w w') : SureR w' base t v' (rs ++ [r]) := by
  have hl : cs.length = rs.length * 2 := ho.1
  refine ⟨⟨_, by rw [List.length_append]; exact ho', ?_, fun k x hx => ?_⟩, fun x hx => ?_⟩
  · intro u hu
    rcases List.mem_append.1 hu with h | h
    · exact h1 u h
    · simp at h
      rcases h with rfl | rfl
      · rfl
      · exact hva
  · rcases Nat.lt_or_ge k rs.length with hlt | hge
    · rw [List.getElem?_append_left hlt] at hx
      obtain ⟨vb, h1, h2, h3⟩ := hc k x hx
      exact ⟨vb, by rw [List.getElem?_append_left (by omega)]; exact h1, by rw [List.getElem?_append_left (by omega)]; exact h2, h3.keep hkp⟩
    · rw [List.getElem?_append_right hge] at hx
      have hk0 : k - rs.length = 0 := by
        rcases Nat.eq_zero_or_pos (k - rs.length) with h0 | h0
        · exact h0
        · rw [List.getElem?_eq_none (by simp; omega)] at hx; cases hx
      rw [hk0] at hx
      simp at hx
      subst hx
      have hke : k = rs.length := by omega
      subst hke
      exact ⟨va, by rw [List.getElem?_append_right (by omega), hl]; simp, by rw [List.getElem?_append_right (by omega), hl]; simp, ha.keep hkp⟩
  · rcases List.mem_append.1 hx with h | h
    · exact hk x h
    · rw [List.mem_singleton.1 h]; exact hr
theorem SureR.recS {w : World} {base : Nat} {t : TypeId} {v : Value} {rs : List Rec} (h : SureR w base t v rs) (hB : base ≤ w.heap.size) : RecS w (Bl w.heap.size) v rs := by
  obtain ⟨⟨cs, ho, h1, hc⟩, hk⟩ := h
  refine ⟨?_, hk⟩
  have hcell := fun g => ho.cells (g := g)
  have hlt := ho.lt
  rcases ho.2 with ⟨rfl, h0⟩ | ⟨g, cap, cur, rfl, _, _, h2, h3, _⟩
  · rw [h0]; exact Row.nil _ _ _
  · refine ⟨_, cap, rfl, h2, Nat.le_trans h2 h3, fun _ => ⟨g, 0, rfl, (hlt g rfl).2, fun k r hr => ?_⟩⟩
    obtain ⟨va, h1, h2', h3'⟩ := hc k r hr
    have e : ∀ j, (⟨g, 0, none⟩ : Addr).add j = ⟨g, 0 + j, none⟩ := fun j => by unfold Addr.add; split <;> simp_all
    refine ⟨va, ?_, ?_, h3'.mono (Bl.mono hB)⟩
    · rw [← e]; exact hcell g rfl _ _ h1
    · rw [Nat.add_assoc, ← e]; exact hcell g rfl _ _ h2'
/-- 'append(nil, sure...)': a copy. -/
theorem app_sure {ops : Array Oper} {rest : List Oper} {o : Oper} {a : Act} {Q : Exit → Act → World → Prop} {w : World} (s x : Operand) (hgd : o.guard = none) (ho : o.op = .call { callee := .builtin .append, args := #[s, x], argTypes := #[26, 26] })
    (base : Nat) (v : Value) (rs : List Rec) (hs : a.eval s = .slice none 0 0) (hx : a.eval x = v) (hown : SureR w base 24 v rs) (hn : rs.length ≤ 65536) (hbase : base ≤ w.heap.size)
    (h : ∀ v' w', SureR w' base 24 v' rs → Below w.heap.size w w' → wpList Try.prog ops Q rest (a.put o.dst v') w') :
    wpList Try.prog ops Q (o :: rest) a w := by
  obtain ⟨i0, hi0, hz0, hz1, hz2⟩ := info_parts info_rec
  obtain ⟨⟨cs, hr, h1, hc⟩, hk⟩ := hown
  have hnil : w.ownsRow base 24 2 (.slice none 0 0) 0 [] := World.ownsRow_nil _ _ _ _
  have hl : cs.length = rs.length * 2 := hr.1
  have hcell := fun g => hr.cells (g := g)
  rcases hr.2 with ⟨hv, h0⟩ | ⟨g, cap, cur, hv, _, _, h2, h3, _⟩
  · subst hv
    have hrs : rs = [] := List.eq_nil_of_length_eq_zero h0
    subst hrs
    exact wpList_append_own_none hgd s x _ ho base _ i0 2 Try.underlying26 hi0 (.slice none 0 0) 0 [] hs hnil hx (h _ _ (SureR.nil _ _ _) (Below.refl _ _))
  · subst hv
    refine wpList_append_own_at (P := Try.prog) _ hgd s x _ ho base _ i0 _ 2 32 Try.underlying26 hi0 hz0 hz1 hz2 rfl (by omega) (.slice none 0 0) 0 [] hs hnil ⟨g, 0, none⟩ rs.length cap cs hx hl (hcell g rfl) h1 (by unfold maxLen; omega) (by omega) hbase ?_
    intro v' w' h4 h5 _ _
    have hb : Below w.heap.size w w' := ⟨h5.os, h5.tape, h5.output, h5.size, fun i hi => h5.block i hi (by simp [Value.ownBlock])⟩
    refine h v' w' ⟨⟨cs, by simpa using h4, h1, fun k r hr => ?_⟩, hk⟩ hb
    obtain ⟨va, c1, c2, c3⟩ := hc k r hr
    exact ⟨va, c1, c2, c3.keep (kept_below' hb hbase)⟩
/-- What the law asks of a crash. -/
theorem surv_facts (A B : List Rec) (keep k2 : Int) (hA : ∀ r ∈ A, validR r = true) (hB : ∀ r ∈ B, validR r = true) (L : LogS) (hd : L.data = (A ++ B).flatMap frameB) (hu : L.dur = 26 * A.length) :
    ∃ q, A.length ≤ q ∧ q ≤ (A ++ B).length ∧ scan (crashS L keep).data = (A ++ B).take q ∧ (crashS L keep).dur = 26 * q ∧ (crashS L keep).data.length = 26 * q ∧ crashS (crashS L keep) k2 = crashS L keep := by
  have hAB : ∀ r ∈ A ++ B, validR r = true := fun r hr => (List.mem_append.1 hr).elim (hA r) (hB r)
  have hl : L.data.length = 26 * (A ++ B).length := by rw [hd]; exact flat_length _
  have hl2 : (A ++ B).length = A.length + B.length := List.length_append
  have hn1 : 26 * A.length ≤ crashN L keep := by unfold crashN; omega
  have hn2 : crashN L keep ≤ 26 * (A ++ B).length := by unfold crashN; omega
  obtain ⟨q, hq⟩ : ∃ q, q = crashN L keep / 26 := ⟨_, rfl⟩
  have hq1 : A.length ≤ q := by omega
  have hq2 : q ≤ (A ++ B).length := by omega
  have hm : crashM L keep = 26 * q := by
    unfold crashM
    rw [hd, scan_cut _ hAB, List.length_take]; omega
  have hdata : (crashS L keep).data = ((A ++ B).flatMap frameB).take (26 * q) := by unfold crashS; rw [hm, hd]
  have hdl : (crashS L keep).data.length = 26 * q := by rw [hdata, List.length_take, flat_length]; omega
  have hdur : (crashS L keep).dur = 26 * q := by unfold crashS; exact hm
  have hsc : scan (crashS L keep).data = (A ++ B).take q := by
    rw [hdata, scan_cut _ hAB]; congr 1; omega
  refine ⟨q, hq1, hq2, hsc, hdur, hdl, ?_⟩
  generalize crashS L keep = M at *
  have hn : crashN M k2 = 26 * q := by unfold crashN; omega
  have hm2 : crashM M k2 = 26 * q := by
    unfold crashM
    rw [hn, List.take_of_length_le (by omega), hsc, List.length_take]; omega
  unfold crashS
  rw [hm2, List.take_of_length_le (by omega)]
  cases M
  simp at hdur ⊢
  exact hdur.symm
end Go.Proofs.Ytffamkodckghgaa
