/- Arguments opened to the words of XBase, for any seat. -/
import Derived.Test.YtkpfndhocgmgjaaBase
import Derived.ProofKit
import Derived.OpenShut
import Derived.Lib.SmallJoins
import Derived.Deep.Slices
import Derived.Deep.Fields
import Derived.ChangeSame
namespace Go.Proofs.Ytkpfndhocgmgjaa
open Go.RowKit Go.ChangeShapes Go.WideShapes Go.ChangeAt Go.Deep Go.Joins
set_option linter.unusedVariables false
set_option linter.unusedSimpArgs false
theorem wf_i64 {x : Int} (h : (Lit.int .i64 x).wf = true) : I64 x := by
  simpa [Lit.wf, IntKind.min, IntKind.max, IntKind.signed, IntKind.bits, I64] using h
/-- From offset off of block b on lie the elements as, each of size cells; K says which cells an element has. -/
def RowsAt {α : Type} (w : World) (size : Nat) (K : List Value → α → Prop) (as : List α) (b off : Nat) : Prop :=
  ∀ k a, as[k]? = some a → ∃ cs, cs.length = size ∧ (∀ i v, cs[i]? = some v → w.cell? ⟨b, off + k * size + i, none⟩ = some v) ∧ K cs a
section
variable {H : Type} {enc : TypeId × Value → H} {P : Program} {W : World}
theorem open_intS {t e : TypeId} {spare : Nat → Bool} {held : Bool} {base fuel : Nat} {v : Value} {x : DataW H × List MemPlace} (ht : P.underlying t = some (.slice e)) (he : P.underlying e = some (.int .i64)) (hc : P.cellsOf e = 1)
    (h : DataW.trod enc P W base spare held fuel t [v] = some x) : ∃ xs, IntS W (Bl W.heap.size) v xs := by
  rcases open_ints ht he hc h with ⟨hcs, _⟩ | ⟨a, len, cap, zs, hcs, _, hl, hm, hz, _, hcell, hwz⟩
  · simp at hcs; subst hcs
    exact ⟨[], IntS.nil _ _ _⟩
  · simp at hcs; subst hcs
    have hzl : len ≤ zs.length := by rw [hz]; split <;> omega
    have hxl : (zs.take len).length = len := by rw [List.length_take]; omega
    refine ⟨zs.take len, ⟨some a, cap, by rw [hxl], by rw [hxl]; exact hl, by rw [hxl]; omega, fun hn => ?_⟩, fun y hy => wf_i64 (hwz y (List.mem_of_mem_take hy))⟩
    rw [hxl] at hn
    obtain ⟨b, off, spot⟩ := a
    have g0 := hcell 0 (by omega)
    have hspot : spot = none := by simpa [Addr.add] using World.cell?_spot g0
    subst hspot
    have hb := block_lt_of_cell g0
    refine ⟨b, off, rfl, by simpa [Addr.add, Bl] using hb, fun k y hk => ?_⟩
    have hkl : k < (zs.take len).length := (List.getElem?_eq_some_iff.1 hk).1
    rw [hxl] at hkl
    have g := hcell k (by omega)
    have e1 : (⟨b, off, none⟩ : Addr).add k = ⟨b, off + k, none⟩ := by unfold Addr.add; split <;> simp_all
    rw [e1] at g
    rw [g]
    rw [List.getElem?_take_of_lt hkl] at hk
    rw [List.getD, hk]; rfl
theorem open_int1 {t : TypeId} {spare : Nat → Bool} {held : Bool} {base fuel : Nat} {v : Value} {x : DataW H × List MemPlace} (ht : P.underlying t = some (.int .i64))
    (h : DataW.trod enc P W base spare held fuel t [v] = some x) : ∃ a, v = .int .i64 a ∧ I64 a := by
  obtain ⟨a, e0, _, wa⟩ := DataW.trod_int ht h
  simp at e0
  exact ⟨a, e0, wf_i64 wa⟩
theorem open_rows {α : Type} {t te : TypeId} {size fuel : Nat} {v : Value} {x : DataW H × List MemPlace} (K : List Value → α → Prop) (ht : P.underlying t = some (.slice te)) (hC : P.cellsOf te = size) (h0 : 0 < size)
    (hel : ∀ n cs y, DataW.trod enc P W 0 (fun _ => true) true n te cs = some y → cs.length = size → ∃ a, K cs a)
    (h : DataW.trod enc P W 0 (fun _ => true) true fuel t [v] = some x) : ∃ as, Row (Bl W.heap.size) v as.length (RowsAt W size K as) ∧ ∀ a ∈ as, ∃ cs, K cs a := by
  rcases open_slice ht h with ⟨hcs1, _⟩ | ⟨a, len, cap, m, n, D, Pl, hcs1, hb, hl, hm, hmm, _, hi⟩
  · simp at hcs1; subst hcs1
    exact ⟨[], Row.nil _ _ _, fun a ha => by cases ha⟩
  · simp at hcs1; subst hcs1
    have hlm : len ≤ m := by rw [hmm]; split <;> omega
    have key : ∀ i, i < m → ∃ (e : α) (cs : List Value), cs.length = size ∧ (∀ j u, cs[j]? = some u → W.cell? (a.add (i * size + j)) = some u) ∧ K cs e := by
      intro i him
      obtain ⟨cs', hcell, ht'⟩ := hi i him
      rw [hC] at hcell
      obtain ⟨_, hl2, hat⟩ := World.cells?_some hcell
      obtain ⟨e, he⟩ := hel _ _ _ ht' hl2
      refine ⟨e, cs', hl2, fun j u hu => ?_, he⟩
      have hj : j < cs'.length := (List.getElem?_eq_some_iff.1 hu).1
      have g := hat j (by omega)
      have e2 : (a.add (i * size)).add j = a.add (i * size + j) := by
        unfold Addr.add
        by_cases hi0 : i * size = 0 <;> by_cases hj0 : j = 0 <;> simp [hi0, hj0, Nat.add_assoc]
      rw [e2] at g
      rw [g]
      exact hu
    have hex : ∃ as : List α, as.length = len ∧ ∀ k e, as[k]? = some e → ∃ cs : List Value, cs.length = size ∧ (∀ j u, cs[j]? = some u → W.cell? (a.add (k * size + j)) = some u) ∧ K cs e := by
      have : ∀ q, q ≤ len → ∃ as : List α, as.length = q ∧ ∀ k e, as[k]? = some e → ∃ cs : List Value, cs.length = size ∧ (∀ j u, cs[j]? = some u → W.cell? (a.add (k * size + j)) = some u) ∧ K cs e := by
        intro q
        induction q with
        | zero => intro _; exact ⟨[], rfl, fun k e he => by simp at he⟩
        | succ q ih =>
          intro hq
          obtain ⟨as, h1, h2⟩ := ih (by omega)
          obtain ⟨e, cs, h3⟩ := key q (by omega)
          refine ⟨as ++ [e], by simp [h1], fun k e' he' => ?_⟩
          rcases Nat.lt_or_ge k as.length with hk | hk
          · rw [List.getElem?_append_left hk] at he'
            exact h2 k e' he'
          · rw [List.getElem?_append_right hk] at he'
            have : k - as.length = 0 := by
              rcases Nat.eq_zero_or_pos (k - as.length) with h0 | h0
              · exact h0
              · rw [List.getElem?_eq_none (by simp; omega)] at he'; cases he'
            rw [this] at he'
            simp at he'
            subst he'
            have hkq : k = q := by omega
            subst hkq
            exact ⟨cs, h3⟩
      exact this len (Nat.le_refl _)
    obtain ⟨as, hal, has⟩ := hex
    refine ⟨as, ⟨some a, cap, by rw [hal], by rw [hal]; exact hl, by rw [hal]; omega, fun hn => ?_⟩, fun e he => ?_⟩
    · rw [hal] at hn
      obtain ⟨b, off, spot⟩ := a
      obtain ⟨cs0, hc0, hc1, -⟩ := has 0 as[0] (List.getElem?_eq_getElem (by omega))
      have g0 := hc1 0 cs0[0] (List.getElem?_eq_getElem (by omega))
      have hspot : spot = none := by simpa [Addr.add] using World.cell?_spot g0
      subst hspot
      have hbb := block_lt_of_cell g0
      refine ⟨b, off, rfl, by simpa [Addr.add, Bl] using hbb, fun k e hk => ?_⟩
      obtain ⟨cs, q1, q2, q3⟩ := has k e hk
      refine ⟨cs, q1, fun i u hu => ?_, q3⟩
      have := q2 i u hu
      rw [← this]
      unfold Addr.add; split <;> simp_all [Nat.add_assoc]
    · obtain ⟨k, hk, rfl⟩ := List.getElem_of_mem he
      obtain ⟨cs, _, _, q3⟩ := has k _ (List.getElem?_eq_getElem hk)
      exact ⟨cs, q3⟩
theorem open_byS {t e : TypeId} {fuel : Nat} {v : Value} {x : DataW H × List MemPlace} (ht : P.underlying t = some (.slice e)) (he : P.underlying e = some (.int .u8)) (hc : P.cellsOf e = 1)
    (h : DataW.trod enc P W 0 (fun _ => true) true fuel t [v] = some x) : ∃ l, ByS W (Bl W.heap.size) v l := by
  obtain ⟨l, hl, -⟩ := open_rows (size := 1) (fun cs (u : UInt8) => cs = [.int .u8 (u.toNat : Int)]) ht hc (by omega) (fun n cs y hy _ => by
    obtain ⟨a, e0, _, wa⟩ := DataW.trod_int he hy
    have hr : 0 ≤ a ∧ a ≤ 255 := by simpa [Lit.wf, IntKind.min, IntKind.max, IntKind.signed, IntKind.bits] using wa
    refine ⟨UInt8.ofNat a.toNat, ?_⟩
    rw [e0]
    have : ((UInt8.ofNat a.toNat).toNat : Int) = a := by simp [UInt8.toNat_ofNat]; omega
    rw [this]) h
  refine ⟨l, hl.imp (fun _ hb => hb) fun b off hb hc k u hu => ?_⟩
  obtain ⟨cs, h1, h2, h3⟩ := hc k u hu
  have := h2 0 (.int .u8 (u.toNat : Int)) (by rw [h3]; rfl)
  simpa using this
end
end Go.Proofs.Ytkpfndhocgmgjaa
