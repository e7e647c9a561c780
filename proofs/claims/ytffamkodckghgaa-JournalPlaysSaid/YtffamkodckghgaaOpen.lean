/- Arguments opened to the words of XBase; a law's row closed. -/
import Derived.Test.YtffamkodckghgaaJRec
import Derived.ProofKit
import Derived.OpenShut
import Derived.Lib.SmallJoins
import Derived.Deep.Slices
import Derived.Deep.Fields
import Derived.ChangeSame
namespace Go.Proofs.Ytffamkodckghgaa
open Go.RowKit Go.ChangeShapes Go.WideShapes Go.ChangeAt Go.Deep Go.Joins
set_option linter.unusedVariables false
set_option linter.unusedSimpArgs false
theorem wf_i64 {x : Int} (h : (Lit.int .i64 x).wf = true) : I64 x := by
  simpa [Lit.wf, IntKind.min, IntKind.max, IntKind.signed, IntKind.bits, I64] using h
section
variable {H : Type} {enc : TypeId × Value → H} {P : Program} {W : World}
theorem open_intS {t e : TypeId} {spare : Nat → Bool} {held : Bool} {base fuel : Nat} {v : Value} {x : DataW H × List MemPlace} (ht : P.underlying t = some (.slice e)) (he : P.underlying e = some (.int .i64)) (hc : P.cellsOf e = 1)
    (h : DataW.trod enc P W base spare held fuel t [v] = some x) : ∃ xs, IntS W (Bl W.heap.size) v xs := by
  rcases open_ints ht he hc h with ⟨hcs, _⟩ | ⟨a, len, cap, zs, hcs, _, hl, hm, hz, _, hcell, hwz⟩
  · simp at hcs; subst hcs
    exact ⟨[], IntS.nil _ _ _⟩
  · simp at hcs; subst hcs
    have hzl : len ≤ zs.length := by rw [hz]; split <;> omega
    have hxl : (zs.take len).length = len := by rw [List.length_take]; omega
    refine ⟨zs.take len, ⟨some a, cap, by rw [hxl], by rw [hxl]; exact hl, by rw [hxl]; omega, fun hn => ?_⟩, fun y hy => wf_i64 (hwz y (List.mem_of_mem_take hy))⟩
    rw [hxl] at hn
    obtain ⟨b, off, spot⟩ := a
    have g0 := hcell 0 (by omega)
    have hspot : spot = none := by simpa [Addr.add] using World.cell?_spot g0
    subst hspot
    have hb := block_lt_of_cell g0
    refine ⟨b, off, rfl, by simpa [Addr.add, Bl] using hb, fun k y hk => ?_⟩
    have hkl : k < (zs.take len).length := (List.getElem?_eq_some_iff.1 hk).1
    rw [hxl] at hkl
    have g := hcell k (by omega)
    have e1 : (⟨b, off, none⟩ : Addr).add k = ⟨b, off + k, none⟩ := by unfold Addr.add; split <;> simp_all
    rw [e1] at g
    rw [g]
    rw [List.getElem?_take_of_lt hkl] at hk
    rw [List.getD, hk]; rfl
theorem open_int1 {t : TypeId} {spare : Nat → Bool} {held : Bool} {base fuel : Nat} {v : Value} {x : DataW H × List MemPlace} (ht : P.underlying t = some (.int .i64))
    (h : DataW.trod enc P W base spare held fuel t [v] = some x) : ∃ a, v = .int .i64 a ∧ I64 a := by
  obtain ⟨a, e0, _, wa⟩ := DataW.trod_int ht h
  simp at e0
  exact ⟨a, e0, wf_i64 wa⟩
/-- A record by value. -/
theorem open_rec {r : Reach} {b0 : Nat} {t ti ts : TypeId} {f0 f1 : Field} {v : Value} {d : DataW H} {p : List MemPlace} (hs : P.underlying t = some (.struct #[f0, f1])) (hone : oneCellFields P #[f0, f1] = true) (hC : P.cellsOf t = 2)
    (h0 : f0.type = ti) (h1 : f1.type = ts) (hti : P.underlying ti = some (.int .i64)) (hts : P.underlying ts = some (.slice ti)) (hc : P.cellsOf ti = 1)
    (hv : Value.okWide P W r b0 t v) (h : DataW.Trod enc P W 0 (fun _ => true) true t v d p) : ∃ k va xs, v = .agg #[.int .i64 k, va] ∧ I64 k ∧ IntS W (Bl W.heap.size) va xs := by
  obtain ⟨v0, v1, y0, y1, m, rfl, _, _, g0, g1⟩ := open_agg2 hs hone hC hv h
  rw [h0] at g0
  rw [h1] at g1
  obtain ⟨k, rfl, hk⟩ := open_int1 hti g0
  obtain ⟨xs, hx⟩ := open_intS hts hti hc g1
  exact ⟨k, v1, xs, rfl, hk, hx⟩
/-- A slice of records. -/
theorem open_recS {t te ti ts : TypeId} {fuel : Nat} {f0 f1 : Field} {v : Value} {x : DataW H × List MemPlace} (ht : P.underlying t = some (.slice te)) (hs : P.underlying te = some (.struct #[f0, f1])) (ho0 : f0.offset = 0) (ho1 : f1.offset = 1) (hC : P.cellsOf te = 2)
    (h0 : f0.type = ti) (h1 : f1.type = ts) (hti : P.underlying ti = some (.int .i64)) (hts : P.underlying ts = some (.slice ti)) (hc : P.cellsOf ti = 1) (hcs : P.cellsOf ts = 1)
    (h : DataW.trod enc P W 0 (fun _ => true) true fuel t [v] = some x) : ∃ rs, RecS W (Bl W.heap.size) v rs := by
  rcases open_slice ht h with ⟨hcs1, _⟩ | ⟨a, len, cap, m, n, D, Pl, hcs1, hb, hl, hm, hmm, _, hi⟩
  · simp at hcs1; subst hcs1
    exact ⟨[], RecS.nil _ _ _⟩
  · simp at hcs1; subst hcs1
    have hlm : len ≤ m := by rw [hmm]; split <;> omega
    have key : ∀ i, i < m → ∃ (k : Int) (va : Value) (xs : List Int), W.cell? (a.add (i * 2)) = some (.int .i64 k) ∧ W.cell? (a.add (i * 2 + 1)) = some va ∧ IntS W (Bl W.heap.size) va xs ∧ I64 k := by
      intro i him
      obtain ⟨cs', hcell, ht'⟩ := hi i him
      rw [hC] at hcell
      obtain ⟨_, hl2, hat⟩ := World.cells?_some hcell
      obtain ⟨y0, y1, n2, _, _, t0, t1⟩ := trod_struct2 hs ht'
      match cs', hl2 with
      | [u0, u1], _ =>
        rw [h0, ho0, hc] at t0
        rw [h1, ho1, hcs] at t1
        obtain ⟨k, rfl, hk⟩ := open_int1 hti t0
        obtain ⟨xs, hx⟩ := open_intS hts hti hc t1
        have g0 := hat 0 (by omega)
        have g1 := hat 1 (by omega)
        have add2 : ∀ j, (a.add (i * 2)).add j = a.add (i * 2 + j) := fun j => by
          unfold Addr.add
          by_cases hi0 : i * 2 = 0 <;> by_cases hj0 : j = 0 <;> simp [hi0, hj0, Nat.add_assoc]
        rw [add2] at g0 g1
        exact ⟨k, u1, xs, g0, g1, hx, hk⟩
    let K : Nat → Rec := fun i => if h : i < m then ⟨(key i h).choose, (key i h).choose_spec.choose_spec.choose⟩ else ⟨0, []⟩
    have hKl : ((List.range len).map K).length = len := by simp
    refine ⟨(List.range len).map K, ⟨some a, cap, by rw [hKl], by rw [hKl]; exact hl, by rw [hKl]; omega, fun hn => ?_⟩, fun r hr => ?_⟩
    · rw [hKl] at hn
      obtain ⟨b, off, spot⟩ := a
      have g0 := (key 0 (by omega)).choose_spec.choose_spec.choose_spec.1
      have hspot : spot = none := by simpa [Addr.add] using World.cell?_spot g0
      subst hspot
      have hbb := block_lt_of_cell g0
      refine ⟨b, off, rfl, by simpa [Addr.add, Bl] using hbb, fun k r hr => ?_⟩
      have hkl : k < len := by have := (List.getElem?_eq_some_iff.1 hr).1; rwa [hKl] at this
      have hr2 : r = K k := by
        rw [List.getElem?_map, List.getElem?_range hkl] at hr
        simpa using hr.symm
      have hkm : k < m := by omega
      have e1 : ∀ j, (⟨b, off, none⟩ : Addr).add j = ⟨b, off + j, none⟩ := fun j => by unfold Addr.add; split <;> simp_all
      obtain ⟨c0, c1, c2, c3⟩ := (key k hkm).choose_spec.choose_spec.choose_spec
      refine ⟨(key k hkm).choose_spec.choose, ?_, ?_, ?_⟩
      · rw [← e1, c0, hr2]; simp only [K, dif_pos hkm]
      · rw [Nat.add_assoc]; exact (congrArg W.cell? (e1 _)).symm.trans c1
      · rw [hr2]; simp only [K, dif_pos hkm]; exact c2
    · obtain ⟨i, hi, rfl⟩ := List.mem_map.1 hr
      have him : i < m := by have := List.mem_range.1 hi; omega
      simp only [K, dif_pos him]
      exact (key i him).choose_spec.choose_spec.choose_spec.2.2.2
end
end Go.Proofs.Ytffamkodckghgaa
