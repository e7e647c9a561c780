/- PROVED: TruthSees: for every input the call returns true, and each argument reads afterwards as it read before. No condition. -/
import Derived.Test.YtflembddbbkojaaMa01
import Derived.ProofKit
import Derived.OpenShut
import Derived.Lib.SmallJoins
import Derived.Deep.Slices
import Derived.Deep.Fields
import Derived.ChangeSame
import Derived.Test.YtflembddbbkojaaMa08
import Derived.Test.YtflembddbbkojaaMa18
import Derived.Test.YtflembddbbkojaaMa20
namespace Go.Proofs.Ytflembddbbkojaa
open Go.RowKit Go.ChangeShapes Go.WideShapes Go.ChangeAt Go.Deep Go.Joins
set_option linter.unusedVariables false
set_option linter.unusedSimpArgs false
theorem wf_i64 {x : Int} (h : (Lit.int .i64 x).wf = true) : I64 x := by
  simpa [Lit.wf, IntKind.min, IntKind.max, IntKind.signed, IntKind.bits, I64] using h
/-- From offset off of block b on lie the elements els, each of size cells; K says which cells an element has. -/
def RowsAt {α : Type} (w : World) (size : Nat) (K : List Value → α → Prop) (els : List α) (b off : Nat) : Prop :=
  ∀ k a, els[k]? = some a → ∃ cs, cs.length = size ∧ (∀ i v, cs[i]? = some v → w.cell? ⟨b, off + k * size + i, none⟩ = some v) ∧ K cs a
section
variable {H : Type} {enc : TypeId × Value → H} {P : Program} {W : World}
theorem open_intS {t e : TypeId} {spare : Nat → Bool} {held : Bool} {base fuel : Nat} {v : Value} {x : DataW H × List MemPlace} (ht : P.underlying t = some (.slice e)) (he : P.underlying e = some (.int .i64)) (hc : P.cellsOf e = 1)
    (h : DataW.trod enc P W base spare held fuel t [v] = some x) : ∃ xs, IntS W (Bl W.heap.size) v xs := by
  rcases open_ints ht he hc h with ⟨hcs, _⟩ | ⟨a, len, cap, zs, hcs, _, hl, hm, hz, _, hcell, hwz⟩
  · simp at hcs; subst hcs
    exact ⟨[], IntS.nil _ _ _⟩
  · simp at hcs; subst hcs
    have hzl : len ≤ zs.length := by rw [hz]; split <;> omega
    have hxl : (zs.take len).length = len := by rw [List.length_take]; omega
    refine ⟨zs.take len, ⟨some a, cap, by rw [hxl], by rw [hxl]; exact hl, by rw [hxl]; omega, fun hn => ?_⟩, fun y hy => wf_i64 (hwz y (List.mem_of_mem_take hy))⟩
    rw [hxl] at hn
    obtain ⟨b, off, spot⟩ := a
    have g0 := hcell 0 (by omega)
    have hspot : spot = none := by simpa [Addr.add] using World.cell?_spot g0
    subst hspot
    have hb := block_lt_of_cell g0
    refine ⟨b, off, rfl, by simpa [Addr.add, Bl] using hb, fun k y hk => ?_⟩
    have hkl : k < (zs.take len).length := (List.getElem?_eq_some_iff.1 hk).1
    rw [hxl] at hkl
    have g := hcell k (by omega)
    have e1 : (⟨b, off, none⟩ : Addr).add k = ⟨b, off + k, none⟩ := by unfold Addr.add; split <;> simp_all
    rw [e1] at g
    rw [g]
    rw [List.getElem?_take_of_lt hkl] at hk
    rw [List.getD, hk]; rfl
theorem open_int1 {t : TypeId} {spare : Nat → Bool} {held : Bool} {base fuel : Nat} {v : Value} {x : DataW H × List MemPlace} (ht : P.underlying t = some (.int .i64))
    (h : DataW.trod enc P W base spare held fuel t [v] = some x) : ∃ a, v = .int .i64 a ∧ I64 a := by
  obtain ⟨a, e0, _, wa⟩ := DataW.trod_int ht h
  simp at e0
  exact ⟨a, e0, wf_i64 wa⟩
theorem open_rows {α : Type} {t te : TypeId} {size fuel : Nat} {v : Value} {x : DataW H × List MemPlace} (K : List Value → α → Prop) (ht : P.underlying t = some (.slice te)) (hC : P.cellsOf te = size) (h0 : 0 < size)
    (hel : ∀ n cs y, DataW.trod enc P W 0 (fun _ => true) true n te cs = some y → cs.length = size → ∃ a, K cs a)
    (h : DataW.trod enc P W 0 (fun _ => true) true fuel t [v] = some x) : ∃ els, Row (Bl W.heap.size) v els.length (RowsAt W size K els) ∧ ∀ a ∈ els, ∃ cs, K cs a := by
  rcases open_slice ht h with ⟨hcs1, _⟩ | ⟨a, len, cap, m, n, D, Pl, hcs1, hb, hl, hm, hmm, _, hi⟩
  · simp at hcs1; subst hcs1
    exact ⟨[], Row.nil _ _ _, fun a ha => by cases ha⟩
  · simp at hcs1; subst hcs1
    have hlm : len ≤ m := by rw [hmm]; split <;> omega
    have key : ∀ i, i < m → ∃ (e : α) (cs : List Value), cs.length = size ∧ (∀ j u, cs[j]? = some u → W.cell? (a.add (i * size + j)) = some u) ∧ K cs e := by
      intro i him
      obtain ⟨cs', hcell, ht'⟩ := hi i him
      rw [hC] at hcell
      obtain ⟨_, hl2, hat⟩ := World.cells?_some hcell
      obtain ⟨e, he⟩ := hel _ _ _ ht' hl2
      refine ⟨e, cs', hl2, fun j u hu => ?_, he⟩
      have hj : j < cs'.length := (List.getElem?_eq_some_iff.1 hu).1
      have g := hat j (by omega)
      have e2 : (a.add (i * size)).add j = a.add (i * size + j) := by
        unfold Addr.add
        by_cases hi0 : i * size = 0 <;> by_cases hj0 : j = 0 <;> simp [hi0, hj0, Nat.add_assoc]
      rw [e2] at g
      rw [g]
      exact hu
    have hex : ∃ els : List α, els.length = len ∧ ∀ k e, els[k]? = some e → ∃ cs : List Value, cs.length = size ∧ (∀ j u, cs[j]? = some u → W.cell? (a.add (k * size + j)) = some u) ∧ K cs e := by
      have : ∀ q, q ≤ len → ∃ els : List α, els.length = q ∧ ∀ k e, els[k]? = some e → ∃ cs : List Value, cs.length = size ∧ (∀ j u, cs[j]? = some u → W.cell? (a.add (k * size + j)) = some u) ∧ K cs e := by
        intro q
        induction q with
        | zero => intro _; exact ⟨[], rfl, fun k e he => by simp at he⟩
        | succ q ih =>
          intro hq
          obtain ⟨els, h1, h2⟩ := ih (by omega)
          obtain ⟨e, cs, h3⟩ := key q (by omega)
          refine ⟨els ++ [e], by simp [h1], fun k e' he' => ?_⟩
          rcases Nat.lt_or_ge k els.length with hk | hk
          · rw [List.getElem?_append_left hk] at he'
            exact h2 k e' he'
          · rw [List.getElem?_append_right hk] at he'
            have : k - els.length = 0 := by
              rcases Nat.eq_zero_or_pos (k - els.length) with h0 | h0
              · exact h0
              · rw [List.getElem?_eq_none (by simp; omega)] at he'; cases he'
            rw [this] at he'
            simp at he'
            subst he'
            have hkq : k = q := by omega
            subst hkq
            exact ⟨cs, h3⟩
      exact this len (Nat.le_refl _)
    obtain ⟨els, hal, has⟩ := hex
    refine ⟨els, ⟨some a, cap, by rw [hal], by rw [hal]; exact hl, by rw [hal]; omega, fun hn => ?_⟩, fun e he => ?_⟩
    · rw [hal] at hn
      obtain ⟨b, off, spot⟩ := a
      obtain ⟨cs0, hc0, hc1, -⟩ := has 0 els[0] (List.getElem?_eq_getElem (by omega))
      have g0 := hc1 0 cs0[0] (List.getElem?_eq_getElem (by omega))
      have hspot : spot = none := by simpa [Addr.add] using World.cell?_spot g0
      subst hspot
      have hbb := block_lt_of_cell g0
      refine ⟨b, off, rfl, by simpa [Addr.add, Bl] using hbb, fun k e hk => ?_⟩
      obtain ⟨cs, q1, q2, q3⟩ := has k e hk
      refine ⟨cs, q1, fun i u hu => ?_, q3⟩
      have := q2 i u hu
      rw [← this]
      unfold Addr.add; split <;> simp_all [Nat.add_assoc]
    · obtain ⟨k, hk, rfl⟩ := List.getElem_of_mem he
      obtain ⟨cs, _, _, q3⟩ := has k _ (List.getElem?_eq_getElem hk)
      exact ⟨cs, q3⟩
theorem open_byS {t e : TypeId} {fuel : Nat} {v : Value} {x : DataW H × List MemPlace} (ht : P.underlying t = some (.slice e)) (he : P.underlying e = some (.int .u8)) (hc : P.cellsOf e = 1)
    (h : DataW.trod enc P W 0 (fun _ => true) true fuel t [v] = some x) : ∃ l, ByS W (Bl W.heap.size) v l := by
  obtain ⟨l, hl, -⟩ := open_rows (size := 1) (fun cs (u : UInt8) => cs = [.int .u8 (u.toNat : Int)]) ht hc (by omega) (fun n cs y hy _ => by
    obtain ⟨a, e0, _, wa⟩ := DataW.trod_int he hy
    have hr : 0 ≤ a ∧ a ≤ 255 := by simpa [Lit.wf, IntKind.min, IntKind.max, IntKind.signed, IntKind.bits] using wa
    refine ⟨UInt8.ofNat a.toNat, ?_⟩
    rw [e0]
    have : ((UInt8.ofNat a.toNat).toNat : Int) = a := by simp [UInt8.toNat_ofNat]; omega
    rw [this]) h
  refine ⟨l, hl.imp (fun _ hb => hb) fun b off hb hc k u hu => ?_⟩
  obtain ⟨cs, h1, h2, h3⟩ := hc k u hu
  have := h2 0 (.int .u8 (u.toNat : Int)) (by rw [h3]; rfl)
  simpa using this
end
end Go.Proofs.Ytflembddbbkojaa

namespace Go.Proofs.Ytflembddbbkojaa
open Go.RowKit Go.ChangeShapes Go.WideShapes Go.ChangeAt Go.Deep Go.Joins
set_option linter.unusedVariables false
set_option linter.unusedSimpArgs false
section
variable {H : Type} {enc : TypeId × Value → H} {P : Program} {W : World}
theorem open_sls {α : Type} {t te : TypeId} {size fuel : Nat} {v : Value} {x : DataW H × List MemPlace} (K : World → (Nat → Prop) → List Value → α → Prop) (ht : P.underlying t = some (.slice te)) (hC : P.cellsOf te = size) (h0 : 0 < size)
    (hel : ∀ n cs y, DataW.trod enc P W 0 (fun _ => true) true n te cs = some y → cs.length = size → ∃ a, K W (Bl W.heap.size) cs a)
    (h : DataW.trod enc P W 0 (fun _ => true) true fuel t [v] = some x) : ∃ es, SlS size K W (Bl W.heap.size) v es := by
  obtain ⟨es, h1, -⟩ := open_rows (fun cs a => K W (Bl W.heap.size) cs a) ht hC h0 hel h
  exact ⟨es, h1⟩
theorem open_strS {t te : TypeId} {fuel : Nat} {v : Value} {x : DataW H × List MemPlace} (ht : P.underlying t = some (.slice te)) (he : P.underlying te = some .string) (hC : P.cellsOf te = 1)
    (h : DataW.trod enc P W 0 (fun _ => true) true fuel t [v] = some x) : ∃ l, SlS 1 StrK W (Bl W.heap.size) v l :=
  open_sls StrK ht hC (by omega) (fun n cs y hy _ => by
    obtain ⟨s, e, -, hs⟩ := DataW.trod_string he hy
    exact ⟨s, e, hs⟩) h
theorem open_boolS {t te : TypeId} {fuel : Nat} {v : Value} {x : DataW H × List MemPlace} (ht : P.underlying t = some (.slice te)) (he : P.underlying te = some .bool) (hC : P.cellsOf te = 1)
    (h : DataW.trod enc P W 0 (fun _ => true) true fuel t [v] = some x) : ∃ l, SlS 1 BoolK W (Bl W.heap.size) v l :=
  open_sls BoolK ht hC (by omega) (fun n cs y hy _ => by
    obtain ⟨s, e, -⟩ := DataW.trod_bool he hy
    exact ⟨s, e⟩) h
end
set_option maxRecDepth 100000 in
theorem open_re {H : Type} {enc : TypeId × Value → H} {W : World} {r : Reach} {b0 : Nat} {v : Value} {d : DataW H} {p : List MemPlace} (hv : Value.okWide Try.prog W r b0 27 v) (h : DataW.Trod enc Try.prog W 0 (fun _ => true) true 27 v d p) :
    ∃ vp vo va r, v = .agg #[vp, vo, va] ∧ ReS W (Bl W.heap.size) vp vo va r := by
  obtain ⟨v0, v1, v2, y0, y1, y2, m, rfl, -, -, g0, g1, g2⟩ := open_agg3 Try.underlying27 (by kernel_rfl) (by kernel_rfl) hv h
  obtain ⟨lp, hp⟩ := open_sls (size := 1) DrvK Try.underlying23 (by kernel_rfl) (by omega) (fun n cs y hy hl => by
    match cs, hl with
    | [u], _ =>
      obtain ⟨l, hl⟩ := open_strS Try.underlying46 Try.underlying9 (by kernel_rfl) hy
      exact ⟨l, u, rfl, hl⟩) g0
  obtain ⟨lo, ho⟩ := open_boolS Try.underlying24 Try.underlying4 (by kernel_rfl) g1
  obtain ⟨la, ha⟩ := open_sls (α := Ac) AcK Try.underlying25 (size := 4) (by kernel_rfl) (by omega) (fun n cs y hy hl => by
    obtain ⟨xs, n, _, rfl, -, hlen, hf⟩ := DataW.trod_struct Try.underlying53 hy
    have hc1 : Try.prog.cellsOf 3 = 1 := by kernel_rfl
    match cs, hl, xs, hlen, hf with
    | [u0, u1, u2, u3], _, [z0, z1, z2, z3], _, hf =>
      have t0 := hf 0 _ rfl
      have t1 := hf 1 _ rfl
      have t2 := hf 2 _ rfl
      have t3 := hf 3 _ rfl
      obtain ⟨k0, rfl, h0⟩ := open_int1 (t := 3) Try.underlying3 (by simpa [hc1] using t0)
      obtain ⟨k1, rfl, h1⟩ := open_int1 (t := 3) Try.underlying3 (by simpa [hc1] using t1)
      obtain ⟨k2, rfl, h2⟩ := open_int1 (t := 3) Try.underlying3 (by simpa [hc1] using t2)
      obtain ⟨k3, rfl, h3⟩ := open_int1 (t := 3) Try.underlying3 (by simpa [hc1] using t3)
      exact ⟨⟨k0, k1, k2, k3⟩, rfl, h0, h1, h2, h3⟩) g2
  exact ⟨v0, v1, v2, ⟨lp, lo, la⟩, rfl, hp, ho, ha⟩
end Go.Proofs.Ytflembddbbkojaa

namespace Go.Proofs.Ytflembddbbkojaa.lawSees
open Go.ChangeShapes Go.WideShapes Go.ChangeAt Go.RowKit
set_option linter.unusedVariables false
theorem own : ownKnob Try.prog.godebug = none := by kernel_rfl
theorem laidOut : laidOutB Try.prog = true := by kernel_rfl

set_option maxRecDepth 100000 in
theorem lifted (os : Os) (started : os.Started) (H : Type) (enc : TypeId × Value → H) :
    ReturnsInHanded {} Try.checked os 3 .any (Rows.truthSeesSpec.pre6 enc Try.prog Try.f3 Rows.truthSeesRow.domain false) (Rows.truthSeesSpec.post enc Try.prog Try.f3 false true false false) := by
  refine returnsInHanded_of_change (C := Try.checked) own started (by kernel_rfl) Try.func3
    (ChangeSpec.witness6 (enc := enc) (C := Try.checked) false ⟨#[], #[.slice none 0 0, .agg #[.slice none 0 0, .slice none 0 0, .slice none 0 0], .int .i64 0, .int .i64 0, .int .i64 0, .bool false], []⟩ 8 (by kernel_rfl) (by kernel_rfl) (by kernel_rfl) (by kernel_rfl)) ?_
  intro W base args ds gs before hval0 hW hcnd _
  have hval : ∀ (j : Nat) t v, Try.f3.params[j]? = some t → args[j]? = some v → Value.okWide Try.prog W .any base t v := hval0
  have hW' := hW
  obtain ⟨p, q, hA0, hV, rfl, hfz, hnd⟩ := hW
  have hA : DataW.TrodAll enc Try.prog W 0 (fun _ => true) true Try.f3.params.toList args.toList ds p := hA0
  rw [Try.params3] at hA hval
  obtain ⟨v0, vs0, d0, ds0, p0, q0, hargs, rfl, rfl, h0, r0⟩ := trodAll_cons hA
  obtain ⟨v1, vs1, d1, ds1, p1, q1, rfl, rfl, rfl, h1, r1⟩ := trodAll_cons r0
  obtain ⟨v2, vs2, d2, ds2, p2, q2, rfl, rfl, rfl, h2, r2⟩ := trodAll_cons r1
  obtain ⟨v3, vs3, d3, ds3, p3, q3, rfl, rfl, rfl, h3, r3⟩ := trodAll_cons r2
  obtain ⟨v4, vs4, d4, ds4, p4, q4, rfl, rfl, rfl, h4, r4⟩ := trodAll_cons r3
  obtain ⟨v5, vs5, d5, ds5, p5, q5, rfl, rfl, rfl, h5, r5⟩ := trodAll_cons r4
  obtain ⟨rfl, rfl, rfl⟩ := trodAll_nil r5
  obtain rfl : args = #[v0, v1, v2, v3, v4, v5] := by cases args; simp_all
  obtain ⟨rfl, rfl⟩ := trodVars_none hV
  have k0 := h0
  have lt0 : ∀ x ∈ p0, x.block < W.heap.size := by obtain ⟨m, hm⟩ := k0; exact DataW.trod_lt m _ _ _ hm
  have k1 := h1
  have lt1 : ∀ x ∈ p1, x.block < W.heap.size := by obtain ⟨m, hm⟩ := k1; exact DataW.trod_lt m _ _ _ hm
  have k2 := h2
  have lt2 : ∀ x ∈ p2, x.block < W.heap.size := by obtain ⟨m, hm⟩ := k2; exact DataW.trod_lt m _ _ _ hm
  have k3 := h3
  have lt3 : ∀ x ∈ p3, x.block < W.heap.size := by obtain ⟨m, hm⟩ := k3; exact DataW.trod_lt m _ _ _ hm
  have k4 := h4
  have lt4 : ∀ x ∈ p4, x.block < W.heap.size := by obtain ⟨m, hm⟩ := k4; exact DataW.trod_lt m _ _ _ hm
  have k5 := h5
  have lt5 : ∀ x ∈ p5, x.block < W.heap.size := by obtain ⟨m, hm⟩ := k5; exact DataW.trod_lt m _ _ _ hm
  obtain ⟨a0, len0, cap0, rfl⟩ := okWide_slice Try.underlying22 (hval 0 22 v0 rfl rfl)
  obtain ⟨xs, h_xs⟩ : ∃ xs, IntS W (Bl W.heap.size) (.slice a0 len0 cap0) xs := by
    obtain ⟨fuel, hf⟩ := h0
    exact open_intS Try.underlying22 Try.underlying3 (by kernel_rfl) hf
  obtain ⟨vp1, vo1, va1, raw, rfl, h_raw⟩ := open_re (hval 1 27 v1 rfl rfl) h1
  obtain ⟨vol, rfl, -, -, w_vol⟩ := open_int Try.underlying3 (hval 2 3 v2 rfl rfl) h2
  have h_vol := wf_i64 w_vol
  obtain ⟨frag, rfl, -, -, w_frag⟩ := open_int Try.underlying3 (hval 3 3 v3 rfl rfl) h3
  have h_frag := wf_i64 w_frag
  obtain ⟨stripe, rfl, -, -, w_stripe⟩ := open_int Try.underlying3 (hval 4 3 v4 rfl rfl) h4
  have h_stripe := wf_i64 w_stripe
  obtain ⟨on, rfl, -, -⟩ := open_bool Try.underlying4 (hval 5 4 v5 rfl rfl) h5
  clear hA0 hval0
  refine (truth_any made_any _ vp1 vo1 va1 xs raw vol frag stripe on W h_xs h_raw h_vol h_frag h_stripe).mono fun e W' ⟨he, bel⟩ => ?_
  subst he
  exact ⟨_, rfl, _, _, _, [], _, [], hW', trodAll_mk1 (shut_bool Try.underlying4 _), (trodAll_cons_mk (Below.trod laidOut (by kernel_rfl) (of_decide_eq_true (by kernel_rfl)) k0 bel lt0) (trodAll_cons_mk (Below.trod laidOut (by kernel_rfl) (of_decide_eq_true (by kernel_rfl)) k1 bel lt1) (trodAll_cons_mk (Below.trod laidOut (by kernel_rfl) (of_decide_eq_true (by kernel_rfl)) k2 bel lt2) (trodAll_cons_mk (Below.trod laidOut (by kernel_rfl) (of_decide_eq_true (by kernel_rfl)) k3 bel lt3) (trodAll_cons_mk (Below.trod laidOut (by kernel_rfl) (of_decide_eq_true (by kernel_rfl)) k4 bel lt4) (trodAll_cons_mk (Below.trod laidOut (by kernel_rfl) (of_decide_eq_true (by kernel_rfl)) k5 bel lt5) trodAll_mk0)))))), rfl, bel.frame _, fun h => by cases h⟩

theorem over : Rows.truthSeesRow.holds Try.pinned (OpenSpec.ofChange Rows.truthSeesSpec) :=
  OpenClaim.holds_of_wide 3 Try.f3 rfl rfl rfl rfl rfl rfl rfl ⟨rfl, rfl, rfl, rfl, rfl⟩ rfl rfl rfl rfl rfl (by kernel_rfl) Try.func3 (by kernel_rfl)
    (of_decide_eq_true (by kernel_rfl)) (by unfold Func.isWrapper; first | (rw [if_pos (by decide +kernel)]; kernel_rfl) | (rw [if_neg (by decide +kernel)]; exact ⟨rfl, rfl⟩))
    (fun os started H enc _ => lifted os started H enc)

theorem proved : Rows.TruthSeesSaid := over
#print axioms proved
end Go.Proofs.Ytflembddbbkojaa.lawSees
