/- PROVED: For every input TruthLoses returns true: which stripes are lost, and which are only unavailable, as the reference says. No condition. -/
import Derived.Test.YtmehadfhcdpfcaaGreatMb07
import Derived.Test.YtmehadfhcdpfcaaGreatMb30
namespace Go.Proofs.YtmehadfhcdpfcaaGreat
open Go.RowKit Go.ChangeShapes Go.WideShapes Go.ChangeAt Go.Deep Go.Joins
set_option linter.unusedVariables false
set_option linter.unusedSimpArgs false
section
variable {H : Type} {enc : TypeId × Value → H} {P : Program} {W : World}
theorem open_sls {α : Type} {t te : TypeId} {size fuel : Nat} {v : Value} {x : DataW H × List MemPlace} (K : World → (Nat → Prop) → List Value → α → Prop) (ht : P.underlying t = some (.slice te)) (hC : P.cellsOf te = size) (h0 : 0 < size)
  (hel : ∀ n cs y, DataW.trod enc P W 0 (fun _ => true) true n te cs = some y → cs.length = size → ∃ a, K W (Bl W.heap.size) cs a)
  (h : DataW.trod enc P W 0 (fun _ => true) true fuel t [v] = some x) : ∃ es, SlS size K W (Bl W.heap.size) v es := by
 obtain ⟨es, h1, -⟩ := open_rows (fun cs a => K W (Bl W.heap.size) cs a) ht hC h0 hel h
 exact ⟨es, h1⟩
theorem open_strS {t te : TypeId} {fuel : Nat} {v : Value} {x : DataW H × List MemPlace} (ht : P.underlying t = some (.slice te)) (he : P.underlying te = some .string) (hC : P.cellsOf te = 1)
  (h : DataW.trod enc P W 0 (fun _ => true) true fuel t [v] = some x) : ∃ l, SlS 1 StrK W (Bl W.heap.size) v l :=
 open_sls StrK ht hC (by omega) (fun n cs y hy _ => by
  obtain ⟨s, e, -, hs⟩ := DataW.trod_string he hy
  exact ⟨s, e, hs⟩) h
theorem open_boolS {t te : TypeId} {fuel : Nat} {v : Value} {x : DataW H × List MemPlace} (ht : P.underlying t = some (.slice te)) (he : P.underlying te = some .bool) (hC : P.cellsOf te = 1)
  (h : DataW.trod enc P W 0 (fun _ => true) true fuel t [v] = some x) : ∃ l, SlS 1 BoolK W (Bl W.heap.size) v l :=
 open_sls BoolK ht hC (by omega) (fun n cs y hy _ => by
  obtain ⟨s, e, -⟩ := DataW.trod_bool he hy
  exact ⟨s, e⟩) h
end
set_option maxRecDepth 100000 in
theorem open_re {H : Type} {enc : TypeId × Value → H} {W : World} {r : Reach} {b0 : Nat} {v : Value} {d : DataW H} {p : List MemPlace} (hv : Value.okWide Tryz.prog W r b0 27 v) (h : DataW.Trod enc Tryz.prog W 0 (fun _ => true) true 27 v d p) :
  ∃ vp vo va r, v = .agg #[vp, vo, va] ∧ ReS W (Bl W.heap.size) vp vo va r := by
 obtain ⟨v0, v1, v2, y0, y1, y2, m, rfl, -, -, g0, g1, g2⟩ := open_agg3 Tryz.underlying27 (by kernel_rfl) (by kernel_rfl) hv h
 obtain ⟨lp, hp⟩ := open_sls (size := 1) DrvK Tryz.underlying23 (by kernel_rfl) (by omega) (fun n cs y hy hl => by
  match cs, hl with
  | [u], _ =>
   obtain ⟨l, hl⟩ := open_strS Tryz.underlying50 Tryz.underlying9 (by kernel_rfl) hy
   exact ⟨l, u, rfl, hl⟩) g0
 obtain ⟨lo, ho⟩ := open_boolS Tryz.underlying24 Tryz.underlying4 (by kernel_rfl) g1
 obtain ⟨la, ha⟩ := open_sls (α := Ac) AcK Tryz.underlying25 (size := 4) (by kernel_rfl) (by omega) (fun n cs y hy hl => by
  obtain ⟨xs, n, _, rfl, -, hlen, hf⟩ := DataW.trod_struct Tryz.underlying53 hy
  have hc1 : Tryz.prog.cellsOf 3 = 1 := by kernel_rfl
  match cs, hl, xs, hlen, hf with
  | [u0, u1, u2, u3], _, [z0, z1, z2, z3], _, hf =>
   have t0 := hf 0 _ rfl
   have t1 := hf 1 _ rfl
   have t2 := hf 2 _ rfl
   have t3 := hf 3 _ rfl
   obtain ⟨k0, rfl, h0⟩ := open_int1 (t := 3) Tryz.underlying3 (by simpa [hc1] using t0)
   obtain ⟨k1, rfl, h1⟩ := open_int1 (t := 3) Tryz.underlying3 (by simpa [hc1] using t1)
   obtain ⟨k2, rfl, h2⟩ := open_int1 (t := 3) Tryz.underlying3 (by simpa [hc1] using t2)
   obtain ⟨k3, rfl, h3⟩ := open_int1 (t := 3) Tryz.underlying3 (by simpa [hc1] using t3)
   exact ⟨⟨k0, k1, k2, k3⟩, rfl, h0, h1, h2, h3⟩) g2
 exact ⟨v0, v1, v2, ⟨lp, lo, la⟩, rfl, hp, ho, ha⟩
end Go.Proofs.YtmehadfhcdpfcaaGreat

namespace Go.Proofs.YtmehadfhcdpfcaaGreat.lawLoses
open Go.ChangeShapes Go.WideShapes Go.ChangeAt Go.RowKit
set_option linter.unusedVariables false
theorem own : ownKnob Tryz.prog.godebug = none := by kernel_rfl
theorem laidOut : laidOutB Tryz.prog = true := by kernel_rfl
set_option maxRecDepth 100000 in
theorem lifted (os : Os) (started : os.Started) (H : Type) (enc : TypeId × Value → H) :
  ReturnsInHanded {} Tryz.checked os 3 .any (Rows.truthLosesSpec.pre6 enc Tryz.prog Tryz.f3 Rows.truthLosesRow.domain false) (Rows.truthLosesSpec.post enc Tryz.prog Tryz.f3 false true false false) := by
 refine returnsInHanded_of_change (C := Tryz.checked) own started (by kernel_rfl) Tryz.func3
  (ChangeSpec.witness6 (enc := enc) (C := Tryz.checked) false ⟨#[], #[.slice none 0 0, .agg #[.slice none 0 0, .slice none 0 0, .slice none 0 0]], []⟩ 8 (by kernel_rfl) (by kernel_rfl) (by kernel_rfl) (by kernel_rfl)) ?_
 intro W base args ds gs before hval0 hW hcnd _
 have hval : ∀ (j : Nat) t v, Tryz.f3.params[j]? = some t → args[j]? = some v → Value.okWide Tryz.prog W .any base t v := hval0
 have hW' := hW
 obtain ⟨p, q, hA0, hV, rfl, hfz, hnd⟩ := hW
 have hA : DataW.TrodAll enc Tryz.prog W 0 (fun _ => true) true Tryz.f3.params.toList args.toList ds p := hA0
 rw [Tryz.params3] at hA hval
 obtain ⟨v0, vs0, d0, ds0, p0, q0, hargs, rfl, rfl, h0, r0⟩ := trodAll_cons hA
 obtain ⟨v1, vs1, d1, ds1, p1, q1, rfl, rfl, rfl, h1, r1⟩ := trodAll_cons r0
 obtain ⟨rfl, rfl, rfl⟩ := trodAll_nil r1
 obtain rfl : args = #[v0, v1] := by cases args; simp_all
 obtain ⟨rfl, rfl⟩ := trodVars_none hV
 have k0 := h0
 have lt0 : ∀ x ∈ p0, x.block < W.heap.size := by obtain ⟨m, hm⟩ := k0; exact DataW.trod_lt m _ _ _ hm
 have k1 := h1
 have lt1 : ∀ x ∈ p1, x.block < W.heap.size := by obtain ⟨m, hm⟩ := k1; exact DataW.trod_lt m _ _ _ hm
 obtain ⟨a0, len0, cap0, rfl⟩ := okWide_slice Tryz.underlying22 (hval 0 22 v0 rfl rfl)
 obtain ⟨xs, h_xs⟩ : ∃ xs, IntS W (Bl W.heap.size) (.slice a0 len0 cap0) xs := by
  obtain ⟨fuel, hf⟩ := h0
  exact open_intS Tryz.underlying22 Tryz.underlying3 (by kernel_rfl) hf
 obtain ⟨vp1, vo1, va1, raw, rfl, h_raw⟩ := open_re (hval 1 27 v1 rfl rfl) h1
 clear hA0 hval0
 refine (loses_any made_any _ vp1 vo1 va1 xs raw W h_xs h_raw).mono fun e W' ⟨he, bel⟩ => ?_
 subst he
 exact ⟨_, rfl, _, _, _, [], _, [], hW', trodAll_mk1 (shut_bool Tryz.underlying4 _), (trodAll_cons_mk (Below.trod laidOut (by kernel_rfl) (of_decide_eq_true (by kernel_rfl)) k0 bel lt0) (trodAll_cons_mk (Below.trod laidOut (by kernel_rfl) (of_decide_eq_true (by kernel_rfl)) k1 bel lt1) trodAll_mk0)), rfl, bel.frame _, fun h => by cases h⟩
theorem over : Rows.truthLosesRow.holds Tryz.pinned (OpenSpec.ofChange Rows.truthLosesSpec) :=
 OpenClaim.holds_of_wide 3 Tryz.f3 rfl rfl rfl rfl rfl rfl rfl ⟨rfl, rfl, rfl, rfl, rfl⟩ rfl rfl rfl rfl rfl (by kernel_rfl) Tryz.func3 (by kernel_rfl)
  (of_decide_eq_true (by kernel_rfl)) (by unfold Func.isWrapper; first | (rw [if_pos (by decide +kernel)]; kernel_rfl) | (rw [if_neg (by decide +kernel)]; exact ⟨rfl, rfl⟩))
  (fun os started H enc _ => lifted os started H enc)
theorem proved : Rows.TruthLosesSaid := over
#print axioms proved
end Go.Proofs.YtmehadfhcdpfcaaGreat.lawLoses
