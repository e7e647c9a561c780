import Derived.Test.YtffamkodckghgaaJNil
namespace Go.Proofs.Ytffamkodckghgaa
open Go.RowKit
set_option linter.unusedVariables false
set_option linter.unusedSimpArgs false
/-- How many bytes a crash leaves to be scanned. -/
def crashN (L : LogS) (keep : Int) : Nat := L.dur + (max 0 (min keep ((L.data.length : Int) - (L.dur : Int)))).toNat
def crashM (L : LogS) (keep : Int) : Nat := (scan (L.data.take (crashN L keep))).length * 26
def crashS (L : LogS) (keep : Int) : LogS := { L with data := L.data.take (crashM L keep), dur := crashM L keep }
theorem crashM_le (L : LogS) (keep : Int) : crashM L keep ≤ crashN L keep ∧ crashM L keep ≤ L.data.length := by
  have h := scan_le _ (L.data.take (crashN L keep)) (Nat.le_refl _)
  rw [List.length_take] at h
  unfold crashM; omega
theorem clone_any (g : Nat) (L : LogS) (w : World) (hL : LogAt 74 w g L) :
    Calls Try.prog 35 #[.pointer (some ⟨g, 0, none⟩)] w fun e w' => e = .returned (.pointer (some ⟨w.heap.size, 0, none⟩)) ∧ LogAt 74 w' w.heap.size L ∧ Below w.heap.size w w' := by
  obtain ⟨c0, c1, c2, f0, f1, f2, hlt⟩ := hL.cells
  go_enter Try.func35, Try.ntmps35
  go_wp2
  go_ret
  exact ⟨rfl, heap_alloc_new w _, (Below.refl _ _).alloc (Nat.le_refl _) _⟩

set_option maxRecDepth 100000 in
set_option maxHeartbeats 1600000 in
theorem crash_any (g : Nat) (L : LogS) (keep : Int) (w : World) (hL : LogAt 74 w g L) (hk : I64 keep) (hO : LogOk L) :
    Calls Try.prog 28 #[.pointer (some ⟨g, 0, none⟩), .int .i64 keep] w fun e w' => e = .returned (.tuple #[]) ∧ LogAt 74 w' g (crashS L keep) ∧ w.grownBy w' (some g) := by
  obtain ⟨c0, c1, c2, f0, f1, f2, hlt⟩ := hL.cells
  obtain ⟨hO1, hO2, -⟩ := hO
  obtain ⟨k0, k1⟩ := hk
  obtain ⟨n, hn⟩ : ∃ n, n = crashN L keep := ⟨_, rfl⟩
  have hsz : L.data.length ≤ 65536 := by omega
  clear hO2
  have hex : (ByteArray.extract ⟨L.data.toArray⟩ 0 n).data.toList = L.data.take n := by
    rw [ByteArray.data_extract, Array.toList_extract, List.extract_eq_take_drop]; simp
  have hsc := fun W' => scan_any (ByteArray.extract ⟨L.data.toArray⟩ 0 n) W' (by
    have : (ByteArray.extract ⟨L.data.toArray⟩ 0 n).size ≤ L.data.length := by
      have h := congrArg List.length hex
      rw [Array.length_toList, List.length_take] at h
      have : (ByteArray.extract ⟨L.data.toArray⟩ 0 n).size = (ByteArray.extract ⟨L.data.toArray⟩ 0 n).data.size := rfl
      omega
    omega)
  rw [hex] at hsc
  have hsc2 : ∀ W' : World, (W'.cell? ⟨g, 0, none⟩ = some (.string ⟨L.data.toArray⟩) ∧ W'.cell? ⟨g, 1, none⟩ = some (.int .i64 (L.dur : Nat)) ∧ LogAt 74 W' g L ∧ w.grownBy W' (some g)) → Calls Try.prog 19 #[.string (ByteArray.extract ⟨L.data.toArray⟩ 0 n)] W' fun e w' => ∃ v, e = .returned (.tuple #[v, .int .i64 (crashM L keep : Nat)]) ∧ (w'.cell? ⟨g, 0, none⟩ = some (.string ⟨L.data.toArray⟩) ∧ w'.cell? ⟨g, 1, none⟩ = some (.int .i64 (L.dur : Nat)) ∧ LogAt 74 w' g L ∧ w.grownBy w' (some g)) := by
    intro W' hS
    refine (hsc W').mono ?_
    rintro e w' ⟨v, rfl, -, hb⟩
    have hL2 := hS.2.2.1.below hb hS.2.2.1.cells.2.2.2.2.2.2
    have hc := hL2.cells
    exact ⟨v, by unfold crashM; rw [← hn], hc.1, hc.2.1, hL2, only_below hS.2.2.2 hb⟩
  have HSC := Lib.hid hsc2
  have hml := crashM_le L keep
  rw [← hn] at hml
  have hS0 : ∀ k, ((w.drewN k).cell? ⟨g, 0, none⟩ = some (.string ⟨L.data.toArray⟩) ∧ (w.drewN k).cell? ⟨g, 1, none⟩ = some (.int .i64 (L.dur : Nat)) ∧ LogAt 74 (w.drewN k) g L ∧ w.grownBy (w.drewN k) (some g)) := fun k => ⟨c0, c1, hL, only_drewN (only_refl _ _) k⟩
  have HS0 := Lib.hid hS0
  have hE : crashS L keep = { ({ L with data := L.data.take (crashM L keep) } : LogS) with dur := crashM L keep } := rfl
  have HE := Lib.hid hE
  clear hsc hsc2 hex hE hS0
  generalize crashM L keep = m at *
  by_cases hneg : keep ≤ 0
  · have hnn : n = L.dur := by rw [hn]; unfold crashN; omega
    have i1 : (if (L.data.length : Int) - (L.dur : Int) < keep then (L.data.length : Int) - (L.dur : Int) else keep) = keep := if_neg (by omega)
    have i2 : (if 0 < keep then keep else 0) = 0 := if_neg (by omega)
    have i3 : (0 : Int) ≤ (L.dur : Int) := by omega
    have i5 : IntKind.i64.wrap (L.dur : Int) = (L.dur : Int) := IntWalk.i64_in _ (by omega)
    have i4 : (L.dur : Int) ≤ (L.data.length : Int) := by omega
    clear hn
    subst hnn
    go_enter Try.func28, Try.ntmps28
    go_wp2_with fail
    go_quiet (fail)
    go_wp2_with fail
    have hSS := HS0.out (nq + 1)
    go_region_held3 (fun w' => w'.cell? ⟨g, 0, none⟩ = some (.string ⟨L.data.toArray⟩) ∧ w'.cell? ⟨g, 1, none⟩ = some (.int .i64 (L.dur : Nat)) ∧ LogAt 74 w' g L ∧ w.grownBy w' (some g))
      (first | assumption | exact HS0.out _ | go_keep)
      (first
        | (go_at_call 19; refine (HSC.out _ (by assumption)).mono ?_; rintro e w6 ⟨v6, rfl, hS6⟩))
    obtain ⟨d0, d1, hL7, hg7⟩ := hS6
    obtain ⟨c0, c1, c2, f0, f1, f2, hlt7⟩ := hL7.cells
    go_wp2_with fail
    go_end0
    refine ⟨rfl, ?_, only_set (only_set hg7 _ _) _ _⟩
    rw [HE.out]
    have h1 := (hL7.set0 (L.data.take m)).set1 m
    have e : ByteArray.extract ⟨L.data.toArray⟩ 0 m = ⟨(L.data.take m).toArray⟩ := by
      apply ByteArray.ext
      simp
    rw [e]
    exact h1
  · by_cases hbig : keep ≤ (L.data.length : Int) - (L.dur : Int)
    · have h0 : 0 < keep := Int.not_le.1 hneg
      have i6 : ((L.dur : Int) + keep).toNat = n := by rw [hn]; unfold crashN; omega
      have i1 : (if (L.data.length : Int) - (L.dur : Int) < keep then (L.data.length : Int) - (L.dur : Int) else keep) = keep := if_neg (by omega)
      have i3 : (0 : Int) ≤ (L.dur : Int) + keep := by omega
      have i4 : (L.dur : Int) + keep ≤ (L.data.length : Int) := by omega
      have i5 : IntKind.i64.wrap ((L.dur : Int) + keep) = (L.dur : Int) + keep := IntWalk.i64_in _ (by omega)
      clear hn
      go_enter Try.func28, Try.ntmps28
      go_wp2_with fail
      go_quiet (fail)
      go_wp2_with fail
      have hSS := HS0.out (nq + 1)
      go_region_held3 (fun w' => w'.cell? ⟨g, 0, none⟩ = some (.string ⟨L.data.toArray⟩) ∧ w'.cell? ⟨g, 1, none⟩ = some (.int .i64 (L.dur : Nat)) ∧ LogAt 74 w' g L ∧ w.grownBy w' (some g))
        (first | assumption | exact HS0.out _ | go_keep)
        (first
          | (go_at_call 19; refine (HSC.out _ (by assumption)).mono ?_; rintro e w6 ⟨v6, rfl, hS6⟩))
      obtain ⟨d0, d1, hL7, hg7⟩ := hS6
      obtain ⟨c0, c1, c2, f0, f1, f2, hlt7⟩ := hL7.cells
      go_wp2_with fail
      go_end0
      refine ⟨rfl, ?_, only_set (only_set hg7 _ _) _ _⟩
      rw [HE.out]
      have h1 := (hL7.set0 (L.data.take m)).set1 m
      have e : ByteArray.extract ⟨L.data.toArray⟩ 0 m = ⟨(L.data.take m).toArray⟩ := by
        apply ByteArray.ext
        simp
      rw [e]
      exact h1

    · have hnn : n = L.data.length := by rw [hn]; unfold crashN; omega
      have i1 : (L.data.length : Int) - (L.dur : Int) < keep := by omega
      have i2 : (if L.dur < L.data.length then (L.data.length : Int) - (L.dur : Int) else 0) = (L.data.length : Int) - (L.dur : Int) := by split <;> omega
      have i5 : IntKind.i64.wrap (L.data.length : Int) = (L.data.length : Int) := IntWalk.i64_in _ (by omega)
      have i4 : (L.data.length : Int) ≤ (L.data.length : Int) := by omega
      have e1 : (L.dur : Int) + ((L.data.length : Int) - (L.dur : Int)) = (L.data.length : Int) := by omega
      clear hn
      subst hnn
      go_enter Try.func28, Try.ntmps28
      go_wp2_with fail
      go_quiet (fail)
      go_wp2_with fail
      have hSS := HS0.out (nq + 1)
      go_region_held3 (fun w' => w'.cell? ⟨g, 0, none⟩ = some (.string ⟨L.data.toArray⟩) ∧ w'.cell? ⟨g, 1, none⟩ = some (.int .i64 (L.dur : Nat)) ∧ LogAt 74 w' g L ∧ w.grownBy w' (some g))
        (first | assumption | exact HS0.out _ | go_keep)
        (first
          | (go_at_call 19; refine (HSC.out _ (by assumption)).mono ?_; rintro e w6 ⟨v6, rfl, hS6⟩))
      obtain ⟨d0, d1, hL7, hg7⟩ := hS6
      obtain ⟨c0, c1, c2, f0, f1, f2, hlt7⟩ := hL7.cells
      go_wp2_with fail
      go_end0
      refine ⟨rfl, ?_, only_set (only_set hg7 _ _) _ _⟩
      rw [HE.out]
      have h1 := (hL7.set0 (L.data.take m)).set1 m
      have e : ByteArray.extract ⟨L.data.toArray⟩ 0 m = ⟨(L.data.take m).toArray⟩ := by
        apply ByteArray.ext
        simp
      rw [e]
      exact h1
end Go.Proofs.Ytffamkodckghgaa
