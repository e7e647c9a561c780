import Derived.Test.YtffamkodckghgaaJCrash
namespace Go.Proofs.Ytffamkodckghgaa
open Go.RowKit
set_option linter.unusedVariables false
set_option linter.unusedSimpArgs false
theorem extract2 (l : List UInt8) (n m : Nat) (h : m ≤ n) : ByteArray.extract (ByteArray.extract ⟨l.toArray⟩ 0 n) 0 m = ⟨(l.take m).toArray⟩ := by
  apply ByteArray.ext
  simp [List.take_take]
  omega
set_option maxRecDepth 100000 in
set_option maxHeartbeats 1600000 in
theorem refcrash_any (g : Nat) (L : LogS) (keep : Int) (w : World) (hL : LogAt 52 w g L) (hk : I64 keep) (hO : LogOk L) :
    Calls Try.prog 29 #[.pointer (some ⟨g, 0, none⟩), .int .i64 keep] w fun e w' => e = .returned (.tuple #[]) ∧ LogAt 52 w' g (crashS L keep) ∧ w.grownBy w' (some g) := by
  obtain ⟨c0, c1, c2, f0, f1, f2, hlt⟩ := hL.cells
  obtain ⟨hO1, hO2, -⟩ := hO
  obtain ⟨k0, k1⟩ := hk
  obtain ⟨n, hn⟩ : ∃ n, n = crashN L keep := ⟨_, rfl⟩
  have hsz : L.data.length ≤ 65536 := by omega
  clear hO2
  have hex : (ByteArray.extract ⟨L.data.toArray⟩ 0 n).data.toList = L.data.take n := by
    rw [ByteArray.data_extract, Array.toList_extract, List.extract_eq_take_drop]; simp
  have hxs : (ByteArray.extract ⟨L.data.toArray⟩ 0 n).size = (L.data.take n).length := by
    have h := congrArg List.length hex
    rw [Array.length_toList] at h
    exact h
  have hsc := fun W' => refscan_any (ByteArray.extract ⟨L.data.toArray⟩ 0 n) W' (by rw [hxs, List.length_take]; omega)
  rw [hex] at hsc
  have hml := crashM_le L keep
  rw [← hn] at hml
  have hnl : n ≤ L.data.length := by rw [hn]; unfold crashN; omega
  have hsc2 : ∀ W' : World, Calls Try.prog 20 #[.string (ByteArray.extract ⟨L.data.toArray⟩ 0 n)] W' fun e w' => (∃ v, e = .returned (.tuple #[v, .int .i64 (crashM L keep : Nat)])) ∧ Below W'.heap.size W' w' := by
    intro W'
    refine (hsc W').mono ?_
    rintro e w' ⟨v, rfl, -, hb⟩
    exact ⟨⟨v, by unfold crashM; rw [← hn]⟩, hb⟩
  have HSC := Lib.hid hsc2
  have hE : crashS L keep = { ({ L with data := L.data.take (crashM L keep) } : LogS) with dur := crashM L keep } := rfl
  have HE := Lib.hid hE
  have hXS : ((ByteArray.extract ⟨L.data.toArray⟩ 0 n).size : Int) = (n : Int) := by rw [hxs, List.length_take]; omega
  have HXS := Lib.hid hXS
  clear hsc hsc2 hex hE hxs hXS
  generalize crashM L keep = m at *
  have HX2 := Lib.hid (extract2 L.data n m hml.1)
  have HQ2 := Lib.hid (show (m : Int) ≤ ((ByteArray.extract ⟨L.data.toArray⟩ 0 n).size : Int) by rw [HXS.out]; omega)
  by_cases hneg : keep < 0
  · have hnn : n = L.dur := by rw [hn]; unfold crashN; omega
    have i0 : (if keep < 0 then (0 : Int) else keep) = 0 := if_pos hneg
    have i1 : (if (L.data.length : Int) - (L.dur : Int) < 0 then (L.data.length : Int) - (L.dur : Int) else 0) = 0 := if_neg (by omega)
    have i3 : (0 : Int) ≤ (L.dur : Int) := by omega
    have i5 : IntKind.i64.wrap (L.dur : Int) = (L.dur : Int) := IntWalk.i64_in _ (by omega)
    have i4 : (L.dur : Int) ≤ (L.data.length : Int) := by omega
    clear hn
    subst hnn
    go_enter Try.func29, Try.ntmps29
    go_wp2_with fail
    go_quiet (fail)
    go_wp2_with fail
    go_quiet (fail)
    go_wp2_with fail
    refine (HSC.out _).mono ?_
    rintro e w2 ⟨⟨v2, rfl⟩, hb2⟩
    have hL2 : LogAt 52 w2 g L := LogAt.below (LogAt.drewN hL _) hb2 hlt
    have hg2 : w.grownBy w2 (some g) := only_below (only_drewN (only_refl _ _) _) hb2
    obtain ⟨c0, c1, c2, f0, f1, f2, hlt2⟩ := hL2.cells
    have q1 : (0 : Int) ≤ (m : Int) := by omega
    have q2 := HQ2.out
    have hx2 := HX2.out
    go_wp2_with fail
    go_end0
    refine ⟨rfl, ?_, only_set (only_set hg2 _ _) _ _⟩
    rw [HE.out]
    exact (hL2.set0 (L.data.take m)).set1 m
  · by_cases hbig : keep ≤ (L.data.length : Int) - (L.dur : Int)
    · have i6 : ((L.dur : Int) + keep).toNat = n := by rw [hn]; unfold crashN; omega
      have i0 : (if keep < 0 then (0 : Int) else keep) = keep := if_neg hneg
      have i1 : (if (L.data.length : Int) - (L.dur : Int) < keep then (L.data.length : Int) - (L.dur : Int) else keep) = keep := if_neg (by omega)
      have i3 : (0 : Int) ≤ (L.dur : Int) + keep := by omega
      have i4 : (L.dur : Int) + keep ≤ (L.data.length : Int) := by omega
      have i5 : IntKind.i64.wrap ((L.dur : Int) + keep) = (L.dur : Int) + keep := IntWalk.i64_in _ (by omega)
      clear hn
      go_enter Try.func29, Try.ntmps29
      go_wp2_with fail
      go_quiet (fail)
      go_wp2_with fail
      go_quiet (fail)
      go_wp2_with fail
      refine (HSC.out _).mono ?_
      rintro e w2 ⟨⟨v2, rfl⟩, hb2⟩
      have hL2 : LogAt 52 w2 g L := LogAt.below (LogAt.drewN hL _) hb2 hlt
      have hg2 : w.grownBy w2 (some g) := only_below (only_drewN (only_refl _ _) _) hb2
      obtain ⟨c0, c1, c2, f0, f1, f2, hlt2⟩ := hL2.cells
      have q1 : (0 : Int) ≤ (m : Int) := by omega
      have q2 := HQ2.out
      have hx2 := HX2.out
      go_wp2_with fail
      go_end0
      refine ⟨rfl, ?_, only_set (only_set hg2 _ _) _ _⟩
      rw [HE.out]
      exact (hL2.set0 (L.data.take m)).set1 m
    · have hnn : n = L.data.length := by rw [hn]; unfold crashN; omega
      have i0 : (if keep < 0 then (0 : Int) else keep) = keep := if_neg hneg
      have i1 : (if (L.data.length : Int) - (L.dur : Int) < keep then (L.data.length : Int) - (L.dur : Int) else keep) = (L.data.length : Int) - (L.dur : Int) := if_pos (by omega)
      have i5 : IntKind.i64.wrap (L.data.length : Int) = (L.data.length : Int) := IntWalk.i64_in _ (by omega)
      have i4 : (L.data.length : Int) ≤ (L.data.length : Int) := by omega
      have e1 : (L.dur : Int) + ((L.data.length : Int) - (L.dur : Int)) = (L.data.length : Int) := by omega
      clear hn
      subst hnn
      go_enter Try.func29, Try.ntmps29
      go_wp2_with fail
      go_quiet (fail)
      go_wp2_with fail
      go_quiet (fail)
      go_wp2_with fail
      refine (HSC.out _).mono ?_
      rintro e w2 ⟨⟨v2, rfl⟩, hb2⟩
      have hL2 : LogAt 52 w2 g L := LogAt.below (LogAt.drewN hL _) hb2 hlt
      have hg2 : w.grownBy w2 (some g) := only_below (only_drewN (only_refl _ _) _) hb2
      obtain ⟨c0, c1, c2, f0, f1, f2, hlt2⟩ := hL2.cells
      have q1 : (0 : Int) ≤ (m : Int) := by omega
      have q2 := HQ2.out
      have hx2 := HX2.out
      go_wp2_with fail
      go_end0
      refine ⟨rfl, ?_, only_set (only_set hg2 _ _) _ _⟩
      rw [HE.out]
      exact (hL2.set0 (L.data.take m)).set1 m
end Go.Proofs.Ytffamkodckghgaa
