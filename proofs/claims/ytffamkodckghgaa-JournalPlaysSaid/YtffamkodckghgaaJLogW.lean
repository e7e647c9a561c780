/- The methods of a journal: walks. -/
import Derived.Test.YtffamkodckghgaaJLog
import Derived.Deep.Cut
namespace Go.Proofs.Ytffamkodckghgaa
open Go.RowKit
set_option linter.unusedVariables false
set_option linter.unusedSimpArgs false

set_option maxHeartbeats 800000 in
theorem reffence_any (g : Nat) (L : LogS) (t : Int) (w : World) (hL : LogAt 52 w g L) (ht : I64 t) (hO : LogOk L) :
    Calls Try.prog 27 #[.pointer (some ⟨g, 0, none⟩), .int .i64 t] w fun e w' => e = .returned (.int .i64 (fenceS L t).2) ∧ LogAt 52 w' g (fenceS L t).1 ∧ w.grownBy w' (some g) := by
  obtain ⟨c0, c1, c2, f0, f1, f2, hlt⟩ := hL.cells
  obtain ⟨-, -, ht0, ht1⟩ := hO
  obtain ⟨g0, g1⟩ := ht
  by_cases h : t < L.term
  · have e : fenceS L t = (L, 106) := by unfold fenceS; rw [if_pos h]
    have HE := Lib.hid e
    clear e
    go_enter Try.func27, Try.ntmps27
    go_wp2
    go_ret
    rw [HE.out]
    exact ⟨rfl, hL, only_refl _ _⟩
  · have e : fenceS L t = ({ L with term := t }, 0) := by unfold fenceS; rw [if_neg h]
    have HE := Lib.hid e
    clear e
    go_enter Try.func27, Try.ntmps27
    go_wp2
    go_ret
    rw [HE.out]
    exact ⟨rfl, hL.set2 t, only_set (only_refl _ _) _ _⟩

set_option maxHeartbeats 800000 in
theorem sync_any (g : Nat) (L : LogS) (t : Int) (w : World) (hL : LogAt 74 w g L) (ht : I64 t) (hO : LogOk L) :
    Calls Try.prog 24 #[.pointer (some ⟨g, 0, none⟩), .int .i64 t] w fun e w' => e = .returned (.int .i64 (syncS L t).2) ∧ LogAt 74 w' g (syncS L t).1 ∧ w.grownBy w' (some g) := by
  have HF := Lib.hid (fence_any g L t w hL ht hO)
  obtain ⟨-, hO2, -⟩ := hO
  by_cases h : t < L.term
  · have e : syncS L t = (L, 106) := by unfold syncS; rw [if_pos h]
    have e2 : fenceS L t = (L, 106) := by unfold fenceS; rw [if_pos h]
    rw [e2] at HF
    have HE := Lib.hid e
    clear e e2
    go_enter Try.func24, Try.ntmps24
    go_wp2_with fail
    refine HF.out.mono ?_
    rintro e w1 ⟨rfl, hL1, hg1⟩
    go_wp2
    go_ret
    rw [HE.out]
    exact ⟨rfl, hL1, hg1⟩
  · have e : syncS L t = ({ L with dur := L.data.length, term := t }, 0) := by unfold syncS; rw [if_neg h]
    have e2 : fenceS L t = ({ L with term := t }, 0) := by unfold fenceS; rw [if_neg h]
    rw [e2] at HF
    have HE := Lib.hid e
    clear e e2
    go_enter Try.func24, Try.ntmps24
    go_wp2_with fail
    refine HF.out.mono ?_
    rintro e w1 ⟨rfl, hL1, hg1⟩
    obtain ⟨c0, c1, c2, f0, f1, f2, hlt⟩ := hL1.cells
    go_wp2
    go_ret
    rw [HE.out]
    exact ⟨rfl, hL1.set1 _, only_set hg1 _ _⟩

set_option maxHeartbeats 800000 in
theorem refsync_any (g : Nat) (L : LogS) (t : Int) (w : World) (hL : LogAt 52 w g L) (ht : I64 t) (hO : LogOk L) :
    Calls Try.prog 25 #[.pointer (some ⟨g, 0, none⟩), .int .i64 t] w fun e w' => e = .returned (.int .i64 (syncS L t).2) ∧ LogAt 52 w' g (syncS L t).1 ∧ w.grownBy w' (some g) := by
  obtain ⟨c0, c1, c2, f0, f1, f2, hlt⟩ := hL.cells
  obtain ⟨-, hO2, -⟩ := hO
  by_cases h : t < L.term
  · have e : syncS L t = (L, 106) := by unfold syncS; rw [if_pos h]
    have HE := Lib.hid e
    clear e
    go_enter Try.func25, Try.ntmps25
    go_wp2
    go_ret
    rw [HE.out]
    exact ⟨rfl, hL, only_refl _ _⟩
  · have e : syncS L t = ({ L with dur := L.data.length, term := t }, 0) := by unfold syncS; rw [if_neg h]
    have HE := Lib.hid e
    clear e
    go_enter Try.func25, Try.ntmps25
    go_wp2
    go_ret
    rw [HE.out]
    exact ⟨rfl, (hL.set1 _).set2 _, only_set (only_set (only_refl _ _) _ _) _ _⟩

set_option maxRecDepth 100000 in
set_option maxHeartbeats 1600000 in
theorem append_any (g : Nat) (L : LogS) (t k : Int) (va : Value) (xs : List Int) (w : World) (hL : LogAt 74 w g L) (ht : I64 t) (hO : LogOk L) (hk : I64 k) (ha : IntS w (Bl w.heap.size) va xs) :
    Calls Try.prog 30 #[.pointer (some ⟨g, 0, none⟩), .int .i64 t, .agg #[.int .i64 k, va]] w fun e w' => e = .returned (.int .i64 (appendS L t ⟨k, xs⟩).2) ∧ LogAt 74 w' g (appendS L t ⟨k, xs⟩).1 ∧ w.grownBy w' (some g) := by
  have hlt := hL.cells.2.2.2.2.2.2
  obtain ⟨A, c, rfl, -, -⟩ := ha.form
  obtain ⟨W, hW⟩ : ∃ W, W = w.alloc (.cells #[.int .i64 k, .slice A xs.length c] 24) := ⟨_, rfl⟩
  have hbW : Below w.heap.size w W := by rw [hW]; exact (Below.refl _ _).alloc (Nat.le_refl _) _
  have hsW : w.heap.size < W.heap.size := by rw [hW]; simp
  have b0 : W.cell? ⟨w.heap.size, 0, none⟩ = some (.int .i64 k) := by rw [hW]; simp
  have b1 : W.cell? ⟨w.heap.size, 1, none⟩ = some (.slice A xs.length c) := by rw [hW]; simp
  have hLW := hL.below hbW hlt
  have hgW : w.grownBy W (some g) := only_below (only_refl _ _) hbW
  have HF := Lib.hid (frame_any k _ xs W hk ((ha.keep (kept_below hbW)).mono (Bl.mono (by omega))))
  obtain ⟨hO1, hO2, ht0, ht1⟩ := hO
  obtain ⟨g0, g1⟩ := ht
  obtain ⟨c0, c1, c2, f0, f1, f2, hltW⟩ := hLW.cells
  have HW := Lib.hid hW
  clear hW
  by_cases h : t < L.term
  · have e : appendS L t ⟨k, xs⟩ = (L, 106) := by unfold appendS; rw [if_pos h]
    have HE := Lib.hid e
    clear e
    go_enter Try.func30, Try.ntmps30
    go_upto_region 1 with fail
    rw [← HW.out]
    clear HW
    go_wp2
    go_ret
    rw [HE.out]
    exact ⟨rfl, hLW, hgW⟩
  · by_cases hv : validR ⟨k, xs⟩ = true
    · have e2 : FrameRes ⟨k, xs⟩ = .tuple #[.string ⟨(frameB ⟨k, xs⟩).toArray⟩, .int .i64 0] := by unfold FrameRes; rw [if_pos hv]
      rw [e2] at HF
      have hfl : (frameB ⟨k, xs⟩).length = 26 := frameB_length _
      have hfl1 : (frameB ⟨k, xs⟩).length ≤ 26 := by omega
      have hfl2 : 26 ≤ (frameB ⟨k, xs⟩).length := by omega
      by_cases hm : 32768 < L.data.length + 26
      · have e : appendS L t ⟨k, xs⟩ = (L, 118) := by unfold appendS; rw [if_neg h, if_neg (by simp [hv]), if_pos hm]
        have HE := Lib.hid e
        clear e e2 hv hfl
        go_enter Try.func30, Try.ntmps30
        go_upto_region 1 with fail
        rw [← HW.out]
        clear HW
        go_wp2_with fail
        refine HF.out.mono ?_
        rintro e w1 ⟨rfl, hb1⟩
        have hL1 := hLW.below hb1 hltW
        obtain ⟨c0, c1, c2, f0, f1, f2, hlt1⟩ := hL1.cells
        have hm1 : (32768 : Int) < (L.data.length : Int) + ((frameB ⟨k, xs⟩).length : Int) := by omega
        have hO21 : (L.data.length : Int) ≤ 32768 := by omega
        have hfl3 : ((frameB ⟨k, xs⟩).length : Int) ≤ 26 := by omega
        clear hm hO2 hO1 hfl1 hfl2
        go_wp2
        go_ret
        rw [HE.out]
        exact ⟨rfl, hL1, only_below hgW hb1⟩
      · have e : appendS L t ⟨k, xs⟩ = ({ L with data := L.data ++ frameB ⟨k, xs⟩, term := t }, 0) := by unfold appendS; rw [if_neg h, if_neg (by simp [hv]), if_neg hm]
        have HE := Lib.hid e
        clear e e2 hv hfl
        go_enter Try.func30, Try.ntmps30
        go_upto_region 1 with fail
        rw [← HW.out]
        clear HW
        go_wp2_with fail
        refine HF.out.mono ?_
        rintro e w1 ⟨rfl, hb1⟩
        have hL1 := hLW.below hb1 hltW
        obtain ⟨c0, c1, c2, f0, f1, f2, hlt1⟩ := hL1.cells
        have hm1 : decide ((32768 : Int) < (L.data.length : Int) + ((frameB ⟨k, xs⟩).length : Int)) = false := by simp; omega
        have hO21 : L.data.length ≤ 65536 := by omega
        clear hm hO2 hO1 hfl2
        go_wp2
        go_ret
        rw [HE.out]
        refine ⟨rfl, ?_, only_set (only_set (only_below hgW hb1) _ _) _ _⟩
        have h1 := (hL1.set0 (L.data ++ frameB ⟨k, xs⟩)).set2 t
        rw [← ByteArray.mk_append_mk] at h1
        exact h1
    · have hv' : validR ⟨k, xs⟩ = false := by simpa using hv
      have e2 : FrameRes ⟨k, xs⟩ = .tuple #[.string ⟨#[]⟩, .int .i64 117] := by unfold FrameRes; rw [if_neg hv]
      rw [e2] at HF
      have e : appendS L t ⟨k, xs⟩ = (L, 117) := by unfold appendS; rw [if_neg h, if_pos hv']
      have HE := Lib.hid e
      clear e e2 hv hv'
      go_enter Try.func30, Try.ntmps30
      go_upto_region 1 with fail
      rw [← HW.out]
      clear HW
      go_wp2_with fail
      refine HF.out.mono ?_
      rintro e w1 ⟨rfl, hb1⟩
      have hL1 := hLW.below hb1 hltW
      go_wp2
      go_ret
      rw [HE.out]
      exact ⟨rfl, hL1, only_below hgW hb1⟩

set_option maxRecDepth 100000 in
set_option maxHeartbeats 1600000 in
theorem refappend_any (g : Nat) (L : LogS) (t k : Int) (va : Value) (xs : List Int) (w : World) (hL : LogAt 52 w g L) (ht : I64 t) (hO : LogOk L) (hk : I64 k) (ha : IntS w (Bl w.heap.size) va xs) :
    Calls Try.prog 31 #[.pointer (some ⟨g, 0, none⟩), .int .i64 t, .agg #[.int .i64 k, va]] w fun e w' => e = .returned (.int .i64 (appendS L t ⟨k, xs⟩).2) ∧ LogAt 52 w' g (appendS L t ⟨k, xs⟩).1 ∧ w.grownBy w' (some g) := by
  have hlt := hL.cells.2.2.2.2.2.2
  obtain ⟨A, c, rfl, -, -⟩ := ha.form
  obtain ⟨W, hW⟩ : ∃ W, W = w.alloc (.cells #[.int .i64 k, .slice A xs.length c] 24) := ⟨_, rfl⟩
  have hbW : Below w.heap.size w W := by rw [hW]; exact (Below.refl _ _).alloc (Nat.le_refl _) _
  have hsW : w.heap.size < W.heap.size := by rw [hW]; simp
  have b0 : W.cell? ⟨w.heap.size, 0, none⟩ = some (.int .i64 k) := by rw [hW]; simp
  have b1 : W.cell? ⟨w.heap.size, 1, none⟩ = some (.slice A xs.length c) := by rw [hW]; simp
  have hLW := hL.below hbW hlt
  have hgW : w.grownBy W (some g) := only_below (only_refl _ _) hbW
  have HF := Lib.hid (refframe_any k _ xs W hk ((ha.keep (kept_below hbW)).mono (Bl.mono (by omega))))
  obtain ⟨hO1, hO2, ht0, ht1⟩ := hO
  obtain ⟨g0, g1⟩ := ht
  obtain ⟨c0, c1, c2, f0, f1, f2, hltW⟩ := hLW.cells
  have HW := Lib.hid hW
  clear hW
  by_cases h : t < L.term
  · have e : appendS L t ⟨k, xs⟩ = (L, 106) := by unfold appendS; rw [if_pos h]
    have HE := Lib.hid e
    clear e
    go_enter Try.func31, Try.ntmps31
    go_upto_region 1 with fail
    rw [← HW.out]
    clear HW
    go_wp2
    go_ret
    rw [HE.out]
    exact ⟨rfl, hLW, hgW⟩
  · by_cases hv : validR ⟨k, xs⟩ = true
    · have e2 : FrameRes ⟨k, xs⟩ = .tuple #[.string ⟨(frameB ⟨k, xs⟩).toArray⟩, .int .i64 0] := by unfold FrameRes; rw [if_pos hv]
      rw [e2] at HF
      have hfl : (frameB ⟨k, xs⟩).length = 26 := frameB_length _
      have hfl1 : (frameB ⟨k, xs⟩).length ≤ 26 := by omega
      have hfl2 : 26 ≤ (frameB ⟨k, xs⟩).length := by omega
      by_cases hm : 32768 < L.data.length + 26
      · have e : appendS L t ⟨k, xs⟩ = (L, 118) := by unfold appendS; rw [if_neg h, if_neg (by simp [hv]), if_pos hm]
        have HE := Lib.hid e
        clear e e2 hv hfl
        go_enter Try.func31, Try.ntmps31
        go_upto_region 1 with fail
        rw [← HW.out]
        clear HW
        go_wp2_with fail
        refine HF.out.mono ?_
        rintro e w1 ⟨rfl, hb1⟩
        have hL1 := hLW.below hb1 hltW
        obtain ⟨c0, c1, c2, f0, f1, f2, hlt1⟩ := hL1.cells
        have hm1 : (32768 : Int) < (L.data.length : Int) + ((frameB ⟨k, xs⟩).length : Int) := by omega
        have hO21 : (L.data.length : Int) ≤ 32768 := by omega
        have hfl3 : ((frameB ⟨k, xs⟩).length : Int) ≤ 26 := by omega
        clear hm hO2 hO1 hfl1 hfl2
        go_wp2
        go_ret
        rw [HE.out]
        exact ⟨rfl, hL1, only_below hgW hb1⟩
      · have e : appendS L t ⟨k, xs⟩ = ({ L with data := L.data ++ frameB ⟨k, xs⟩, term := t }, 0) := by unfold appendS; rw [if_neg h, if_neg (by simp [hv]), if_neg hm]
        have HE := Lib.hid e
        clear e e2 hv hfl
        go_enter Try.func31, Try.ntmps31
        go_upto_region 1 with fail
        rw [← HW.out]
        clear HW
        go_wp2_with fail
        refine HF.out.mono ?_
        rintro e w1 ⟨rfl, hb1⟩
        have hL1 := hLW.below hb1 hltW
        obtain ⟨c0, c1, c2, f0, f1, f2, hlt1⟩ := hL1.cells
        have hm1 : decide ((32768 : Int) < (L.data.length : Int) + ((frameB ⟨k, xs⟩).length : Int)) = false := by simp; omega
        have hO21 : L.data.length ≤ 65536 := by omega
        clear hm hO2 hO1 hfl2
        go_wp2
        go_ret
        rw [HE.out]
        refine ⟨rfl, ?_, only_set (only_set (only_below hgW hb1) _ _) _ _⟩
        have h1 := (hL1.set0 (L.data ++ frameB ⟨k, xs⟩)).set2 t
        rw [← ByteArray.mk_append_mk] at h1
        exact h1
    · have hv' : validR ⟨k, xs⟩ = false := by simpa using hv
      have e2 : FrameRes ⟨k, xs⟩ = .tuple #[.string ⟨#[]⟩, .int .i64 117] := by unfold FrameRes; rw [if_neg hv]
      rw [e2] at HF
      have e : appendS L t ⟨k, xs⟩ = (L, 117) := by unfold appendS; rw [if_neg h, if_pos hv']
      have HE := Lib.hid e
      clear e e2 hv hv'
      go_enter Try.func31, Try.ntmps31
      go_upto_region 1 with fail
      rw [← HW.out]
      clear HW
      go_wp2_with fail
      refine HF.out.mono ?_
      rintro e w1 ⟨rfl, hb1⟩
      have hL1 := hLW.below hb1 hltW
      go_wp2
      go_ret
      rw [HE.out]
      exact ⟨rfl, hL1, only_below hgW hb1⟩

set_option maxHeartbeats 800000 in
theorem bytes_any (g : Nat) (L : LogS) (w : World) (hL : LogAt 74 w g L) :
    Calls Try.prog 32 #[.pointer (some ⟨g, 0, none⟩)] w fun e w' => e = .returned (.tuple #[.string ⟨L.data.toArray⟩, .int .i64 (L.dur : Nat)]) ∧ ∃ n, w' = w.drewN n := by
  obtain ⟨c0, c1, c2, f0, f1, f2, hlt⟩ := hL.cells
  go_enter Try.func32, Try.ntmps32
  go_wp2_with fail
  go_quiet (fail)
  go_wp2
  go_ret2
  exact ⟨rfl, _, rfl⟩

set_option maxHeartbeats 800000 in
theorem term_any (g : Nat) (L : LogS) (w : World) (hL : LogAt 74 w g L) :
    Calls Try.prog 33 #[.pointer (some ⟨g, 0, none⟩)] w fun e w' => e = .returned (.int .i64 L.term) ∧ w = w' := by
  obtain ⟨c0, c1, c2, f0, f1, f2, hlt⟩ := hL.cells
  go_enter Try.func33, Try.ntmps33
  go_wp2
  go_ret
  exact ⟨rfl, rfl⟩

set_option maxHeartbeats 800000 in
theorem new_any (w : World) :
    Calls Try.prog 23 #[] w fun e w' => e = .returned (.pointer (some ⟨w.heap.size, 0, none⟩)) ∧ LogAt 74 w' w.heap.size ⟨[], 0, 0⟩ ∧ Below w.heap.size w w' := by
  go_enter Try.func23, Try.ntmps23
  go_wp2
  go_ret
  exact ⟨rfl, heap_alloc_new w _, (Below.refl _ _).alloc (Nat.le_refl _) _⟩

set_option maxHeartbeats 800000 in
theorem records_any (g : Nat) (L : LogS) (w : World) (hL : LogAt 74 w g L) (hO : LogOk L) :
    Calls Try.prog 34 #[.pointer (some ⟨g, 0, none⟩)] w fun e w' => ∃ v, e = .returned v ∧ RecS w' (Bl w'.heap.size) v (scan L.data) ∧ Below w.heap.size w w' := by
  have HB := Lib.hid (bytes_any g L w hL)
  have hsc := fun W' => scan_any ⟨L.data.toArray⟩ W' (by have := hO.2.1; show L.data.toArray.size ≤ _; simp; omega)
  have HSC := Lib.hid hsc
  clear hsc
  go_enter Try.func34, Try.ntmps34
  go_wp2_with fail
  refine HB.out.mono ?_
  rintro e w1 ⟨rfl, n, rfl⟩
  go_wp2_with fail
  refine (HSC.out _).mono ?_
  rintro e w2 ⟨v, rfl, hv, hb2⟩
  go_wp2
  go_ret
  exact ⟨_, rfl, hv, Below.on (Below.drewN' (Below.refl _ _) n) (Nat.le_refl _) hb2⟩
end Go.Proofs.Ytffamkodckghgaa
