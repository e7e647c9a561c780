import Derived.Test.YtffamkodckghgaaJW9
namespace Go.Proofs.Ytffamkodckghgaa
open Go.RowKit
set_option linter.unusedVariables false
set_option linter.unusedSimpArgs false
/-- The arguments of the record that JournalFrames makes. -/
def qArg (xs : List Int) (i : Nat) : Int := if h : i < xs.length then within xs[i] 1099511627776 else (i : Int)
def qArgs (xs : List Int) (n : Nat) : List Int := (List.range n).map (qArg xs)
theorem qArgs_succ (xs : List Int) (n : Nat) : qArgs xs (n + 1) = qArgs xs n ++ [qArg xs n] := by simp [qArgs, List.range_succ]
theorem qArg_range (xs : List Int) (i : Nat) (hi : i ≤ 1000) : 0 ≤ qArg xs i ∧ qArg xs i ≤ 1099511627775 := by
  unfold qArg; split
  · have := within_range xs[i] 1099511627776 (by omega); omega
  · omega
theorem qArgs_range (xs : List Int) (n : Nat) (hn : n ≤ 1000) : ∀ x ∈ qArgs xs n, 0 ≤ x ∧ x ≤ 1099511627775 := by
  intro x hx
  simp only [qArgs, List.mem_map, List.mem_range] at hx
  obtain ⟨i, hi, rfl⟩ := hx
  exact qArg_range xs i (by omega)
theorem cnt_pos {k : Int} (h1 : 1 ≤ k) (h2 : k ≤ 14) : 1 ≤ cnt k ∧ cnt k ≤ 4 := by
  unfold cnt; rw [if_neg (by omega)]
  have h : ∀ j : Nat, 1 ≤ j → j < 15 → 1 ≤ cntTab.getD j 0 ∧ cntTab.getD j 0 ≤ 4 := by
    intro j h1 h2
    have : ∀ j : Nat, j < 15 → (j = 0 ∨ (1 ≤ cntTab.getD j 0 ∧ cntTab.getD j 0 ≤ 4)) := by decide
    rcases this j h2 with h | h
    · omega
    · exact h
  exact h k.toNat (by omega) (by omega)
theorem FrameRes_some (r : Rec) : ∃ b n, FrameRes r = .tuple #[.string b, .int .i64 n] := by
  unfold FrameRes; split
  · exact ⟨_, _, rfl⟩
  · exact ⟨_, _, rfl⟩
/-- Two boxes of two cells each are kept. -/
theorem keep4 {w w' : World} {B g h : Nat} {x0 x1 y0 y1 : Value} (hb : Below B w w') (hg : g < B) (hh : h < B) (s : w.cell? ⟨g, 0, none⟩ = some x0 ∧ w.cell? ⟨g, 1, none⟩ = some x1 ∧ w.cell? ⟨h, 0, none⟩ = some y0 ∧ w.cell? ⟨h, 1, none⟩ = some y1) :
    w'.cell? ⟨g, 0, none⟩ = some x0 ∧ w'.cell? ⟨g, 1, none⟩ = some x1 ∧ w'.cell? ⟨h, 0, none⟩ = some y0 ∧ w'.cell? ⟨h, 1, none⟩ = some y1 :=
  ⟨(hb.cell (p := ⟨g, 0, none⟩) hg).trans s.1, (hb.cell (p := ⟨g, 1, none⟩) hg).trans s.2.1, (hb.cell (p := ⟨h, 0, none⟩) hh).trans s.2.2.1, (hb.cell (p := ⟨h, 1, none⟩) hh).trans s.2.2.2⟩
theorem q_valid (xs : List Int) (k : Int) (n : Nat) (hn : cnt k = (n : Int)) (hk : n ≤ 4) : validR ⟨k, qArgs xs n⟩ = true :=
  validR_good (by rw [hn]; simp [qArgs]) (fun t ht => okArg_iff.2 (qArgs_range xs n (by omega) t ht))

set_option maxHeartbeats 6400000 in
set_option maxRecDepth 100000 in
theorem lawFrames_walk (k : Int) (va : Value) (xs : List Int) (kind : Int) (w : World) (hk : I64 k) (ha : IntS w (Bl w.heap.size) va xs) (hkind : I64 kind) :
    Calls Try.prog 3 #[.agg #[.int .i64 k, va], .int .i64 kind] w fun e w' => e = .returned (.bool true) ∧ Below w.heap.size w w' := by
  obtain ⟨A, c, rfl, -, hm⟩ := ha.form
  obtain ⟨W0, hW0⟩ : ∃ W0, W0 = w.alloc (.cells #[.int .i64 k, .slice A xs.length c] 24) := ⟨_, rfl⟩
  have hb0 : Below w.heap.size w W0 := by rw [hW0]; exact (Below.refl _ _).alloc (Nat.le_refl _) _
  have hs0 : W0.heap.size = w.heap.size + 1 := by rw [hW0]; simp
  have hB0 : W0.heap[w.heap.size]? = some (.cells #[.int .i64 k, .slice A xs.length c] 24 (0, 0)) := by rw [hW0]; exact heap_alloc_new w _
  obtain ⟨W, hW⟩ : ∃ W, W = W0.alloc (.cells #[.int .i64 k, .slice A xs.length c] 24) := ⟨_, rfl⟩
  have hbW : Below w.heap.size w W := by rw [hW]; exact hb0.alloc hb0.size _
  have hBW : W.heap[w.heap.size]? = some (.cells #[.int .i64 k, .slice A xs.length c] 24 (0, 0)) := by rw [hW]; exact (Below.heap_alloc W0 _ _ (by omega)).trans hB0
  have haW : IntS W (Bl w.heap.size) (.slice A xs.length c) xs := ha.keep (kept_below hbW)
  have hlt0 : w.heap.size < W.heap.size := by rw [hW]; simp; omega
  have hlight : Calls Try.prog 10 #[.slice (some ⟨w.heap.size + 1, 0, none⟩) 1 1] W fun e w' => e = .returned (.bool (lightB [⟨k, xs⟩])) ∧ W = w' := by
    have h := RecS.lit1 (w := W0) (va := .slice A xs.length c) ⟨k, xs⟩ 24 hk ((ha.keep (kept_below hb0)).mono (Bl.mono (by omega)))
    rw [hs0, ← hW] at h
    exact light_any _ _ _ W h
  have HL := Lib.hid hlight
  have HW : Hid (W = (w.alloc (.cells #[.int .i64 k, .slice A xs.length c] 24)).alloc (.cells #[.int .i64 k, .slice A xs.length c] 24)) := by rw [hW, hW0]; exact rfl
  have HBW := Lib.hid hBW
  have hc0 := cell_of_row W w.heap.size 0 _ _ _ hBW
  have hc1 := cell_of_row W w.heap.size 1 _ _ _ hBW
  simp at hc0 hc1
  clear hlight hW hW0 hs0 hB0 hb0 hBW
  cases hlb : lightB [⟨k, xs⟩] with
  | false =>
    rw [hlb] at HL
    clear hlb
    go_enter Try.func3, Try.ntmps3
    go_wp2_with fail
    rw [← HW.out]
    refine HL.out.mono ?_
    rintro e w1 ⟨rfl, rfl⟩
    go_wp2_with fail
    refine (awake_any _).mono ?_
    rintro e w2 ⟨rfl, hb2⟩
    go_wp2
    go_ret
    exact ⟨rfl, Below.on hbW (by omega) hb2⟩
  | true =>
    have hargs := (lightB_true hlb).2 ⟨k, xs⟩ (by simp)
    simp only at hargs
    rw [hlb] at HL
    clear hlb
    have hwr := within_range kind 14 (by omega)
    obtain ⟨kq, hkq⟩ : ∃ kq, kq = 1 + within kind 14 := ⟨_, rfl⟩
    have hkq1 : 1 ≤ kq ∧ kq ≤ 14 := by omega
    have HKQ := Lib.hid hkq
    go_enter Try.func3, Try.ntmps3
    go_wp2_with fail
    rw [← HW.out]
    refine HL.out.mono ?_
    rintro e w1 ⟨rfl, rfl⟩
    clear hkq
    go_wp2_with fail
    refine (within_any kind 14 _ hkind ⟨by omega, by omega⟩).mono ?_
    rintro e w1 ⟨rfl, rfl⟩
    go_wp2_with fail
    rw [← HKQ.out]
    obtain ⟨n, hn⟩ : ∃ n : Nat, cnt kq = (n : Int) := ⟨(cnt kq).toNat, by have := cnt_pos hkq1.1 hkq1.2; omega⟩
    have hn4 : n ≤ 4 := by have := cnt_pos hkq1.1 hkq1.2; omega
    have hqv := Lib.hid (q_valid xs kq n hn hn4)
    have HN := Lib.hid hn
    clear hn
    obtain ⟨W1, hW1⟩ : ∃ W1, W1 = W.alloc (.cells #[.int .i64 kq, .slice none 0 0] 24) := ⟨_, rfl⟩
    have hb1 : Below W.heap.size W W1 := by rw [hW1]; exact (Below.refl _ _).alloc (Nat.le_refl _) _
    have hs1 : W.heap.size < W1.heap.size := by rw [hW1]; simp
    have hB1 : W1.heap[W.heap.size]? = some (.cells #[.int .i64 kq, .slice none 0 0] 24 (0, 0)) := by rw [hW1]; exact heap_alloc_new W _
    rw [← hW1]
    clear hW1 HW HL
    have HB1 := Lib.hid hB1
    clear hB1
    go_loopg [6] n (fun g v6 wr => ∃ (j : Nat) (va : Value), j ≤ n ∧ g = n - j ∧ v6 = .int .i64 j ∧ wr.ownsRow (W.heap.size + 1) 3 1 va j ((qArgs xs j).map (Value.int .i64)) ∧
      wr.heap[W.heap.size]? = some (.cells #[.int .i64 kq, va] 24 (0, 0)) ∧ Below W.heap.size W wr)
    case atStart => exact ⟨0, _, by omega, rfl, rfl, World.ownsRow_nil _ _ _ _, HB1.out, hb1⟩
    case round =>
      obtain ⟨j, va, hj, rfl, rfl, hown, l1r, hbr⟩ := hrel
      have q0 := cell_of_row wr W.heap.size 0 _ _ _ l1r
      have q1 := cell_of_row wr W.heap.size 1 _ _ _ l1r
      have hlt1 : W.heap.size < wr.heap.size := block_lt_of_cell q0
      simp at q0 q1
      have L1 := Lib.hid l1r
      clear l1r
      have c0 := (hbr.cell (p := ⟨w.heap.size, 0, none⟩) hlt0).trans hc0
      have c1 := (hbr.cell (p := ⟨w.heap.size, 1, none⟩) hlt0).trans hc1
      by_cases hjn : j < n
      · have hjc : (j : Int) < cnt kq := by rw [HN.out]; omega
        have hqr := qArg_range xs j (by omega)
        go_upto_if 37 with (go_at_call 13; refine (count_any kq _ ⟨by omega, by omega⟩).mono ?_; rintro e w2 ⟨rfl, rfl⟩)
        go_cut [7] (fun a wc => a = .int .i64 (qArg xs j) ∧ wc = wr)
        case first =>
          by_cases hlt : j < xs.length
          · have hw := within_any xs[j] 1099511627776 wr ((haW.keep (kept_below' hbr (by omega))).elem (List.getElem?_eq_getElem hlt)) ⟨by omega, by omega⟩
            have hq : qArg xs j = within xs[j] 1099511627776 := by unfold qArg; rw [dif_pos hlt]
            obtain ⟨b, off, rfl, hbb, hcell, hxr⟩ := (haW.keep (kept_below' hbr (by omega))).at_ hlt
            rw [← hq] at hw
            have HW2 := Lib.hid hw
            clear hq hw hqr
            generalize xs[j] = x at *
            go_wp2_with fail
            refine HW2.out.mono ?_
            rintro e w2 ⟨rfl, rfl⟩
            go_wp2_with fail
            go_meet
            exact ⟨rfl, rfl⟩
          · have hq := Lib.hid (show qArg xs j = (j : Int) by unfold qArg; rw [dif_neg hlt])
            go_wp2_with fail
            go_meet
            exact ⟨by rw [hq.out], rfl⟩
        case rest =>
          obtain ⟨rfl, rfl⟩ := hcut
          have HA := Lib.hid (qArgs_succ xs j)
          obtain ⟨x, hx⟩ : ∃ x, x = qArg xs j := ⟨_, rfl⟩
          rw [← hx] at hqr ⊢
          have HX := Lib.hid hx
          clear hx
          obtain ⟨A1, cap1, rfl⟩ := own_form hown
          go_wp2_with (at_builtin; refine app_int (.tmp 45) (.tmp 47) rfl rfl _ _ _ _ (by rfl) hown (by rfl) rfl (by omega) (by omega) ?_; intro v' w3 hown3 hg hat; obtain ⟨A3, c3, rfl⟩ := own_form hown3; have k1 : w3.heap[W.heap.size]? = _ := (hg.block _ hlt1 (fun e => by have := (hown.lt _ e.symm).1; omega)).trans L1.out; have d1 := cell_of_row w3 W.heap.size 1 _ _ _ k1; have f1 := frozen_of_row w3 W.heap.size 1 _ _ k1; simp at d1)
          go_roundg (n - (j + 1))
          case measure => omega
          case rel =>
            have hb3 : Below W.heap.size W w3 := hbr.grown hg (by omega) (fun b h => by have := (hown.lt b h).1; omega)
            refine ⟨j + 1, .slice A3 (j + 1) c3, by omega, rfl, by go_num, ?_, ?_, ?_⟩
            · refine ownsRow_setCell_below ?_ (by simp) _
              rw [HA.out, List.map_append, ← HX.out]
              exact hown3
            · exact heap_setCell_same _ _ 1 _ _ _ k1
            · exact hb3.setCell (by simp) _
      · obtain rfl : j = n := by omega
        have hjc : ¬ (j : Int) < cnt kq := by rw [HN.out]; omega
        obtain ⟨A1, cap1, rfl⟩ := own_form hown
        have hq : IntS wr (Bl wr.heap.size) (.slice A1 j cap1) (qArgs xs j) := IntS.own hown (fun b h => (hown.lt b h).2) (fun x hx => by have := qArgs_range xs j (by omega) x hx; unfold I64; omega)
        have haR : IntS wr (Bl wr.heap.size) (.slice A xs.length c) xs := (haW.keep (kept_below' hbr (by omega))).mono (Bl.mono (by omega))
        have S := (⟨c0, c1, q0, q1⟩ : wr.cell? ⟨w.heap.size, 0, none⟩ = _ ∧ wr.cell? ⟨w.heap.size, 1, none⟩ = _ ∧ wr.cell? ⟨W.heap.size, 0, none⟩ = _ ∧ wr.cell? ⟨W.heap.size, 1, none⟩ = _)
        have hg0 : w.heap.size < wr.heap.size := by omega
        obtain ⟨b1, n1, hF1⟩ := FrameRes_some ⟨k, xs⟩
        obtain ⟨b2, n2, hF2⟩ := FrameRes_some ⟨kq, qArgs xs j⟩
        have HF1 := Lib.hid hF1
        have HF2 := Lib.hid hF2
        clear hF1 hF2
        go_wp2_with (go_at_call 13; refine (count_any kq _ ⟨by omega, by omega⟩).mono ?_; rintro e w2 ⟨rfl, rfl⟩)
        refine (frame_any k _ xs wr hk haR).mono ?_
        rintro e w1 ⟨rfl, hb1⟩
        rw [HF1.out]
        obtain ⟨c0, c1, q0, q1⟩ := keep4 hb1 hg0 hlt1 S
        go_wp2_with fail
        refine (refframe_any k _ xs w1 hk ((haR.keep (kept_below hb1)).mono (Bl.mono hb1.size))).mono ?_
        rintro e w2 ⟨rfl, hb2⟩
        have hb12 := Below.on hb1 hb1.size hb2
        rw [HF1.out]
        obtain ⟨c0, c1, q0, q1⟩ := keep4 hb12 hg0 hlt1 S
        go_wp2_with fail
        refine (frame_any kq _ (qArgs xs j) w2 ⟨by omega, by omega⟩ ((hq.keep (kept_below hb12)).mono (Bl.mono hb12.size))).mono ?_
        rintro e w3 ⟨rfl, hb3⟩
        have hb13 := Below.on hb12 hb12.size hb3
        rw [HF2.out]
        obtain ⟨c0, c1, q0, q1⟩ := keep4 hb13 hg0 hlt1 S
        go_wp2_with fail
        refine (refframe_any kq _ (qArgs xs j) w3 ⟨by omega, by omega⟩ ((hq.keep (kept_below hb13)).mono (Bl.mono hb13.size))).mono ?_
        rintro e w4 ⟨rfl, hb4⟩
        have hb14 := Below.on hb13 hb13.size hb4
        rw [HF2.out]
        obtain ⟨c0, c1, q0, q1⟩ := keep4 hb14 hg0 hlt1 S
        have hz := hb14.size
        have hqvv : validR ⟨kq, qArgs xs j⟩ = true := hqv.out
        have hvalid := fun (W' : World) (h : IntS W' (Bl W'.heap.size) (.slice A1 j cap1) (qArgs xs j)) => valid_any kq _ (qArgs xs j) W' ⟨by omega, by omega⟩ h
        rw [hqvv] at hvalid
        have hv1 := fun (W' : World) (h : IntS W' (Bl W'.heap.size) (.slice A xs.length c) xs) => valid_any k _ xs W' hk h
        have hv2 := fun (W' : World) (h : IntS W' (Bl W'.heap.size) (.slice A xs.length c) xs) => refvalid_any k _ xs W' hk h
        obtain ⟨vb, hvb⟩ : ∃ vb, vb = validR ⟨k, xs⟩ := ⟨_, rfl⟩
        rw [← hvb] at hv1 hv2
        have A0 : ∀ W' : World, (W'.cell? ⟨w.heap.size, 0, none⟩ = some (.int .i64 k) ∧ W'.cell? ⟨w.heap.size, 1, none⟩ = some (.slice A xs.length c) ∧ W'.cell? ⟨W.heap.size, 0, none⟩ = some (.int .i64 kq) ∧ W'.cell? ⟨W.heap.size, 1, none⟩ = some (.slice A1 j cap1) ∧ Below w4.heap.size w4 W') → Calls Try.prog 11 #[] W' fun e w' => e = .returned (.bool true) ∧ (w'.cell? ⟨w.heap.size, 0, none⟩ = some (.int .i64 k) ∧ w'.cell? ⟨w.heap.size, 1, none⟩ = some (.slice A xs.length c) ∧ w'.cell? ⟨W.heap.size, 0, none⟩ = some (.int .i64 kq) ∧ w'.cell? ⟨W.heap.size, 1, none⟩ = some (.slice A1 j cap1) ∧ Below w4.heap.size w4 w') := by
          intro W' hS
          have hBl := hS.2.2.2.2
          refine (awake_any W').mono ?_
          rintro e w' ⟨rfl, hb⟩
          have hB2 := Below.on hBl hBl.size hb
          obtain ⟨t0, t1, t2, t3⟩ := keep4 hB2 (by omega) (by omega) ⟨c0, c1, q0, q1⟩
          exact ⟨rfl, t0, t1, t2, t3, hB2⟩
        have A1' : ∀ W' : World, (W'.cell? ⟨w.heap.size, 0, none⟩ = some (.int .i64 k) ∧ W'.cell? ⟨w.heap.size, 1, none⟩ = some (.slice A xs.length c) ∧ W'.cell? ⟨W.heap.size, 0, none⟩ = some (.int .i64 kq) ∧ W'.cell? ⟨W.heap.size, 1, none⟩ = some (.slice A1 j cap1) ∧ Below w4.heap.size w4 W') → Calls Try.prog 16 #[.agg #[.int .i64 k, .slice A xs.length c]] W' fun e w' => e = .returned (.bool vb) ∧ (w'.cell? ⟨w.heap.size, 0, none⟩ = some (.int .i64 k) ∧ w'.cell? ⟨w.heap.size, 1, none⟩ = some (.slice A xs.length c) ∧ w'.cell? ⟨W.heap.size, 0, none⟩ = some (.int .i64 kq) ∧ w'.cell? ⟨W.heap.size, 1, none⟩ = some (.slice A1 j cap1) ∧ Below w4.heap.size w4 w') := by
          intro W' hS
          have hBl := hS.2.2.2.2
          refine (hv1 W' ((haR.keep (kept_below (Below.on hb14 hz hBl))).mono (Bl.mono (Nat.le_trans hz hBl.size)))).mono ?_
          rintro e w' ⟨rfl, hb⟩
          have hB2 := Below.on hBl hBl.size hb
          obtain ⟨t0, t1, t2, t3⟩ := keep4 hB2 (by omega) (by omega) ⟨c0, c1, q0, q1⟩
          exact ⟨rfl, t0, t1, t2, t3, hB2⟩
        have A2 : ∀ W' : World, (W'.cell? ⟨w.heap.size, 0, none⟩ = some (.int .i64 k) ∧ W'.cell? ⟨w.heap.size, 1, none⟩ = some (.slice A xs.length c) ∧ W'.cell? ⟨W.heap.size, 0, none⟩ = some (.int .i64 kq) ∧ W'.cell? ⟨W.heap.size, 1, none⟩ = some (.slice A1 j cap1) ∧ Below w4.heap.size w4 W') → Calls Try.prog 17 #[.agg #[.int .i64 k, .slice A xs.length c]] W' fun e w' => e = .returned (.bool vb) ∧ (w'.cell? ⟨w.heap.size, 0, none⟩ = some (.int .i64 k) ∧ w'.cell? ⟨w.heap.size, 1, none⟩ = some (.slice A xs.length c) ∧ w'.cell? ⟨W.heap.size, 0, none⟩ = some (.int .i64 kq) ∧ w'.cell? ⟨W.heap.size, 1, none⟩ = some (.slice A1 j cap1) ∧ Below w4.heap.size w4 w') := by
          intro W' hS
          have hBl := hS.2.2.2.2
          refine (hv2 W' ((haR.keep (kept_below (Below.on hb14 hz hBl))).mono (Bl.mono (Nat.le_trans hz hBl.size)))).mono ?_
          rintro e w' ⟨rfl, hb⟩
          have hB2 := Below.on hBl hBl.size hb
          obtain ⟨t0, t1, t2, t3⟩ := keep4 hB2 (by omega) (by omega) ⟨c0, c1, q0, q1⟩
          exact ⟨rfl, t0, t1, t2, t3, hB2⟩
        have A3 : ∀ W' : World, (W'.cell? ⟨w.heap.size, 0, none⟩ = some (.int .i64 k) ∧ W'.cell? ⟨w.heap.size, 1, none⟩ = some (.slice A xs.length c) ∧ W'.cell? ⟨W.heap.size, 0, none⟩ = some (.int .i64 kq) ∧ W'.cell? ⟨W.heap.size, 1, none⟩ = some (.slice A1 j cap1) ∧ Below w4.heap.size w4 W') → Calls Try.prog 16 #[.agg #[.int .i64 kq, .slice A1 j cap1]] W' fun e w' => e = .returned (.bool true) ∧ (w'.cell? ⟨w.heap.size, 0, none⟩ = some (.int .i64 k) ∧ w'.cell? ⟨w.heap.size, 1, none⟩ = some (.slice A xs.length c) ∧ w'.cell? ⟨W.heap.size, 0, none⟩ = some (.int .i64 kq) ∧ w'.cell? ⟨W.heap.size, 1, none⟩ = some (.slice A1 j cap1) ∧ Below w4.heap.size w4 w') := by
          intro W' hS
          have hBl := hS.2.2.2.2
          refine (hvalid W' ((hq.keep (kept_below (Below.on hb14 hz hBl))).mono (Bl.mono (Nat.le_trans hz hBl.size)))).mono ?_
          rintro e w' ⟨rfl, hb⟩
          have hB2 := Below.on hBl hBl.size hb
          obtain ⟨t0, t1, t2, t3⟩ := keep4 hB2 (by omega) (by omega) ⟨c0, c1, q0, q1⟩
          exact ⟨rfl, t0, t1, t2, t3, hB2⟩
        have H0 := Lib.hid A0
        have H1 := Lib.hid A1'
        have H2 := Lib.hid A2
        have H3 := Lib.hid A3
        clear A0 A1' A2 A3 hvalid hv1 hv2 hvb hqvv
        have hS0 : (w4.drew.cell? ⟨w.heap.size, 0, none⟩ = some (.int .i64 k) ∧ w4.drew.cell? ⟨w.heap.size, 1, none⟩ = some (.slice A xs.length c) ∧ w4.drew.cell? ⟨W.heap.size, 0, none⟩ = some (.int .i64 kq) ∧ w4.drew.cell? ⟨W.heap.size, 1, none⟩ = some (.slice A1 j cap1) ∧ Below w4.heap.size w4 w4.drew) := ⟨c0, c1, q0, q1, (Below.refl _ _).drew⟩
        clear c0 c1 q0 q1
        have HZ := Lib.hid hS0
        go_wp2_with fail
        go_region_held3 (fun w' => w'.cell? ⟨w.heap.size, 0, none⟩ = some (.int .i64 k) ∧ w'.cell? ⟨w.heap.size, 1, none⟩ = some (.slice A xs.length c) ∧ w'.cell? ⟨W.heap.size, 0, none⟩ = some (.int .i64 kq) ∧ w'.cell? ⟨W.heap.size, 1, none⟩ = some (.slice A1 j cap1) ∧ Below w4.heap.size w4 w')
          (first | assumption | exact HZ.out | go_keep)
          (first
            | (go_at_call 11; refine (H0.out _ (by assumption)).mono ?_; rintro e w6 ⟨rfl, hS6⟩)
            | (go_at_call_of 16 (Value.agg #[.int .i64 k, .slice A xs.length c]); refine (H1.out _ (by assumption)).mono ?_; rintro e w6 ⟨rfl, hS6⟩)
            | (go_at_call 17; refine (H2.out _ (by assumption)).mono ?_; rintro e w6 ⟨rfl, hS6⟩)
            | (go_at_call 16; refine (H3.out _ (by assumption)).mono ?_; rintro e w6 ⟨rfl, hS6⟩))
        have hbf : Below w.heap.size w w4 := Below.on hbW (by omega) (Below.on hbr hbr.size hb14)
        have hsf := hbf.size
        go_wp2
        go_ret
        refine ⟨rfl, Below.on hbf hsf ?_⟩
        exact (show _ ∧ _ ∧ _ ∧ _ ∧ Below w4.heap.size w4 _ by assumption).2.2.2.2
end Go.Proofs.Ytffamkodckghgaa
