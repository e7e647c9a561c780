import Derived.Test.YtffamkodckghgaaJNil
namespace Go.Proofs.Ytffamkodckghgaa
open Go.RowKit
set_option linter.unusedVariables false
set_option linter.unusedSimpArgs false
theorem drain_valid (j : Nat) (h : j < 1000) : validR ⟨8, [(j : Int)]⟩ = true :=
  validR_good (by show cnt 8 = 1; decide) (fun t ht => by simp at ht; subst ht; exact okArg_iff.2 (by omega))
theorem appendS_low {L : LogS} {t : Int} {r : Rec} (h : t < L.term) : appendS L t r = (L, 106) := by unfold appendS; rw [if_pos h]
theorem appendS_ok {L : LogS} {t : Int} {r : Rec} (h : ¬ t < L.term) (hv : validR r = true) (hl : L.data.length + 26 ≤ 32768) : appendS L t r = ({ L with data := L.data ++ frameB r, term := t }, 0) := by
  unfold appendS; rw [if_neg h, if_neg (by simp [hv]), if_neg (by omega)]
theorem syncS_low {L : LogS} {t : Int} (h : t < L.term) : syncS L t = (L, 106) := by unfold syncS; rw [if_pos h]
theorem syncS_ok {L : LogS} {t : Int} (h : ¬ t < L.term) : syncS L t = ({ L with dur := L.data.length, term := t }, 0) := by unfold syncS; rw [if_neg h]

set_option maxHeartbeats 6400000 in
set_option maxRecDepth 100000 in
theorem lawFences_walk (vt : Value) (ts : List Int) (k : Int) (va : Value) (xs : List Int) (w : World) (hts : IntS w (Bl w.heap.size) vt ts) (hk : I64 k) (ha : IntS w (Bl w.heap.size) va xs) :
    Calls Try.prog 9 #[vt, .agg #[.int .i64 k, va]] w fun e w' => e = .returned (.bool true) ∧ Below w.heap.size w w' := by
  obtain ⟨At, ct, rfl, -, hmt⟩ := hts.form
  obtain ⟨A, c, rfl, -, hm⟩ := ha.form
  unfold maxLen at hmt
  obtain ⟨W0, hW0⟩ : ∃ W0, W0 = w.alloc (.cells #[.int .i64 k, .slice A xs.length c] 24) := ⟨_, rfl⟩
  have hb0 : Below w.heap.size w W0 := by rw [hW0]; exact (Below.refl _ _).alloc (Nat.le_refl _) _
  have hs0 : W0.heap.size = w.heap.size + 1 := by rw [hW0]; simp
  have hB0 : W0.heap[w.heap.size]? = some (.cells #[.int .i64 k, .slice A xs.length c] 24 (0, 0)) := by rw [hW0]; exact heap_alloc_new w _
  have z0 := cell_of_row W0 w.heap.size 0 _ _ _ hB0
  have z1 := cell_of_row W0 w.heap.size 1 _ _ _ hB0
  simp at z0 z1
  by_cases hlen : 30 < ts.length
  · have HW := Lib.hid hW0
    clear hW0 hB0 hs0
    go_enter Try.func9, Try.ntmps9
    go_wp2_with fail
    rw [← HW.out]
    refine (awake_any _).mono ?_
    rintro e w2 ⟨rfl, hb2⟩
    go_wp2
    go_ret
    exact ⟨rfl, Below.on hb0 hb0.size hb2⟩
  · obtain ⟨W, hW⟩ : ∃ W, W = W0.alloc (.cells #[.int .i64 k, .slice A xs.length c] 24) := ⟨_, rfl⟩
    have hbW : Below w.heap.size w W := by rw [hW]; exact hb0.alloc hb0.size _
    have hBW : W.heap[w.heap.size]? = some (.cells #[.int .i64 k, .slice A xs.length c] 24 (0, 0)) := by rw [hW]; exact (Below.heap_alloc W0 _ _ (by omega)).trans hB0
    have hlt0 : w.heap.size < W.heap.size := by rw [hW]; simp; omega
    have hlight : Calls Try.prog 10 #[.slice (some ⟨w.heap.size + 1, 0, none⟩) 1 1] W fun e w' => e = .returned (.bool (lightB [⟨k, xs⟩])) ∧ W = w' := by
      have h := RecS.lit1 (w := W0) (va := .slice A xs.length c) ⟨k, xs⟩ 24 hk ((ha.keep (kept_below hb0)).mono (Bl.mono (by omega)))
      rw [hs0, ← hW] at h
      exact light_any _ _ _ W h
    have HL := Lib.hid hlight
    have HW : Hid (W = (w.alloc (.cells #[.int .i64 k, .slice A xs.length c] 24)).alloc (.cells #[.int .i64 k, .slice A xs.length c] 24)) := by rw [hW, hW0]; exact rfl
    have HBW := Lib.hid hBW
    clear hlight hW hW0 hs0 hB0 hb0 hBW z0 z1
    cases hlb : lightB [⟨k, xs⟩] with
    | false =>
      rw [hlb] at HL
      clear hlb
      go_enter Try.func9, Try.ntmps9
      go_wp2_with fail
      rw [← HW.out]
      refine HL.out.mono ?_
      rintro e w1 ⟨rfl, rfl⟩
      go_wp2_with fail
      refine (awake_any _).mono ?_
      rintro e w2 ⟨rfl, hb2⟩
      go_wp2
      go_ret
      exact ⟨rfl, Below.on hbW (by omega) hb2⟩
    | true =>
      rw [hlb] at HL
      clear hlb
      go_enter Try.func9, Try.ntmps9
      go_wp2_with fail
      rw [← HW.out]
      refine HL.out.mono ?_
      rintro e w1 ⟨rfl, rfl⟩
      clear HW
      go_wp2_with fail
      refine (new_any _).mono ?_
      rintro e w2 ⟨rfl, hL2, hb2⟩
      go_wp2_with fail
      obtain ⟨g, hg⟩ : ∃ g, g = W.heap.size := ⟨_, rfl⟩
      rw [← hg] at hL2 ⊢
      have hgW : W.heap.size ≤ g := by omega
      clear hg
      go_loopg [6, 7] ts.length (fun n v6 v7 wr => ∃ (j : Nat) (L : LogS), j ≤ ts.length ∧ n = ts.length - j ∧ v7 = .int .i64 j ∧ v6 = .int .i64 L.term ∧ LogAt 74 wr g L ∧ LogOk L ∧ L.data.length ≤ 26 * j ∧ Below W.heap.size W wr)
      case atStart => exact ⟨0, ⟨[], 0, 0⟩, by omega, rfl, rfl, rfl, hL2, ⟨by simp, by simp, by simp, by simp⟩, by simp, hb2⟩
      case round =>
        obtain ⟨j, L, hj, rfl, rfl, rfl, hL, hO, hdl, hbr⟩ := hrel
        by_cases hjt : j < ts.length
        · skip
          obtain ⟨b, off, hAt, hR, hcW0, hx⟩ := (hts.keep (kept_below hbW)).at_ hjt
          subst hAt
          have hRW : b < W.heap.size := Nat.lt_of_lt_of_le hR hbW.size
          have hc := (hbr.cell (p := ⟨b, off + j, none⟩) hRW).trans hcW0
          have hfl : (frameB ⟨8, [(j : Int)]⟩).length = 26 := frameB_length _
          have HDV := Lib.hid (drain_valid j (by omega))
          have hcW := hcW0
          clear hcW0
          generalize ts[j] = x at *
          by_cases hlow : x < L.term
          · have HAL := Lib.hid (appendS_low (r := ⟨8, [(j : Int)]⟩) hlow)
            have HSL := Lib.hid (syncS_low hlow)
            by_cases hmod : j % 3 = 1
            · have hm3 : ((j : Int) % 3 == 1) = true := by simp; omega
              go_wp2_with fail
              refine (bytes_any g L wr hL).mono ?_
              rintro e w3 ⟨rfl, n3, rfl⟩
              go_upto_region 11 with fail
              obtain ⟨W3, hW3⟩ : ∃ W3, W3 = wr.drewN n3 := ⟨_, rfl⟩
              have hb3 : Below W.heap.size W W3 := by rw [hW3]; exact Below.drewN' hbr n3
              have hL3 : LogAt 74 W3 g L := by rw [hW3]; exact hL.drewN n3
              have hc3 : W3.cell? ⟨b, off + j, none⟩ = some (.int .i64 x) := by rw [hW3]; exact hc
              rw [← hW3]
              clear hW3
              obtain ⟨W4, hW4⟩ : ∃ W4, W4 = W3.alloc (.cells #[.int .i64 (j : Nat)] 3) := ⟨_, rfl⟩
              have hg3 : g < W3.heap.size := hL3.cells.2.2.2.2.2.2
              have hb4 : Below W.heap.size W W4 := by rw [hW4]; exact hb3.alloc hb3.size _
              have hL4 : LogAt 74 W4 g L := by rw [hW4]; exact hL3.below ((Below.refl _ _).alloc (Nat.le_refl _) _) hg3
              have hi4 : IntS W4 (Bl W4.heap.size) (.slice (some ⟨W3.heap.size, 0, none⟩) 1 1) [(j : Int)] := by
                have h := IntS.lit1 W3 (j : Int) 3 ⟨by omega, by omega⟩
                rw [← hW4] at h
                exact h.mono (Bl.mono (by rw [hW4]; simp))
              have HW4 := Lib.hid hW4
              have ha4 := append_any g L x 8 _ [(j : Int)] W4 hL4 hx hO ⟨by omega, by omega⟩ hi4
              rw [HAL.out] at ha4
              have HA4 := Lib.hid ha4
              clear hW4 ha4
              go_wp2_with fail
              rw [← HW4.out]
              refine HA4.out.mono ?_
              rintro e w5 ⟨rfl, hL5, hg5⟩
              have hb5 := below_only hb4 hg5 hgW hb4.size
              have hsz5 := hb5.size
              have hc5 := (hb5.cell (p := ⟨b, off + j, none⟩) hRW).trans hcW
              have hO5 : LogOk (L) := hO
              have hs5 := sync_any g (L) x w5 hL5 hx hO5
              rw [HSL.out] at hs5
              have HS5 := Lib.hid hs5
              clear hs5
              go_wp2_with fail
              refine HS5.out.mono ?_
              rintro e w6 ⟨rfl, hL6, hg6⟩
              have hb6 := below_only hb5 hg6 hgW hb5.size
              have hc6 := (hb6.cell (p := ⟨b, off + j, none⟩) hRW).trans hcW
              obtain ⟨L6, hL6e⟩ : ∃ L6 : LogS, L6 = L := ⟨_, rfl⟩
              rw [← hL6e] at hL6
              have h6t : L6.term = L.term := by rw [hL6e]
              have h6l : L6.data.length ≤ 26 * (j + 1) := by rw [hL6e]; omega
              have h6O : LogOk L6 := by rw [hL6e]; exact hO
              have h6d : L6.data = L.data := by rw [hL6e]
              have h6u : L6.dur = L.dur := by rw [hL6e]
              have H6D := Lib.hid h6d
              have H6U := Lib.hid h6u
              clear h6d h6u
              have H6T := Lib.hid h6t
              have HB6 := bytes_any g L6 w6 hL6
              rw [H6D.out, H6U.out] at HB6
              have HB := Lib.hid HB6
              clear HB6 hL6e h6t
              go_wp2_with fail
              refine HB.out.mono ?_
              rintro e w7 ⟨rfl, n7, rfl⟩
              have HT := term_any g L6 (w6.drewN n7) (hL6.drewN n7)
              rw [H6T.out] at HT
              have HTT := Lib.hid HT
              clear HT
              go_wp2_with fail
              refine HTT.out.mono ?_
              rintro e w8 ⟨rfl, rfl⟩
              go_wp2_with fail
              go_roundg (ts.length - (j + 1))
              case measure => omega
              case rel => exact ⟨j + 1, L6, by omega, rfl, by go_num, by rw [H6T.out], hL6.drewN n7, h6O, h6l, Below.drewN' hb6 n7⟩
            · have hm3 : ((j : Int) % 3 == 1) = false := by simp; omega
              go_wp2_with fail
              refine (bytes_any g L wr hL).mono ?_
              rintro e w3 ⟨rfl, n3, rfl⟩
              go_upto_region 11 with fail
              obtain ⟨W3, hW3⟩ : ∃ W3, W3 = wr.drewN n3 := ⟨_, rfl⟩
              have hb3 : Below W.heap.size W W3 := by rw [hW3]; exact Below.drewN' hbr n3
              have hL3 : LogAt 74 W3 g L := by rw [hW3]; exact hL.drewN n3
              have hc3 : W3.cell? ⟨b, off + j, none⟩ = some (.int .i64 x) := by rw [hW3]; exact hc
              rw [← hW3]
              clear hW3
              obtain ⟨W4, hW4⟩ : ∃ W4, W4 = W3.alloc (.cells #[.int .i64 (j : Nat)] 3) := ⟨_, rfl⟩
              have hg3 : g < W3.heap.size := hL3.cells.2.2.2.2.2.2
              have hb4 : Below W.heap.size W W4 := by rw [hW4]; exact hb3.alloc hb3.size _
              have hL4 : LogAt 74 W4 g L := by rw [hW4]; exact hL3.below ((Below.refl _ _).alloc (Nat.le_refl _) _) hg3
              have hi4 : IntS W4 (Bl W4.heap.size) (.slice (some ⟨W3.heap.size, 0, none⟩) 1 1) [(j : Int)] := by
                have h := IntS.lit1 W3 (j : Int) 3 ⟨by omega, by omega⟩
                rw [← hW4] at h
                exact h.mono (Bl.mono (by rw [hW4]; simp))
              have HW4 := Lib.hid hW4
              have ha4 := append_any g L x 8 _ [(j : Int)] W4 hL4 hx hO ⟨by omega, by omega⟩ hi4
              rw [HAL.out] at ha4
              have HA4 := Lib.hid ha4
              clear hW4 ha4
              go_wp2_with fail
              rw [← HW4.out]
              refine HA4.out.mono ?_
              rintro e w5 ⟨rfl, hL5, hg5⟩
              have hb5 := below_only hb4 hg5 hgW hb4.size
              have hsz5 := hb5.size
              have hc5 := (hb5.cell (p := ⟨b, off + j, none⟩) hRW).trans hcW
              obtain ⟨w6, hw6⟩ : ∃ w6, w6 = w5 := ⟨_, rfl⟩
              subst hw6
              have hL6 := hL5
              have hb6 := hb5
              have hc6 := hc5
              obtain ⟨L6, hL6e⟩ : ∃ L6 : LogS, L6 = L := ⟨_, rfl⟩
              rw [← hL6e] at hL6
              have h6t : L6.term = L.term := by rw [hL6e]
              have h6l : L6.data.length ≤ 26 * (j + 1) := by rw [hL6e]; omega
              have h6O : LogOk L6 := by rw [hL6e]; exact hO
              have h6d : L6.data = L.data := by rw [hL6e]
              have h6u : L6.dur = L.dur := by rw [hL6e]
              have H6D := Lib.hid h6d
              have H6U := Lib.hid h6u
              clear h6d h6u
              have H6T := Lib.hid h6t
              have HB6 := bytes_any g L6 w6 hL6
              rw [H6D.out, H6U.out] at HB6
              have HB := Lib.hid HB6
              clear HB6 hL6e h6t
              go_wp2_with fail
              refine HB.out.mono ?_
              rintro e w7 ⟨rfl, n7, rfl⟩
              have HT := term_any g L6 (w6.drewN n7) (hL6.drewN n7)
              rw [H6T.out] at HT
              have HTT := Lib.hid HT
              clear HT
              go_wp2_with fail
              refine HTT.out.mono ?_
              rintro e w8 ⟨rfl, rfl⟩
              go_wp2_with fail
              go_roundg (ts.length - (j + 1))
              case measure => omega
              case rel => exact ⟨j + 1, L6, by omega, rfl, by go_num, by rw [H6T.out], hL6.drewN n7, h6O, h6l, Below.drewN' hb6 n7⟩
          · have HAO := Lib.hid (appendS_ok (r := ⟨8, [(j : Int)]⟩) hlow HDV.out (by omega))
            by_cases hmod : j % 3 = 1
            · have hm3 : ((j : Int) % 3 == 1) = true := by simp; omega
              rcases Int.lt_or_eq_of_le (Int.not_lt.1 hlow) with hgt | heq
              · skip
                go_wp2_with fail
                refine (bytes_any g L wr hL).mono ?_
                rintro e w3 ⟨rfl, n3, rfl⟩
                go_upto_region 11 with fail
                obtain ⟨W3, hW3⟩ : ∃ W3, W3 = wr.drewN n3 := ⟨_, rfl⟩
                have hb3 : Below W.heap.size W W3 := by rw [hW3]; exact Below.drewN' hbr n3
                have hL3 : LogAt 74 W3 g L := by rw [hW3]; exact hL.drewN n3
                have hc3 : W3.cell? ⟨b, off + j, none⟩ = some (.int .i64 x) := by rw [hW3]; exact hc
                rw [← hW3]
                clear hW3
                obtain ⟨W4, hW4⟩ : ∃ W4, W4 = W3.alloc (.cells #[.int .i64 (j : Nat)] 3) := ⟨_, rfl⟩
                have hg3 : g < W3.heap.size := hL3.cells.2.2.2.2.2.2
                have hb4 : Below W.heap.size W W4 := by rw [hW4]; exact hb3.alloc hb3.size _
                have hL4 : LogAt 74 W4 g L := by rw [hW4]; exact hL3.below ((Below.refl _ _).alloc (Nat.le_refl _) _) hg3
                have hi4 : IntS W4 (Bl W4.heap.size) (.slice (some ⟨W3.heap.size, 0, none⟩) 1 1) [(j : Int)] := by
                  have h := IntS.lit1 W3 (j : Int) 3 ⟨by omega, by omega⟩
                  rw [← hW4] at h
                  exact h.mono (Bl.mono (by rw [hW4]; simp))
                have HW4 := Lib.hid hW4
                have ha4 := append_any g L x 8 _ [(j : Int)] W4 hL4 hx hO ⟨by omega, by omega⟩ hi4
                rw [HAO.out] at ha4
                have HA4 := Lib.hid ha4
                clear hW4 ha4
                go_wp2_with fail
                rw [← HW4.out]
                refine HA4.out.mono ?_
                rintro e w5 ⟨rfl, hL5, hg5⟩
                have hb5 := below_only hb4 hg5 hgW hb4.size
                have hsz5 := hb5.size
                have hc5 := (hb5.cell (p := ⟨b, off + j, none⟩) hRW).trans hcW
                have hO5 : LogOk ({ L with data := L.data ++ frameB ⟨8, [(j : Int)]⟩, term := x }) := ⟨by simp; have := hO.1; omega, by simp [hfl]; omega, hx⟩
                have hs5 := sync_any g ({ L with data := L.data ++ frameB ⟨8, [(j : Int)]⟩, term := x }) x w5 hL5 hx hO5
                rw [syncS_ok (L := { L with data := L.data ++ frameB ⟨8, [(j : Int)]⟩, term := x }) (t := x) (by simp)] at hs5
                have HS5 := Lib.hid hs5
                clear hs5
                go_wp2_with fail
                refine HS5.out.mono ?_
                rintro e w6 ⟨rfl, hL6, hg6⟩
                have hb6 := below_only hb5 hg6 hgW hb5.size
                have hc6 := (hb6.cell (p := ⟨b, off + j, none⟩) hRW).trans hcW
                obtain ⟨L6, hL6e⟩ : ∃ L6 : LogS, L6 = { ({ L with data := L.data ++ frameB ⟨8, [(j : Int)]⟩, term := x } : LogS) with dur := (L.data ++ frameB ⟨8, [(j : Int)]⟩).length, term := x } := ⟨_, rfl⟩
                rw [← hL6e] at hL6
                have h6t : L6.term = x := by rw [hL6e]
                have h6l : L6.data.length ≤ 26 * (j + 1) := by rw [hL6e]; simp [hfl]; omega
                have h6O : LogOk L6 := by rw [hL6e]; exact ⟨by simp, by simp [hfl]; omega, hx⟩
                have H6T := Lib.hid h6t
                have HB6 := bytes_any g L6 w6 hL6
                have HB := Lib.hid HB6
                clear HB6 hL6e h6t
                go_wp2_with fail
                refine HB.out.mono ?_
                rintro e w7 ⟨rfl, n7, rfl⟩
                have HT := term_any g L6 (w6.drewN n7) (hL6.drewN n7)
                rw [H6T.out] at HT
                have HTT := Lib.hid HT
                clear HT
                go_wp2_with fail
                refine HTT.out.mono ?_
                rintro e w8 ⟨rfl, rfl⟩
                go_wp2_with fail
                go_roundg (ts.length - (j + 1))
                case measure => omega
                case rel => exact ⟨j + 1, L6, by omega, rfl, by go_num, by rw [H6T.out], hL6.drewN n7, h6O, h6l, Below.drewN' hb6 n7⟩
              · subst heq
                go_wp2_with fail
                refine (bytes_any g L wr hL).mono ?_
                rintro e w3 ⟨rfl, n3, rfl⟩
                go_upto_region 11 with fail
                obtain ⟨W3, hW3⟩ : ∃ W3, W3 = wr.drewN n3 := ⟨_, rfl⟩
                have hb3 : Below W.heap.size W W3 := by rw [hW3]; exact Below.drewN' hbr n3
                have hL3 : LogAt 74 W3 g L := by rw [hW3]; exact hL.drewN n3
                have hc3 : W3.cell? ⟨b, off + j, none⟩ = some (.int .i64 L.term) := by rw [hW3]; exact hc
                rw [← hW3]
                clear hW3
                obtain ⟨W4, hW4⟩ : ∃ W4, W4 = W3.alloc (.cells #[.int .i64 (j : Nat)] 3) := ⟨_, rfl⟩
                have hg3 : g < W3.heap.size := hL3.cells.2.2.2.2.2.2
                have hb4 : Below W.heap.size W W4 := by rw [hW4]; exact hb3.alloc hb3.size _
                have hL4 : LogAt 74 W4 g L := by rw [hW4]; exact hL3.below ((Below.refl _ _).alloc (Nat.le_refl _) _) hg3
                have hi4 : IntS W4 (Bl W4.heap.size) (.slice (some ⟨W3.heap.size, 0, none⟩) 1 1) [(j : Int)] := by
                  have h := IntS.lit1 W3 (j : Int) 3 ⟨by omega, by omega⟩
                  rw [← hW4] at h
                  exact h.mono (Bl.mono (by rw [hW4]; simp))
                have HW4 := Lib.hid hW4
                have ha4 := append_any g L L.term 8 _ [(j : Int)] W4 hL4 hx hO ⟨by omega, by omega⟩ hi4
                rw [HAO.out] at ha4
                have HA4 := Lib.hid ha4
                clear hW4 ha4
                go_wp2_with fail
                rw [← HW4.out]
                refine HA4.out.mono ?_
                rintro e w5 ⟨rfl, hL5, hg5⟩
                have hb5 := below_only hb4 hg5 hgW hb4.size
                have hsz5 := hb5.size
                have hc5 := (hb5.cell (p := ⟨b, off + j, none⟩) hRW).trans hcW
                have hO5 : LogOk ({ L with data := L.data ++ frameB ⟨8, [(j : Int)]⟩, term := L.term }) := ⟨by simp; have := hO.1; omega, by simp [hfl]; omega, hx⟩
                have hs5 := sync_any g ({ L with data := L.data ++ frameB ⟨8, [(j : Int)]⟩, term := L.term }) L.term w5 hL5 hx hO5
                rw [syncS_ok (L := { L with data := L.data ++ frameB ⟨8, [(j : Int)]⟩, term := L.term }) (t := L.term) (by simp)] at hs5
                have HS5 := Lib.hid hs5
                clear hs5
                go_wp2_with fail
                refine HS5.out.mono ?_
                rintro e w6 ⟨rfl, hL6, hg6⟩
                have hb6 := below_only hb5 hg6 hgW hb5.size
                have hc6 := (hb6.cell (p := ⟨b, off + j, none⟩) hRW).trans hcW
                obtain ⟨L6, hL6e⟩ : ∃ L6 : LogS, L6 = { ({ L with data := L.data ++ frameB ⟨8, [(j : Int)]⟩, term := L.term } : LogS) with dur := (L.data ++ frameB ⟨8, [(j : Int)]⟩).length, term := L.term } := ⟨_, rfl⟩
                rw [← hL6e] at hL6
                have h6t : L6.term = L.term := by rw [hL6e]
                have h6l : L6.data.length ≤ 26 * (j + 1) := by rw [hL6e]; simp [hfl]; omega
                have h6O : LogOk L6 := by rw [hL6e]; exact ⟨by simp, by simp [hfl]; omega, hx⟩
                have H6T := Lib.hid h6t
                have HB6 := bytes_any g L6 w6 hL6
                have HB := Lib.hid HB6
                clear HB6 hL6e h6t
                go_wp2_with fail
                refine HB.out.mono ?_
                rintro e w7 ⟨rfl, n7, rfl⟩
                have HT := term_any g L6 (w6.drewN n7) (hL6.drewN n7)
                rw [H6T.out] at HT
                have HTT := Lib.hid HT
                clear HT
                go_wp2_with fail
                refine HTT.out.mono ?_
                rintro e w8 ⟨rfl, rfl⟩
                go_wp2_with fail
                go_roundg (ts.length - (j + 1))
                case measure => omega
                case rel => exact ⟨j + 1, L6, by omega, rfl, by go_num, by rw [H6T.out], hL6.drewN n7, h6O, h6l, Below.drewN' hb6 n7⟩
            · have hm3 : ((j : Int) % 3 == 1) = false := by simp; omega
              rcases Int.lt_or_eq_of_le (Int.not_lt.1 hlow) with hgt | heq
              · skip
                go_wp2_with fail
                refine (bytes_any g L wr hL).mono ?_
                rintro e w3 ⟨rfl, n3, rfl⟩
                go_upto_region 11 with fail
                obtain ⟨W3, hW3⟩ : ∃ W3, W3 = wr.drewN n3 := ⟨_, rfl⟩
                have hb3 : Below W.heap.size W W3 := by rw [hW3]; exact Below.drewN' hbr n3
                have hL3 : LogAt 74 W3 g L := by rw [hW3]; exact hL.drewN n3
                have hc3 : W3.cell? ⟨b, off + j, none⟩ = some (.int .i64 x) := by rw [hW3]; exact hc
                rw [← hW3]
                clear hW3
                obtain ⟨W4, hW4⟩ : ∃ W4, W4 = W3.alloc (.cells #[.int .i64 (j : Nat)] 3) := ⟨_, rfl⟩
                have hg3 : g < W3.heap.size := hL3.cells.2.2.2.2.2.2
                have hb4 : Below W.heap.size W W4 := by rw [hW4]; exact hb3.alloc hb3.size _
                have hL4 : LogAt 74 W4 g L := by rw [hW4]; exact hL3.below ((Below.refl _ _).alloc (Nat.le_refl _) _) hg3
                have hi4 : IntS W4 (Bl W4.heap.size) (.slice (some ⟨W3.heap.size, 0, none⟩) 1 1) [(j : Int)] := by
                  have h := IntS.lit1 W3 (j : Int) 3 ⟨by omega, by omega⟩
                  rw [← hW4] at h
                  exact h.mono (Bl.mono (by rw [hW4]; simp))
                have HW4 := Lib.hid hW4
                have ha4 := append_any g L x 8 _ [(j : Int)] W4 hL4 hx hO ⟨by omega, by omega⟩ hi4
                rw [HAO.out] at ha4
                have HA4 := Lib.hid ha4
                clear hW4 ha4
                go_wp2_with fail
                rw [← HW4.out]
                refine HA4.out.mono ?_
                rintro e w5 ⟨rfl, hL5, hg5⟩
                have hb5 := below_only hb4 hg5 hgW hb4.size
                have hsz5 := hb5.size
                have hc5 := (hb5.cell (p := ⟨b, off + j, none⟩) hRW).trans hcW
                obtain ⟨w6, hw6⟩ : ∃ w6, w6 = w5 := ⟨_, rfl⟩
                subst hw6
                have hL6 := hL5
                have hb6 := hb5
                have hc6 := hc5
                obtain ⟨L6, hL6e⟩ : ∃ L6 : LogS, L6 = { L with data := L.data ++ frameB ⟨8, [(j : Int)]⟩, term := x } := ⟨_, rfl⟩
                rw [← hL6e] at hL6
                have h6t : L6.term = x := by rw [hL6e]
                have h6l : L6.data.length ≤ 26 * (j + 1) := by rw [hL6e]; simp [hfl]; omega
                have h6O : LogOk L6 := by rw [hL6e]; exact ⟨by simp; have := hO.1; omega, by simp [hfl]; omega, hx⟩
                have H6T := Lib.hid h6t
                have HB6 := bytes_any g L6 w6 hL6
                have HB := Lib.hid HB6
                clear HB6 hL6e h6t
                go_wp2_with fail
                refine HB.out.mono ?_
                rintro e w7 ⟨rfl, n7, rfl⟩
                have HT := term_any g L6 (w6.drewN n7) (hL6.drewN n7)
                rw [H6T.out] at HT
                have HTT := Lib.hid HT
                clear HT
                go_wp2_with fail
                refine HTT.out.mono ?_
                rintro e w8 ⟨rfl, rfl⟩
                go_wp2_with fail
                go_roundg (ts.length - (j + 1))
                case measure => omega
                case rel => exact ⟨j + 1, L6, by omega, rfl, by go_num, by rw [H6T.out], hL6.drewN n7, h6O, h6l, Below.drewN' hb6 n7⟩
              · subst heq
                go_wp2_with fail
                refine (bytes_any g L wr hL).mono ?_
                rintro e w3 ⟨rfl, n3, rfl⟩
                go_upto_region 11 with fail
                obtain ⟨W3, hW3⟩ : ∃ W3, W3 = wr.drewN n3 := ⟨_, rfl⟩
                have hb3 : Below W.heap.size W W3 := by rw [hW3]; exact Below.drewN' hbr n3
                have hL3 : LogAt 74 W3 g L := by rw [hW3]; exact hL.drewN n3
                have hc3 : W3.cell? ⟨b, off + j, none⟩ = some (.int .i64 L.term) := by rw [hW3]; exact hc
                rw [← hW3]
                clear hW3
                obtain ⟨W4, hW4⟩ : ∃ W4, W4 = W3.alloc (.cells #[.int .i64 (j : Nat)] 3) := ⟨_, rfl⟩
                have hg3 : g < W3.heap.size := hL3.cells.2.2.2.2.2.2
                have hb4 : Below W.heap.size W W4 := by rw [hW4]; exact hb3.alloc hb3.size _
                have hL4 : LogAt 74 W4 g L := by rw [hW4]; exact hL3.below ((Below.refl _ _).alloc (Nat.le_refl _) _) hg3
                have hi4 : IntS W4 (Bl W4.heap.size) (.slice (some ⟨W3.heap.size, 0, none⟩) 1 1) [(j : Int)] := by
                  have h := IntS.lit1 W3 (j : Int) 3 ⟨by omega, by omega⟩
                  rw [← hW4] at h
                  exact h.mono (Bl.mono (by rw [hW4]; simp))
                have HW4 := Lib.hid hW4
                have ha4 := append_any g L L.term 8 _ [(j : Int)] W4 hL4 hx hO ⟨by omega, by omega⟩ hi4
                rw [HAO.out] at ha4
                have HA4 := Lib.hid ha4
                clear hW4 ha4
                go_wp2_with fail
                rw [← HW4.out]
                refine HA4.out.mono ?_
                rintro e w5 ⟨rfl, hL5, hg5⟩
                have hb5 := below_only hb4 hg5 hgW hb4.size
                have hsz5 := hb5.size
                have hc5 := (hb5.cell (p := ⟨b, off + j, none⟩) hRW).trans hcW
                obtain ⟨w6, hw6⟩ : ∃ w6, w6 = w5 := ⟨_, rfl⟩
                subst hw6
                have hL6 := hL5
                have hb6 := hb5
                have hc6 := hc5
                obtain ⟨L6, hL6e⟩ : ∃ L6 : LogS, L6 = { L with data := L.data ++ frameB ⟨8, [(j : Int)]⟩, term := L.term } := ⟨_, rfl⟩
                rw [← hL6e] at hL6
                have h6t : L6.term = L.term := by rw [hL6e]
                have h6l : L6.data.length ≤ 26 * (j + 1) := by rw [hL6e]; simp [hfl]; omega
                have h6O : LogOk L6 := by rw [hL6e]; exact ⟨by simp; have := hO.1; omega, by simp [hfl]; omega, hx⟩
                have H6T := Lib.hid h6t
                have HB6 := bytes_any g L6 w6 hL6
                have HB := Lib.hid HB6
                clear HB6 hL6e h6t
                go_wp2_with fail
                refine HB.out.mono ?_
                rintro e w7 ⟨rfl, n7, rfl⟩
                have HT := term_any g L6 (w6.drewN n7) (hL6.drewN n7)
                rw [H6T.out] at HT
                have HTT := Lib.hid HT
                clear HT
                go_wp2_with fail
                refine HTT.out.mono ?_
                rintro e w8 ⟨rfl, rfl⟩
                go_wp2_with fail
                go_roundg (ts.length - (j + 1))
                case measure => omega
                case rel => exact ⟨j + 1, L6, by omega, rfl, by go_num, by rw [H6T.out], hL6.drewN n7, h6O, h6l, Below.drewN' hb6 n7⟩
        · obtain rfl : j = ts.length := by omega
          go_wp2_with fail
          refine (crash_nil 1 _).mono ?_
          rintro e w3 ⟨rfl, rfl⟩
          go_wp2_with fail
          refine (bytes_nil _).mono ?_
          rintro e w3 ⟨rfl, rfl⟩
          go_wp2_with fail
          refine (awake_any _).mono ?_
          rintro e w3 ⟨rfl, hb3⟩
          have hb03 := Below.on hbr hbr.size hb3
          have k0 := (hb03.block _ hlt0).trans HBW.out
          have d0 := cell_of_row w3 w.heap.size 0 _ _ _ k0
          have d1 := cell_of_row w3 w.heap.size 1 _ _ _ k0
          simp at d0 d1
          clear k0
          go_wp2_with fail
          refine (append_nil 1 _ _ _).mono ?_
          rintro e w4 ⟨rfl, hb4⟩
          have hb04 := Below.on hb03 hb03.size hb4
          go_wp2_with fail
          refine (sync_nil 1 _).mono ?_
          rintro e w5 ⟨rfl, rfl⟩
          go_wp2_with fail
          refine (fence_nil 1 _).mono ?_
          rintro e w5 ⟨rfl, rfl⟩
          go_wp2_with fail
          refine (term_nil _).mono ?_
          rintro e w5 ⟨rfl, rfl⟩
          go_wp2_with fail
          refine (records_nil _).mono ?_
          rintro e w5 ⟨⟨A5, c5, rfl⟩, hb5⟩
          have hb05 := Below.on hb04 hb04.size hb5
          go_wp2_with fail
          refine (clone_nil _).mono ?_
          rintro e w6 ⟨rfl, rfl⟩
          go_wp2_with fail
          go_ret
          exact ⟨rfl, Below.on hbW hbW.size hb05⟩
end Go.Proofs.Ytffamkodckghgaa
