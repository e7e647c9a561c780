/- The reference's sums of rows, walked. -/
import Derived.Test.YtkpfndhocgmgjaaGW3
namespace Go.Proofs.Ytkpfndhocgmgjaa
open Go.RowKit
set_option linter.unusedVariables false
set_option linter.unusedSimpArgs false
set_option maxRecDepth 100000 in
set_option maxHeartbeats 1600000 in
theorem refcombine_any (vc vt : Value) (cs : List UInt8) (t : Mat) (m : Nat) (w : World) (hc : ByS w (Bl w.heap.size) vc cs) (ht : MatS w (Bl w.heap.size) vt t) (hl : cs.length = t.length) (h0 : 0 < t.length) (hn : t.length ≤ 64) (hw : Wide t m) (hm : m ≤ 65536) :
    Calls Try.prog 19 #[vc, vt] w fun e w' => ∃ v, e = .returned (.tuple #[v, .int .i64 0]) ∧ ByS w' (Fr w.heap.size w'.heap.size) v (combT cs t m) ∧ Below w.heap.size w w' := by
  obtain ⟨Ac, cc, rfl, -, -⟩ := hc.form
  obtain ⟨At, ct, rfl, hct, -⟩ := ht.form
  obtain ⟨bt, ot, va0, rfl, hRt, ca0, hva0⟩ := ht.at_ h0
  obtain ⟨A0, c0, rfl, -, -⟩ := hva0.form
  have hm0 := hw _ (List.getElem_mem h0)
  rw [hm0, Nat.add_zero] at ca0
  rw [hl] at hc ⊢
  have HL := Lib.hid hl
  have HA0 := Lib.hid ca0
  have e0 : ((t.length : Int) == 0) = false := by rw [beq_eq_false_iff_ne]; omega
  have hti : (0 : Int) < (t.length : Int) := by omega
  clear hl hm0 hva0 ca0
  go_enter Try.func19, Try.ntmps19
  go_wp2
  go_loopg [6] t.length (fun n v6 wr => ∃ r : Nat, r ≤ t.length ∧ n = t.length - r ∧ v6 = .int .i64 (r : Int) ∧ Hid (∃ k, wr = w.drewN k))
  case atStart => exact ⟨0, by omega, rfl, rfl, 0, rfl⟩
  case round =>
    obtain ⟨r, hr, rfl, rfl, hwr⟩ := hrel
    obtain ⟨k, rfl⟩ := hwr.out
    clear hwr
    have ca0 := HA0.out
    by_cases hlt : r < t.length
    · obtain ⟨b1, o1, va, hA1, hR1, c1, hva⟩ := ht.at_ hlt
      obtain ⟨rfl, rfl⟩ : bt = b1 ∧ ot = o1 := by injection hA1 with h; injection h with h1 h2; exact ⟨h1, h2⟩
      have hmr := hw _ (List.getElem_mem hlt)
      obtain ⟨A1, c1', rfl, -, -⟩ := hva.form
      rw [hmr] at c1
      clear hmr hA1 hva
      have hri : (r : Int) < (t.length : Int) := by omega
      have hr0 : (0 : Int) ≤ (r : Int) := by omega
      go_wp2_with fail
      go_quiet (fail)
      go_wp2
      go_roundg (t.length - (r + 1))
      case measure => omega
      case rel => exact ⟨r + 1, by omega, rfl, by go_num, ⟨_, rfl⟩⟩
    · have hrt : Hid (r = t.length) := (by omega : r = t.length)
      have hmk := mk_u8 m (by omega)
      have hB := BlkB.new (w.drewN k) m
      have hb1 : Below w.heap.size w ((w.drewN k).alloc (.cells (Array.replicate m (.int .u8 0)) 5)) := (Below.drewN' (Below.refl _ _) k).alloc (Nat.le_refl _) _
      go_wp2
      obtain ⟨g, hg⟩ : ∃ g, g = w.heap.size := ⟨_, rfl⟩
      have hB' : BlkB ((w.drewN k).alloc (.cells (Array.replicate m (.int .u8 0)) 5)) w.heap.size (List.replicate m 0) := hB
      rw [← hg] at hB' ⊢
      have hgw : w.heap.size ≤ g := by omega
      clear hB
      generalize (w.drewN k).alloc (.cells (Array.replicate m (.int .u8 0)) 5) = w1 at *
      clear hg hmk ca0
      go_loopg [8] t.length (fun n v8 wr => ∃ r : Nat, r ≤ t.length ∧ n = t.length - r ∧ v8 = .int .i64 (r : Int) ∧ BlkB wr g (combP cs t m r 0) ∧ Below w.heap.size w wr)
      case atStart => exact ⟨0, by omega, rfl, rfl, by rw [combP_start]; exact hB', hb1⟩
      case round =>
        clear hB' hb1 hrt hr hlt
        obtain ⟨r, hr, rfl, rfl, hB, hb⟩ := hrel
        by_cases hlt : r < t.length
        · obtain ⟨b1, o1, va, hA1, hR1, c1, hva⟩ := ht.at_ hlt
          obtain ⟨rfl, rfl⟩ : bt = b1 ∧ ot = o1 := by injection hA1 with h; injection h with h1 h2; exact ⟨h1, h2⟩
          obtain ⟨bc, oc, rfl, hRc, cc1⟩ := hc.at_ (k := r) (by rw [HL.out]; exact hlt)
          have hmr := hw _ (List.getElem_mem hlt)
          have hrow := getD_lt t [] hlt
          generalize t[r] = row at *
          obtain ⟨A1, c1', rfl, -, -⟩ := hva.form
          rw [hmr] at c1 hva
          have HROW := Lib.hid hrow
          have HMR := Lib.hid hmr
          have hcr := getD_lt cs 0 (i := r) (by rw [HL.out]; exact hlt)
          rw [← hcr] at cc1
          have HCT := Lib.hid c1
          have HC1 := Lib.hid cc1
          clear hrow hmr hcr hA1 c1 cc1
          go_wp2
          go_loopg [9] m (fun n v9 wx => ∃ j : Nat, j ≤ m ∧ n = m - j ∧ v9 = .int .i64 (j : Int) ∧ BlkB wx g (combP cs t m r j) ∧ Below w.heap.size w wx)
          case atStart => exact ⟨0, by omega, rfl, rfl, hB, hb⟩
          case round =>
            clear hB hb
            obtain ⟨j, hj, rfl, rfl, hB, hb⟩ := hrel
            by_cases hjt : j < m
            · obtain ⟨b2, o2, rfl, hR2, c2⟩ := hva.at_ (k := j) (by rw [HMR.out]; exact hjt)
              have hen : row[j]'(by rw [HMR.out]; exact hjt) = en t r j := by
                unfold en; rw [HROW.out, getD_lt row 0 (by rw [HMR.out]; exact hjt)]
              rw [hen] at c2
              have c1w := (hb.cell (p := ⟨bt, ot + r, none⟩) hR1).trans HCT.out
              have c2w := (hb.cell (p := ⟨b2, o2 + j, none⟩) hR2).trans c2
              have cc2 := (hb.cell (p := ⟨bc, oc + r, none⟩) hRc).trans HC1.out
              have c0 := hB.cellD (j := j) (by rw [combP_length]; exact hjt)
              have f0 := hB.free j
              obtain ⟨y, hy⟩ : ∃ y, y = en t r j := ⟨_, rfl⟩
              obtain ⟨f, hf⟩ : ∃ f, f = cs.getD r 0 := ⟨_, rfl⟩
              rw [← hy] at c2w
              rw [← hf] at cc2
              have hstep := combP_step cs t m r j hjt
              have hcf : combF cs t j r = gmul f y := by rw [hf, hy]; rfl
              rw [hcf] at hstep
              generalize (combP cs t m r j).getD j 0 = x at *
              have HS := Lib.hid hstep
              clear hen c2 hy hf hstep hcf
              go_wp2_with fail
              go_still_tail 20, (by kernel_rfl)
              still_call (Calls.eqw (refmul_any f y _))
              repeat still_step
              refine wpStill_nil ?_
              change wpList _ _ _ _ _ (World.drew _)
              go_wp2
              go_roundg (m - (j + 1))
              case measure => omega
              case rel =>
                have hB2 := (hB.set j (x ^^^ gmul f y)).drewN 1
                rw [HS.out] at hB2
                exact ⟨j + 1, by omega, rfl, by go_num, by rw [xor_int]; exact hB2, (hb.setCell hgw _).drew⟩
            · obtain rfl : j = m := by omega
              go_wp2
              go_roundg (t.length - (r + 1))
              case measure => omega
              case rel => exact ⟨r + 1, by omega, rfl, by go_num, by rw [← combP_row]; exact hB, hb⟩
        · obtain rfl : r = t.length := by omega
          go_wp2
          go_ret2
          rw [combP_end] at hB
          have hby := hB.byS (c := m) (by rw [combT_length]; exact Nat.le_refl _) (by rw [combT_length]; unfold maxLen; omega) (R := Fr w.heap.size _) ⟨hgw, hB.lt⟩
          rw [combT_length] at hby
          exact ⟨_, rfl, hby, hb⟩

theorem not_wide {t : Mat} {m : Nat} (h : ¬ Wide t m) (hb : ∀ i (h : i < t.length), t[i].length = m) : False := h fun r hr => by
  obtain ⟨i, hi, rfl⟩ := List.getElem_of_mem hr
  exact hb i hi
set_option maxRecDepth 100000 in
set_option maxHeartbeats 1600000 in
theorem refcombine_bad (vc vt : Value) (cs : List UInt8) (t : Mat) (w : World) (hc : ByS w (Bl w.heap.size) vc cs) (ht : MatS w (Bl w.heap.size) vt t) (hl : cs.length = t.length) (h0 : 0 < t.length) (hn : t.length ≤ 64) (hw : ¬ Wide t (t.getD 0 []).length) :
    Calls Try.prog 19 #[vc, vt] w fun e w' => e = .returned (.tuple #[.slice none 0 0, .int .i64 1]) ∧ Below w.heap.size w w' := by
  obtain ⟨Ac, cc, rfl, -, -⟩ := hc.form
  obtain ⟨At, ct, rfl, hct, -⟩ := ht.form
  obtain ⟨bt, ot, va0, rfl, hRt, ca0, hva0⟩ := ht.at_ h0
  obtain ⟨A0, c0, rfl, -, hm1⟩ := hva0.form
  have hm0 := congrArg List.length (getD_lt t [] h0)
  rw [← hm0, Nat.add_zero] at ca0
  rw [← hm0] at hm1
  unfold maxLen at hm1
  rw [hl] at hc ⊢
  generalize (t.getD 0 []).length = m at *
  have HA0 := Lib.hid ca0
  have HNW := Lib.hid hw
  have e0 : ((t.length : Int) == 0) = false := by rw [beq_eq_false_iff_ne]; omega
  have hti : (0 : Int) < (t.length : Int) := by omega
  clear hl hm0 hva0 ca0 hc hw
  go_enter Try.func19, Try.ntmps19
  go_wp2
  go_loopg [6] t.length (fun n v6 wr => ∃ r : Nat, r ≤ t.length ∧ n = t.length - r ∧ v6 = .int .i64 (r : Int) ∧ Hid (∃ k, wr = w.drewN k) ∧ Hid (∀ i (h : i < t.length), i < r → t[i].length = m))
  case atStart => exact ⟨0, by omega, rfl, rfl, ⟨0, rfl⟩, fun i _ h => by omega⟩
  case round =>
    obtain ⟨r, hr, rfl, rfl, hwr, HQ⟩ := hrel
    obtain ⟨k, rfl⟩ := hwr.out
    clear hwr
    have ca0 := HA0.out
    by_cases hlt : r < t.length
    · obtain ⟨b1, o1, va, hA1, hR1, c1, hva⟩ := ht.at_ hlt
      obtain ⟨rfl, rfl⟩ : bt = b1 ∧ ot = o1 := by injection hA1 with h; injection h with h1 h2; exact ⟨h1, h2⟩
      obtain ⟨A1, c1', rfl, -, hm2⟩ := hva.form
      unfold maxLen at hm2
      have c1w := c1
      obtain ⟨q, hq⟩ : ∃ q, q = t[r].length := ⟨_, rfl⟩
      rw [← hq] at c1w hm2
      have HQ2 := Lib.hid hq
      clear c1 hA1 hva hq
      have hri : (r : Int) < (t.length : Int) := by omega
      have hr0 : (0 : Int) ≤ (r : Int) := by omega
      by_cases hqm : q = m
      · have hqe : ((q : Int) != (m : Int)) = false := by simp [hqm]
        have HQM := Lib.hid hqm
        clear hqm
        go_wp2_with fail
        go_quiet (fail)
        go_wp2
        go_roundg (t.length - (r + 1))
        case measure => omega
        case rel => exact ⟨r + 1, by omega, rfl, by go_num, ⟨_, rfl⟩, fun i hi h => by
          by_cases e : i = r
          · subst e; rw [← HQ2.out, HQM.out]
          · exact HQ.out i hi (by omega)⟩
      · have hqe : ((q : Int) != (m : Int)) = true := by simp; omega
        go_wp2_with fail
        go_quiet (fail)
        go_wp2
        go_ret2
        exact ⟨rfl, Below.drewN' (Below.drewN' (Below.refl _ _) k) _⟩
    · exact absurd (not_wide HNW.out fun i hi => HQ.out i hi (by omega)) (by simp)
end Go.Proofs.Ytkpfndhocgmgjaa
