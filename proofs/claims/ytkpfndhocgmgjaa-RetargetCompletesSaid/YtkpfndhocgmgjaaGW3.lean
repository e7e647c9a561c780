/- Sums of multiples of rows, walked. -/
import Derived.Test.YtkpfndhocgmgjaaGW2
import Derived.StillTailTactics
namespace Go.Proofs.Ytkpfndhocgmgjaa
open Go.RowKit
set_option linter.unusedVariables false
set_option linter.unusedSimpArgs false
def combF (cs : List UInt8) (t : Mat) (k i : Nat) : UInt8 := gmul (cs.getD i 0) (en t i k)
def combT (cs : List UInt8) (t : Mat) (m : Nat) : List UInt8 := (List.range m).map fun k => lsum (List.range t.length) (combF cs t k)
/-- r rows are summed, and of the next one the first j bytes. -/
def combP (cs : List UInt8) (t : Mat) (m r j : Nat) : List UInt8 := (List.range m).map fun k => lsum (List.range (if k < j then r + 1 else r)) (combF cs t k)
theorem combP_length (cs : List UInt8) (t : Mat) (m r j : Nat) : (combP cs t m r j).length = m := by simp [combP]
theorem combP_start (cs : List UInt8) (t : Mat) (m : Nat) : combP cs t m 0 0 = List.replicate m 0 := by
  apply List.ext_getElem
  · simp [combP]
  · intro i h1 h2; simp [combP, lsum]
theorem combP_row (cs : List UInt8) (t : Mat) (m r : Nat) : combP cs t m r m = combP cs t m (r + 1) 0 := by
  apply List.ext_getElem
  · simp [combP]
  · intro i h1 h2
    have h3 : i < m := by simpa [combP] using h1
    simp [combP, h3]
theorem combP_end (cs : List UInt8) (t : Mat) (m : Nat) : combP cs t m t.length 0 = combT cs t m := by
  unfold combP combT; simp
theorem combP_step (cs : List UInt8) (t : Mat) (m r j : Nat) (hj : j < m) : (combP cs t m r j).set j ((combP cs t m r j).getD j 0 ^^^ combF cs t j r) = combP cs t m r (j + 1) := by
  apply List.ext_getElem
  · simp [combP]
  · intro i h1 h2
    rw [List.getElem_set]
    by_cases e : j = i
    · subst e
      rw [if_pos rfl, getD_lt _ _ (by simpa [combP] using hj)]
      simp only [combP, List.getElem_map, List.getElem_range]
      rw [if_neg (by omega), if_pos (by omega), List.range_succ, lsum_append]
      simp [lsum]
    · rw [if_neg e]
      simp only [combP, List.getElem_map, List.getElem_range]
      by_cases h3 : i < j
      · rw [if_pos h3, if_pos (by omega)]
      · rw [if_neg h3, if_neg (by omega)]
theorem combT_length (cs : List UInt8) (t : Mat) (m : Nat) : (combT cs t m).length = m := by simp [combT]
theorem Calls.eqw {P : Program} {f : FuncId} {args : Array Value} {w : World} {v : Value} (h : Calls P f args w fun e w' => e = .returned v ∧ w = w') : Calls P f args w fun e w' => e = .returned v ∧ w' = w := h.mono fun _ _ ⟨a, b⟩ => ⟨a, b.symm⟩

set_option maxRecDepth 100000 in
set_option maxHeartbeats 1600000 in
theorem combine_any (vc vt : Value) (cs : List UInt8) (t : Mat) (m : Nat) (w : World) (hc : ByS w (Bl w.heap.size) vc cs) (ht : MatS w (Bl w.heap.size) vt t) (hl : cs.length = t.length) (h0 : 0 < t.length) (hn : t.length ≤ 64) (hw : Wide t m) (hm : m ≤ 65536) :
    Calls Try.prog 28 #[vc, vt] w fun e w' => ∃ v, e = .returned (.tuple #[v, .int .i64 0]) ∧ ByS w' (Fr w.heap.size w'.heap.size) v (combT cs t m) ∧ Below w.heap.size w w' := by
  obtain ⟨Ac, cc, rfl, -, -⟩ := hc.form
  obtain ⟨At, ct, rfl, hct, -⟩ := ht.form
  obtain ⟨bt, ot, va0, rfl, hRt, ca0, hva0⟩ := ht.at_ h0
  obtain ⟨A0, c0, rfl, -, -⟩ := hva0.form
  have hm0 := hw _ (List.getElem_mem h0)
  rw [hm0, Nat.add_zero] at ca0
  rw [hl] at hc ⊢
  have HL := Lib.hid hl
  have hmk := mk_u8 m (by omega)
  have hB := BlkB.new w m
  have hb1 : Below w.heap.size w (w.alloc (.cells (Array.replicate m (.int .u8 0)) 5)) := (Below.refl _ _).alloc (Nat.le_refl _) _
  have e0 : ((t.length : Int) == 0) = false := by rw [beq_eq_false_iff_ne]; omega
  have hti : (0 : Int) < (t.length : Int) := by omega
  clear hl hm0 hva0
  go_enter Try.func28, Try.ntmps28
  go_wp2
  obtain ⟨g, hg⟩ : ∃ g, g = w.heap.size := ⟨_, rfl⟩
  rw [← hg] at hB ⊢
  have hgw : w.heap.size ≤ g := by omega
  generalize w.alloc (.cells (Array.replicate m (.int .u8 0)) 5) = w1 at *
  clear hg hmk ca0
  go_loopg [28] t.length (fun n v28 wr => ∃ r : Nat, r ≤ t.length ∧ n = t.length - r ∧ v28 = .int .i64 (r : Int) ∧ BlkB wr g (combP cs t m r 0) ∧ Below w.heap.size w wr)
  case atStart => exact ⟨0, by omega, rfl, rfl, by rw [combP_start]; exact hB, hb1⟩
  case round =>
    clear hB hb1
    obtain ⟨r, hr, rfl, rfl, hB, hb⟩ := hrel
    by_cases hlt : r < t.length
    · obtain ⟨b1, o1, va, hA1, hR1, c1, hva⟩ := ht.at_ hlt
      obtain ⟨rfl, rfl⟩ : bt = b1 ∧ ot = o1 := by injection hA1 with h; injection h with h1 h2; exact ⟨h1, h2⟩
      obtain ⟨bc, oc, rfl, hRc, cc1⟩ := hc.at_ (k := r) (by rw [HL.out]; exact hlt)
      have hmr := hw _ (List.getElem_mem hlt)
      have hrow := getD_lt t [] hlt
      generalize t[r] = row at *
      obtain ⟨A1, c1', rfl, -, -⟩ := hva.form
      rw [hmr] at c1 hva
      have HROW := Lib.hid hrow
      have HMR := Lib.hid hmr
      have hcr := getD_lt cs 0 (i := r) (by rw [HL.out]; exact hlt)
      rw [← hcr] at cc1
      have c1w := (hb.cell (p := ⟨bt, ot + r, none⟩) hR1).trans c1
      have HC1 := Lib.hid cc1
      clear hrow hmr hcr hA1 c1 cc1
      go_wp2
      go_loopg [40] m (fun n v40 wx => ∃ j : Nat, j ≤ m ∧ n = m - j ∧ v40 = .int .i64 (j : Int) ∧ BlkB wx g (combP cs t m r j) ∧ Below w.heap.size w wx)
      case atStart => exact ⟨0, by omega, rfl, rfl, hB, hb⟩
      case round =>
        clear hB hb c1w
        obtain ⟨j, hj, rfl, rfl, hB, hb⟩ := hrel
        by_cases hjt : j < m
        · obtain ⟨b2, o2, rfl, hR2, c2⟩ := hva.at_ (k := j) (by rw [HMR.out]; exact hjt)
          have hen : row[j]'(by rw [HMR.out]; exact hjt) = en t r j := by
            unfold en; rw [HROW.out, getD_lt row 0 (by rw [HMR.out]; exact hjt)]
          rw [hen] at c2
          have c2w := (hb.cell (p := ⟨b2, o2 + j, none⟩) hR2).trans c2
          have cc2 := (hb.cell (p := ⟨bc, oc + r, none⟩) hRc).trans HC1.out
          have c0 := hB.cellD (j := j) (by rw [combP_length]; exact hjt)
          have f0 := hB.free j
          obtain ⟨y, hy⟩ : ∃ y, y = en t r j := ⟨_, rfl⟩
          obtain ⟨f, hf⟩ : ∃ f, f = cs.getD r 0 := ⟨_, rfl⟩
          rw [← hy] at c2w
          rw [← hf] at cc2
          have hstep := combP_step cs t m r j hjt
          have hcf : combF cs t j r = gmul f y := by rw [hf, hy]; rfl
          rw [hcf] at hstep
          generalize (combP cs t m r j).getD j 0 = x at *
          have HS := Lib.hid hstep
          clear hen c2 hy hf hstep hcf
          go_wp2_with fail
          go_still_tail 12, (by kernel_rfl)
          still_call (Calls.eqw (mul_any f y _))
          repeat still_step
          refine wpStill_nil ?_
          change wpList _ _ _ _ _ (World.drew _)
          go_wp2
          go_roundg (m - (j + 1))
          case measure => omega
          case rel =>
            have hB2 := (hB.set j (x ^^^ gmul f y)).drewN 1
            rw [HS.out] at hB2
            exact ⟨j + 1, by omega, rfl, by go_num, by rw [xor_int]; exact hB2, (hb.setCell hgw _).drew⟩
        · obtain rfl : j = m := by omega
          go_wp2
          go_roundg (t.length - (r + 1))
          case measure => omega
          case rel => exact ⟨r + 1, by omega, rfl, by go_num, by rw [← combP_row]; exact hB, hb⟩
    · obtain rfl : r = t.length := by omega
      go_wp2
      go_ret2
      rw [combP_end] at hB
      have hby := hB.byS (c := m) (by rw [combT_length]; exact Nat.le_refl _) (by rw [combT_length]; unfold maxLen; omega) (R := Fr w.heap.size _) ⟨hgw, hB.lt⟩
      rw [combT_length] at hby
      exact ⟨_, rfl, hby, hb⟩
end Go.Proofs.Ytkpfndhocgmgjaa
