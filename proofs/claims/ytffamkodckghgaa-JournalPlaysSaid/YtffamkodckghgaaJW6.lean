import Derived.Test.YtffamkodckghgaaJW5
import Derived.Deep.RegionLaw
import Derived.Deep.AppendLies
namespace Go.Proofs.Ytffamkodckghgaa
open Go.RowKit
set_option linter.unusedVariables false
set_option linter.unusedSimpArgs false
set_option maxHeartbeats 3200000 in
theorem first_long (s0 : ByteArray) (w : World) (hs : 26 ≤ s0.size) (hm : s0.size ≤ maxLen) :
    Calls Try.prog 41 #[.string s0] w (ParseRes (recOf (s0.data.toList.take 26)) (isFrame (s0.data.toList.take 26)) w) := by
  obtain ⟨s, hse⟩ : ∃ s : ByteArray, s = s0.extract 0 26 := ⟨_, rfl⟩
  have hsl : s.data.toList = s0.data.toList.take 26 := by rw [hse]; simp
  have hs0 : s.size = 26 := by rw [hse]; simp; omega
  rw [← hsl]
  have HSE := Lib.hid hse
  have HS := Lib.hid hs0
  have hs1 : 26 ≤ s.size := by omega
  have hs2 : s.size ≤ 26 := by omega
  unfold maxLen at hm
  clear hs0 hsl hse
  have hkr := kindOf_range s.data.toList
  have h1s : 1 < s.size := by omega
  have hk2 : (s[1].toNat : Int) = kindOf s.data.toList := (kindOf_at s h1s).symm
  obtain ⟨k, hke⟩ : ∃ k, k = kindOf s.data.toList := ⟨_, rfl⟩
  rw [← hke] at hk2 hkr
  have HK := Lib.hid hke
  have hcr := cnt_range k
  clear hke
  obtain ⟨W, hW⟩ : ∃ W, W = (w.alloc (.cells #[.int .i64 0, .slice none 0 0] 24)).alloc (.cells #[.int .i64 k, .slice none 0 0] 24) := ⟨_, rfl⟩
  have hbW : Below w.heap.size w W := by rw [hW]; exact ((Below.refl _ _).alloc (Nat.le_refl _) _).alloc (by simp) _
  have hWs : w.heap.size + 2 ≤ W.heap.size := by rw [hW]; simp
  have hB0 : W.heap[w.heap.size]? = some (.cells #[.int .i64 0, .slice none 0 0] 24 (0, 0)) := by rw [hW]; exact heap_alloc2_old _ _ _
  have hB1 : W.heap[w.heap.size + 1]? = some (.cells #[.int .i64 k, .slice none 0 0] 24 (0, 0)) := by rw [hW]; exact heap_alloc2_new _ _ _
  have HW := Lib.hid hW
  have H0 := Lib.hid hB0
  have H1 := Lib.hid hB1
  clear hW hB0 hB1
  go_enter Try.func41, Try.ntmps41
  go_upto_region 4 with fail
  rw [← HSE.out]
  go_wp2_with fail
  rw [← HW.out]
  clear HW
  obtain ⟨n, hn⟩ : ∃ n, n = (cnt k).toNat := ⟨_, rfl⟩
  have hn4 : n ≤ 4 := by omega
  have hnk : ∀ j : Nat, (j : Int) < cnt k ↔ j < n := by intro j; omega
  have HN := Lib.hid hn
  have HNK := Lib.hid hnk
  clear hn hnk
  go_loopg [5] n (fun g v5 wr => ∃ (j : Nat) (va : Value), j ≤ n ∧ g = n - j ∧ v5 = .int .i64 j ∧ wr.ownsRow (w.heap.size + 2) 3 1 va j ((argsTo s.data.toList j).map (Value.int .i64)) ∧
    wr.heap[w.heap.size]? = some (.cells #[.int .i64 0, .slice none 0 0] 24 (0, 0)) ∧ wr.heap[w.heap.size + 1]? = some (.cells #[.int .i64 k, va] 24 (0, 0)) ∧ Below w.heap.size w wr)
  case atStart => exact ⟨0, _, by omega, rfl, rfl, World.ownsRow_nil _ _ _ _, H0.out, H1.out, hbW⟩
  case round =>
    obtain ⟨j, va, hj, rfl, rfl, hown, l0r, l1r, hbr⟩ := hrel
    have c0 := cell_of_row wr (w.heap.size + 1) 0 _ _ _ l1r
    have c1 := cell_of_row wr (w.heap.size + 1) 1 _ _ _ l1r
    have f1 := frozen_of_row wr (w.heap.size + 1) 1 _ _ l1r
    have hlt1 : w.heap.size + 1 < wr.heap.size := block_lt_of_cell c0
    simp at c0 c1
    have L0 := Lib.hid l0r
    have L1 := Lib.hid l1r
    have HA := Lib.hid (argsTo_succ s.data.toList j)
    obtain ⟨A1, cap1, rfl⟩ := own_form hown
    clear l0r l1r
    by_cases hjn : j < n
    · have hjc : (j : Int) < cnt k := (HNK.out j).2 hjn
      go_wp2_with (go_at_call 13; refine (count_any k _ ⟨by omega, by omega⟩).mono ?_; rintro e w2 ⟨rfl, rfl⟩)
      obtain ⟨i0, hi0, hz0, hz1, hz2⟩ := info_parts info_int
      have e1 : IntKind.i64.wrap (5 * (j : Int)) = 5 * (j : Int) := IntWalk.i64_in _ (by omega)
      have e2 : IntKind.i64.wrap (2 + 5 * (j : Int)) = 2 + 5 * (j : Int) := IntWalk.i64_in _ (by omega)
      have e3 : IntKind.i64.wrap (7 + 5 * (j : Int)) = 7 + 5 * (j : Int) := IntWalk.i64_in _ (by omega)
      have t1 : (2 + 5 * (j : Int)).toNat = 2 + 5 * j := by omega
      have t2 : (7 + 5 * (j : Int)).toNat = 7 + 5 * j := by omega
      have p1 : (0 : Int) ≤ 2 + 5 * (j : Int) := by omega
      have p2 : 2 + 5 * (j : Int) ≤ 7 + 5 * (j : Int) := by omega
      have p3 : 7 + 5 * (j : Int) ≤ (s.size : Int) := by omega
      have hnum : ∀ W', Calls Try.prog 44 #[.string (s.extract (2 + 5 * j) (7 + 5 * j))] W' fun e w' => e = .returned (.int .i64 (argOf s.data.toList j)) ∧ W' = w' := by
        intro W'
        have h := number_any (s.extract (2 + 5 * j) (7 + 5 * j)) W' (by simp; omega)
        have e : ((num (s.extract (2 + 5 * j) (7 + 5 * j)).data.toList : Nat) : Int) = argOf s.data.toList j := by
          unfold argOf
          rw [show 2 + j * 5 = 2 + 5 * j from by omega]
          rw [ByteArray.data_extract, Array.toList_extract]
          rw [List.extract_eq_take_drop]
          rw [show 7 + 5 * j - (2 + 5 * j) = 5 from by omega]
        rw [e] at h
        exact h
      have HNum := Lib.hid hnum
      clear hnum
      go_wp2_with fail
      go_region_law (first
          | (refine step_append_lies _ (by rfl) _ _ _ (by rfl) (w.heap.size + 2) 3 i0 _ 1 8 Try.underlying22 hi0 hz0 hz1 hz2 rfl (by omega) _ j _ (by rfl) ((hown.alloc _).drew) ⟨wr.heap.size, 0, none⟩ 1 1 [.int .i64 (argOf s.data.toList j)] (by rfl) (by rfl) (World.news_of_block (cs := #[.int .i64 (argOf s.data.toList j)]) (t := 3) (fr := (0, 0)) (heap_alloc_new wr _)) (by simp [Value.oneCell']) (by omega) (by unfold maxLen; omega) (by omega) (by simp; omega) (wr.heap.size + 1) (by simp) ?_; intro gg cap w3 hown3 hg hat hlt3; have k1 : w3.heap[w.heap.size + 1]? = _ := ((hg.block _ (by simp; omega) (fun e => by have := (hown.lt _ e.symm).1; omega)).trans (Below.heap_alloc wr _ _ hlt1)).trans L1.out; have d1 := cell_of_row w3 (w.heap.size + 1) 1 _ _ _ k1; have f3 := frozen_of_row w3 (w.heap.size + 1) 1 _ _ k1; simp at d1)
          | (go_simp; go_at_call 44; refine (HNum.out _).mono ?_; rintro e w2 ⟨rfl, rfl⟩))
      all_goals
        clear e1 e2 e3 t1 t2 p1 p2 p3
        go_wp2_with fail
        go_roundg (n - (j + 1))
        case measure => omega
        case rel =>
          have hb3 : Below w.heap.size w w3 := (hbr.alloc (by omega) _).drew.grown hg (by simp; omega) (fun b h => by have := (hown.lt b h).1; omega)
          refine ⟨j + 1, .slice (some ⟨gg, 0, none⟩) (j + 1) cap, by omega, rfl, by go_num, ?_, ?_, ?_, ?_⟩
          · refine ownsRow_setCell_below ?_ (by simp) _
            rw [HA.out, List.map_append]
            exact hown3
          · rw [heap_setCell_other _ _ _ _ (by simp)]
            exact ((hg.block _ (by simp; omega) (fun e => by have := (hown.lt _ e.symm).1; omega)).trans (Below.heap_alloc wr _ _ (by omega))).trans L0.out
          · exact heap_setCell_same _ _ 1 _ _ _ k1
          · exact hb3.setCell (by simp) _
    · obtain rfl : j = n := by omega
      have hjc : ¬ (j : Int) < cnt k := fun h => by have := (HNK.out j).1 h; omega
      have hI : IntS wr (Bl wr.heap.size) (.slice A1 j cap1) (argsTo s.data.toList j) := IntS.own hown (fun b h => (hown.lt b h).2) (fun x hx => by have := argsTo_range _ _ x hx; unfold I64; omega)
      have hI2 : IntS wr (Fr (w.heap.size + 2) wr.heap.size) (.slice A1 j cap1) (argsTo s.data.toList j) := IntS.own hown (fun b h => hown.lt b h) (fun x hx => by have := argsTo_range _ _ x hx; unfold I64; omega)
      have hr : (⟨k, argsTo s.data.toList j⟩ : Rec) = recOf s.data.toList := by unfold recOf; rw [← HK.out, ← HN.out]
      have hf := refframe_any k _ _ wr ⟨by omega, by omega⟩ hI
      have HR := Lib.hid hr
      rw [hr] at hf
      clear hr
      by_cases hv : validR (recOf s.data.toList) = true
      · have e : FrameRes (recOf s.data.toList) = .tuple #[.string ⟨(frameB (recOf s.data.toList)).toArray⟩, .int .i64 0] := by unfold FrameRes; rw [if_pos hv]
        rw [e] at hf
        have HF := Lib.hid hf
        have HV := Lib.hid hv
        clear e hf hv
        go_wp2_with (go_at_call 13; refine (count_any k _ ⟨by omega, by omega⟩).mono ?_; rintro e w2 ⟨rfl, rfl⟩)
        refine HF.out.mono ?_
        rintro e w4 ⟨rfl, hb4⟩
        have m0 := (hb4.block _ (by omega)).trans L0.out
        have m1 := (hb4.block _ hlt1).trans L1.out
        have p0 := cell_of_row w4 w.heap.size 0 _ _ _ m0
        have p1 := cell_of_row w4 w.heap.size 1 _ _ _ m0
        have q0 := frozen_of_row w4 w.heap.size 0 _ _ m0
        have q1 := frozen_of_row w4 w.heap.size 1 _ _ m0
        have n0 := cell_of_row w4 (w.heap.size + 1) 0 _ _ _ m1
        have n1 := cell_of_row w4 (w.heap.size + 1) 1 _ _ _ m1
        simp at p0 p1 n0 n1
        clear m0 m1
        go_wp2_with fail
        have hk2 : Kept (Fr (w.heap.size + 2) wr.heap.size) wr ((w4.setCell ⟨w.heap.size, 0, none⟩ (.int .i64 k)).setCell ⟨w.heap.size, 1, none⟩ (.slice A1 j cap1)) := fun b hb => by
          have h1 := hb.1
          rw [heap_setCell_other _ _ _ _ (by simp; omega), heap_setCell_other _ _ _ _ (by simp; omega)]
          exact hb4.block _ hb.2
        refine bodyPost_ret (v := .tuple #[.agg #[.int .i64 k, .slice A1 j cap1], .bool (frameB (recOf s.data.toList) == s.toList)]) (by simp [results, Try.results41, go_sem, p0, p1]) rfl ⟨.slice A1 j cap1, ?_, ?_, ?_⟩
        · have hkk : (recOf s.data.toList).kind = k := by rw [← HR.out]
          rw [hkk, ByteArray.toList_eq]
          unfold isFrame
          rw [HV.out]; rfl
        · have hkk : (recOf s.data.toList).args = argsTo s.data.toList j := by rw [← HR.out]
          rw [hkk]
          exact (hI2.keep hk2).mono (fun b hb => ⟨by have := hb.1; omega, by have := hb.2; have := hb4.size; simp; omega⟩)
        · exact ((Below.on hbr hbr.size hb4).setCell (by simp) _).setCell (by simp) _
      · have e : FrameRes (recOf s.data.toList) = .tuple #[.string ⟨#[]⟩, .int .i64 117] := by unfold FrameRes; rw [if_neg hv]
        rw [e] at hf
        have HF := Lib.hid hf
        have HV := Lib.hid (show validR (recOf s.data.toList) = false by simpa using hv)
        clear e hf hv
        go_wp2_with (go_at_call 13; refine (count_any k _ ⟨by omega, by omega⟩).mono ?_; rintro e w2 ⟨rfl, rfl⟩)
        refine HF.out.mono ?_
        rintro e w4 ⟨rfl, hb4⟩
        have m0 := (hb4.block _ (by omega)).trans L0.out
        have m1 := (hb4.block _ hlt1).trans L1.out
        have p0 := cell_of_row w4 w.heap.size 0 _ _ _ m0
        have p1 := cell_of_row w4 w.heap.size 1 _ _ _ m0
        have q0 := frozen_of_row w4 w.heap.size 0 _ _ m0
        have q1 := frozen_of_row w4 w.heap.size 1 _ _ m0
        have n0 := cell_of_row w4 (w.heap.size + 1) 0 _ _ _ m1
        have n1 := cell_of_row w4 (w.heap.size + 1) 1 _ _ _ m1
        simp at p0 p1 n0 n1
        clear m0 m1
        go_wp2_with fail
        have hk2 : Kept (Fr (w.heap.size + 2) wr.heap.size) wr ((w4.setCell ⟨w.heap.size, 0, none⟩ (.int .i64 k)).setCell ⟨w.heap.size, 1, none⟩ (.slice A1 j cap1)) := fun b hb => by
          have h1 := hb.1
          rw [heap_setCell_other _ _ _ _ (by simp; omega), heap_setCell_other _ _ _ _ (by simp; omega)]
          exact hb4.block _ hb.2
        refine bodyPost_ret (v := .tuple #[.agg #[.int .i64 k, .slice A1 j cap1], .bool false]) (by simp [results, Try.results41, go_sem, p0, p1]) rfl ⟨.slice A1 j cap1, ?_, ?_, ?_⟩
        · have hkk : (recOf s.data.toList).kind = k := by rw [← HR.out]
          rw [hkk]
          unfold isFrame
          rw [HV.out]; rfl
        · have hkk : (recOf s.data.toList).args = argsTo s.data.toList j := by rw [← HR.out]
          rw [hkk]
          exact (hI2.keep hk2).mono (fun b hb => ⟨by have := hb.1; omega, by have := hb.2; have := hb4.size; simp; omega⟩)
        · exact ((Below.on hbr hbr.size hb4).setCell (by simp) _).setCell (by simp) _

set_option maxHeartbeats 800000 in
theorem first_short (s : ByteArray) (w : World) (hs : s.size < 26) :
    Calls Try.prog 41 #[.string s] w (ParseRes ⟨0, []⟩ false w) := by
  go_enter Try.func41, Try.ntmps41
  go_wp2
  refine bodyPost_ret (v := .tuple #[.agg #[.int .i64 0, .slice none 0 0], .bool false]) (by simp [results, Try.results41, go_sem]) rfl ⟨.slice none 0 0, rfl, IntS.nil _ _ _, ?_⟩
  exact (Below.refl _ _).alloc (Nat.le_refl _) _
end Go.Proofs.Ytffamkodckghgaa
