import Derived.Test.YtffamkodckghgaaJW4
import Derived.Test.YtffamkodckghgaaJMath3
namespace Go.Proofs.Ytffamkodckghgaa
open Go.RowKit
set_option linter.unusedVariables false
set_option linter.unusedSimpArgs false
theorem own_form {w : World} {base : Nat} {e : TypeId} {size : Nat} {v : Value} {n : Nat} {xs : List Value} (h : w.ownsRow base e size v n xs) : ∃ A c, v = .slice A n c := by
  rcases h.2 with ⟨rfl, rfl⟩ | ⟨g, cap, cur, rfl, _⟩
  · exact ⟨_, _, rfl⟩
  · exact ⟨_, _, rfl⟩
def Fr (lo hi b : Nat) : Prop := lo ≤ b ∧ b < hi
theorem drop_take_snoc (s : ByteArray) (o k : Nat) (h : o + k < s.size) : (s.data.toList.drop o).take (k + 1) = (s.data.toList.drop o).take k ++ [s[o + k]] := by
  have hl : k < (s.data.toList.drop o).length := by
    rw [List.length_drop, Array.length_toList]; have : s.data.size = s.size := rfl; omega
  rw [List.take_succ_eq_append_getElem hl, List.getElem_drop]; rfl
/-- What parse returns, and where its record's arguments lie. -/
def ParseRes (r : Rec) (ok : Bool) (w : World) (e : Ending) (w' : World) : Prop :=
  ∃ va, e = .returned (.tuple #[.agg #[.int .i64 r.kind, va], .bool ok]) ∧ IntS w' (Fr w.heap.size w'.heap.size) va r.args ∧ Below w.heap.size w w'
theorem kindOf_at (s : ByteArray) (h : 1 < s.size) : kindOf s.data.toList = (s[1].toNat : Int) := by
  unfold kindOf
  rw [List.getD, List.getElem?_eq_getElem (show 1 < s.data.toList.length by rw [Array.length_toList]; exact h)]; rfl

set_option maxHeartbeats 3200000 in
theorem parse_any (s : ByteArray) (w : World) (hs : s.size = 26) :
    Calls Try.prog 40 #[.string s] w (ParseRes (recOf s.data.toList) (isFrame s.data.toList) w) := by
  have HS := Lib.hid hs
  have hs1 : 26 ≤ s.size := by omega
  have hs2 : s.size ≤ 26 := by omega
  clear hs
  have hkr := kindOf_range s.data.toList
  have h1s : 1 < s.size := by omega
  have hk2 : (s[1].toNat : Int) = kindOf s.data.toList := (kindOf_at s h1s).symm
  obtain ⟨k, hke⟩ : ∃ k, k = kindOf s.data.toList := ⟨_, rfl⟩
  rw [← hke] at hk2 hkr
  have HK := Lib.hid hke
  have hcr := cnt_range k
  clear hke
  obtain ⟨W, hW⟩ : ∃ W, W = (w.alloc (.cells #[.int .i64 0, .slice none 0 0] 24)).alloc (.cells #[.int .i64 k, .slice none 0 0] 24) := ⟨_, rfl⟩
  have hbW : Below w.heap.size w W := by rw [hW]; exact ((Below.refl _ _).alloc (Nat.le_refl _) _).alloc (by simp) _
  have hWs : w.heap.size + 2 ≤ W.heap.size := by rw [hW]; simp
  have hB0 : W.heap[w.heap.size]? = some (.cells #[.int .i64 0, .slice none 0 0] 24 (0, 0)) := by rw [hW]; exact heap_alloc2_old _ _ _
  have hB1 : W.heap[w.heap.size + 1]? = some (.cells #[.int .i64 k, .slice none 0 0] 24 (0, 0)) := by rw [hW]; exact heap_alloc2_new _ _ _
  have H0 := Lib.hid hB0
  have H1 := Lib.hid hB1
  have HW := Lib.hid hW
  clear hB0 hB1 hW
  go_enter Try.func40, Try.ntmps40
  go_upto_region 2 with fail
  rw [← HW.out]
  clear HW
  have c0 := cell_of_row W (w.heap.size + 1) 0 _ _ _ H1.out
  have c1 := cell_of_row W (w.heap.size + 1) 1 _ _ _ H1.out
  simp at c0 c1
  obtain ⟨n, hn⟩ : ∃ n, n = (cnt k).toNat := ⟨_, rfl⟩
  go_cut [17, 18] (fun v v2 wc => v = .int .i64 (n : Nat) ∧ v2 = .int .i64 0 ∧ Below W.heap.size W wc)
  case first =>
    have HN := Lib.hid hn
    clear hn
    go_wp2_with fail
    refine (counts_any k _ ⟨by omega, by omega⟩).mono ?_
    rintro e w1 ⟨rfl, hb1⟩
    go_wp2_with fail
    all_goals
      go_meet
      have := HN.out
      exact ⟨by go_num, rfl, hb1⟩
  case rest =>
    obtain ⟨rfl, rfl, hb1⟩ := hcut
    have hn4 : n ≤ 4 := by omega
    have HN := Lib.hid hn
    clear hn
    go_wp2_with fail
    have l0 : wc.heap[w.heap.size]? = some (.cells #[.int .i64 0, .slice none 0 0] 24 (0, 0)) := (hb1.block _ (by omega)).trans H0.out
    have l1 : wc.heap[w.heap.size + 1]? = some (.cells #[.int .i64 k, .slice none 0 0] 24 (0, 0)) := (hb1.block _ (by omega)).trans H1.out
    go_loopg [18] n (fun g v18 wr => ∃ (j : Nat) (va : Value), j ≤ n ∧ g = n - j ∧ v18 = .int .i64 j ∧ wr.ownsRow (w.heap.size + 2) 3 1 va j ((argsTo s.data.toList j).map (Value.int .i64)) ∧
      wr.heap[w.heap.size]? = some (.cells #[.int .i64 0, .slice none 0 0] 24 (0, 0)) ∧ wr.heap[w.heap.size + 1]? = some (.cells #[.int .i64 k, va] 24 (0, 0)) ∧ Below w.heap.size w wr)
    case atStart => exact ⟨0, _, by omega, rfl, rfl, World.ownsRow_nil _ _ _ _, l0, l1, Below.on hbW (by omega) hb1⟩
    case round =>
      obtain ⟨j, va, hj, rfl, rfl, hown, l0r, l1r, hbr⟩ := hrel
      have c0 := cell_of_row wr (w.heap.size + 1) 0 _ _ _ l1r
      have c1 := cell_of_row wr (w.heap.size + 1) 1 _ _ _ l1r
      have hlt1 : w.heap.size + 1 < wr.heap.size := block_lt_of_cell c0
      simp at c0 c1
      have L0 := Lib.hid l0r
      have L1 := Lib.hid l1r
      have HA := Lib.hid (argsTo_succ s.data.toList j)
      clear l0 l1 l0r l1r
      by_cases hjn : j < n
      · go_wp2_with fail
        go_loopg [6, 21] 5 (fun g v6 v21 wr' => ∃ t : Nat, t ≤ 5 ∧ g = 5 - t ∧ v21 = .int .i64 t ∧ v6 = .int .i64 (num ((s.data.toList.drop (2 + j * 5)).take t) : Nat) ∧ wr' = wr)
        case atStart => exact ⟨0, by omega, rfl, rfl, rfl, rfl⟩
        case round =>
          obtain ⟨t, ht, rfl, rfl, rfl, rfl⟩ := hrel
          have hnl := num5_lt s.data.toList t ht (2 + j * 5)
          by_cases ht5 : t < 5
          · have hin : 2 + j * 5 + t < s.size := by omega
            have HT := Lib.hid (drop_take_snoc s (2 + j * 5) t hin)
            have hlow : num ((s.data.toList.drop (2 + j * 5)).take t) < 4294967296 := by
              refine Nat.lt_of_lt_of_le (num_lt _) ?_
              calc 256 ^ ((s.data.toList.drop (2 + j * 5)).take t).length ≤ 256 ^ 4 := Nat.pow_le_pow_right (by omega) (Nat.le_trans (List.length_take_le _ _) (by omega))
                _ ≤ _ := by decide
            obtain ⟨x, hx⟩ : ∃ x, x = num ((s.data.toList.drop (2 + j * 5)).take t) := ⟨_, rfl⟩
            rw [← hx] at hlow ⊢
            have HX := Lib.hid hx
            have hc : s[2 + j * 5 + t].toNat < 256 := s[2 + j * 5 + t].toNat_lt
            have ho := num_or x s[2 + j * 5 + t] (by omega)
            clear hx hnl
            go_wp2_with fail
            go_roundg (5 - (t + 1))
            case measure => omega
            case rel => exact ⟨t + 1, by omega, rfl, by go_num, by rw [HT.out, num_snoc, ← HX.out]; go_num, rfl⟩
          · obtain rfl : t = 5 := by omega
            obtain ⟨x, hx⟩ : ∃ x, x = num ((s.data.toList.drop (2 + j * 5)).take 5) := ⟨_, rfl⟩
            rw [← hx]
            have HX := Lib.hid hx
            clear hx hnl
            go_wp2_with (at_builtin; refine app_int (.tmp 37) (.tmp 39) rfl rfl _ _ _ _ (by rfl) hown (by rfl) rfl (by omega) (by omega) ?_; intro v' w3 hown3 hg hat; obtain ⟨A3, c3, rfl⟩ := own_form hown3; have k1 : w3.heap[w.heap.size + 1]? = _ := (hg.block _ hlt1 (fun e => by have := (hown.lt _ e.symm).1; omega)).trans L1.out; have d1 := cell_of_row w3 (w.heap.size + 1) 1 _ _ _ k1; have f1 := frozen_of_row w3 (w.heap.size + 1) 1 _ _ k1; simp at d1)
            go_roundg (n - (j + 1))
            case measure => omega
            case rel =>
              have hb3 : Below w.heap.size w w3 := hbr.grown hg (by omega) (fun b h => by have := (hown.lt b h).1; omega)
              refine ⟨j + 1, .slice A3 (j + 1) c3, by omega, rfl, by go_num, ?_, ?_, ?_, ?_⟩
              · refine ownsRow_setCell_below ?_ (by simp) _
                rw [HA.out, List.map_append]
                have e : argOf s.data.toList j = (x : Int) := by rw [HX.out]; rfl
                simpa [e] using hown3
              · rw [heap_setCell_other _ _ _ _ (by simp)]
                exact (hg.block _ (by omega) (fun e => by have := (hown.lt _ e.symm).1; omega)).trans L0.out
              · exact heap_setCell_same _ _ 1 _ _ _ k1
              · exact hb3.setCell (by simp) _
      · obtain rfl : j = n := by omega
        obtain ⟨Av, cv, rfl⟩ := own_form hown
        have hI : IntS wr (Bl wr.heap.size) (.slice Av j cv) (argsTo s.data.toList j) := IntS.own hown (fun b h => (hown.lt b h).2) (fun x hx => by have := argsTo_range _ _ x hx; unfold I64; omega)
        have hI2 : IntS wr (Fr (w.heap.size + 2) wr.heap.size) (.slice Av j cv) (argsTo s.data.toList j) := IntS.own hown (fun b h => hown.lt b h) (fun x hx => by have := argsTo_range _ _ x hx; unfold I64; omega)
        have hr : (⟨k, argsTo s.data.toList j⟩ : Rec) = recOf s.data.toList := by unfold recOf; rw [← HK.out, ← HN.out]
        have hf := frame_any k _ _ wr ⟨by omega, by omega⟩ hI
        have HR := Lib.hid hr
        rw [hr] at hf
        clear hr
        by_cases hv : validR (recOf s.data.toList) = true
        · have e : FrameRes (recOf s.data.toList) = .tuple #[.string ⟨(frameB (recOf s.data.toList)).toArray⟩, .int .i64 0] := by unfold FrameRes; rw [if_pos hv]
          rw [e] at hf
          have HF := Lib.hid hf
          have HV := Lib.hid hv
          clear e hf hv
          go_wp2_with fail
          refine HF.out.mono ?_
          rintro e w4 ⟨rfl, hb4⟩
          have m0 := (hb4.block _ (by omega)).trans L0.out
          have m1 := (hb4.block _ hlt1).trans L1.out
          have p0 := cell_of_row w4 w.heap.size 0 _ _ _ m0
          have p1 := cell_of_row w4 w.heap.size 1 _ _ _ m0
          have q0 := frozen_of_row w4 w.heap.size 0 _ _ m0
          have q1 := frozen_of_row w4 w.heap.size 1 _ _ m0
          have n0 := cell_of_row w4 (w.heap.size + 1) 0 _ _ _ m1
          have n1 := cell_of_row w4 (w.heap.size + 1) 1 _ _ _ m1
          simp at p0 p1 n0 n1
          clear m0 m1
          go_wp2_with fail
          have hk2 : Kept (Fr (w.heap.size + 2) wr.heap.size) wr ((w4.setCell ⟨w.heap.size, 0, none⟩ (.int .i64 k)).setCell ⟨w.heap.size, 1, none⟩ (.slice Av j cv)) := fun b hb => by
            have h1 := hb.1
            rw [heap_setCell_other _ _ _ _ (by simp; omega), heap_setCell_other _ _ _ _ (by simp; omega)]
            exact hb4.block _ hb.2
          refine bodyPost_ret (v := .tuple #[.agg #[.int .i64 k, .slice Av j cv], .bool (frameB (recOf s.data.toList) == s.toList)]) (by simp [results, Try.results40, go_sem, p0, p1]) rfl ⟨.slice Av j cv, ?_, ?_, ?_⟩
          · have hkk : (recOf s.data.toList).kind = k := by rw [← HR.out]
            rw [hkk, ByteArray.toList_eq]
            unfold isFrame
            rw [HV.out]; rfl
          · have hkk : (recOf s.data.toList).args = argsTo s.data.toList j := by rw [← HR.out]
            rw [hkk]
            exact (hI2.keep hk2).mono (fun b hb => ⟨by have := hb.1; omega, by have := hb.2; have := hb4.size; simp; omega⟩)
          · exact ((Below.on hbr hbr.size hb4).setCell (by simp) _).setCell (by simp) _
        · have e : FrameRes (recOf s.data.toList) = .tuple #[.string ⟨#[]⟩, .int .i64 117] := by unfold FrameRes; rw [if_neg hv]
          rw [e] at hf
          have HF := Lib.hid hf
          have HV := Lib.hid (show validR (recOf s.data.toList) = false by simpa using hv)
          clear e hf hv
          go_wp2_with fail
          refine HF.out.mono ?_
          rintro e w4 ⟨rfl, hb4⟩
          have m0 := (hb4.block _ (by omega)).trans L0.out
          have m1 := (hb4.block _ hlt1).trans L1.out
          have p0 := cell_of_row w4 w.heap.size 0 _ _ _ m0
          have p1 := cell_of_row w4 w.heap.size 1 _ _ _ m0
          have q0 := frozen_of_row w4 w.heap.size 0 _ _ m0
          have q1 := frozen_of_row w4 w.heap.size 1 _ _ m0
          have n0 := cell_of_row w4 (w.heap.size + 1) 0 _ _ _ m1
          have n1 := cell_of_row w4 (w.heap.size + 1) 1 _ _ _ m1
          simp at p0 p1 n0 n1
          clear m0 m1
          go_wp2_with fail
          have hk2 : Kept (Fr (w.heap.size + 2) wr.heap.size) wr ((w4.setCell ⟨w.heap.size, 0, none⟩ (.int .i64 k)).setCell ⟨w.heap.size, 1, none⟩ (.slice Av j cv)) := fun b hb => by
            have h1 := hb.1
            rw [heap_setCell_other _ _ _ _ (by simp; omega), heap_setCell_other _ _ _ _ (by simp; omega)]
            exact hb4.block _ hb.2
          refine bodyPost_ret (v := .tuple #[.agg #[.int .i64 k, .slice Av j cv], .bool false]) (by simp [results, Try.results40, go_sem, p0, p1]) rfl ⟨.slice Av j cv, ?_, ?_, ?_⟩
          · have hkk : (recOf s.data.toList).kind = k := by rw [← HR.out]
            rw [hkk]
            unfold isFrame
            rw [HV.out]; rfl
          · have hkk : (recOf s.data.toList).args = argsTo s.data.toList j := by rw [← HR.out]
            rw [hkk]
            exact (hI2.keep hk2).mono (fun b hb => ⟨by have := hb.1; omega, by have := hb.2; have := hb4.size; simp; omega⟩)
          · exact ((Below.on hbr hbr.size hb4).setCell (by simp) _).setCell (by simp) _
end Go.Proofs.Ytffamkodckghgaa
