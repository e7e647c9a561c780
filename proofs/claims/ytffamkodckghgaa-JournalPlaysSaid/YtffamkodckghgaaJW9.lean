import Derived.Test.YtffamkodckghgaaJW8
import Derived.Test.YtffamkodckghgaaJMath5
namespace Go.Proofs.Ytffamkodckghgaa
open Go.RowKit
set_option linter.unusedVariables false
set_option linter.unusedSimpArgs false
def lightB (rs : List Rec) : Bool := (rs.take 100).all (fun r => decide (r.args.length ≤ 10)) && decide (rs.length ≤ 40)
theorem lightB_bad {rs : List Rec} {r : Rec} (hm : r ∈ rs.take 100) (h : 10 < r.args.length) : lightB rs = false := by
  unfold lightB
  have : (rs.take 100).all (fun r => decide (r.args.length ≤ 10)) = false := by
    rw [List.all_eq_false]; exact ⟨r, hm, by simp; omega⟩
  rw [this]; rfl
theorem lightB_end {rs : List Rec} (h : ∀ r ∈ rs.take 100, r.args.length ≤ 10) : lightB rs = decide (rs.length ≤ 40) := by
  unfold lightB
  have : (rs.take 100).all (fun r => decide (r.args.length ≤ 10)) = true := by
    rw [List.all_eq_true]; intro r hr; simpa using h r hr
  rw [this]; rfl
theorem lightB_true {rs : List Rec} (h : lightB rs = true) : rs.length ≤ 40 ∧ ∀ r ∈ rs, r.args.length ≤ 10 := by
  unfold lightB at h
  simp only [Bool.and_eq_true, List.all_eq_true, decide_eq_true_eq] at h
  refine ⟨h.2, fun r hr => h.1 r ?_⟩
  rw [List.take_of_length_le (by omega)]; exact hr

set_option maxHeartbeats 1600000 in
theorem light_any (vl : Value) (rs : List Rec) (R : Nat → Prop) (w : World) (hv : RecS w R vl rs) :
    Calls Try.prog 10 #[vl] w fun e w' => e = .returned (.bool (lightB rs)) ∧ w = w' := by
  obtain ⟨A, c, rfl, -, hm⟩ := hv.form
  unfold maxLen at hm
  have HV := Lib.hid hv
  clear hv
  go_enter Try.func10, Try.ntmps10
  go_wp2
  go_loop [3] (fun i => ∃ j : Nat, j ≤ rs.length ∧ j ≤ 100 ∧ i = .int .i64 j ∧ Hid (∀ r ∈ rs.take j, r.args.length ≤ 10)) (fun i => rs.length - (intOf i).toNat)
  case atStart => exact ⟨0, by omega, by omega, rfl, fun r h => by simp at h⟩
  case round =>
    obtain ⟨j, hj, hj2, rfl, hok⟩ := hrel
    by_cases hlt : j < rs.length
    · by_cases h100 : j < 100
      · obtain ⟨b, off, va, rfl, hR, hc0, hc1, hva, hk⟩ := HV.out.at_ hlt
        obtain ⟨A2, c2, rfl, -, hm2⟩ := hva.form
        unfold maxLen at hm2
        have htk := Lib.hid (List.take_succ_eq_append_getElem hlt)
        have hmem : rs[j] ∈ rs.take 100 := List.mem_take_iff_getElem.2 ⟨j, by omega, rfl⟩
        have HM := Lib.hid hmem
        have d1 : decide ((j : Int) < 100) = true := by simp; omega
        clear hmem
        generalize rs[j] = r at *
        go_wp2
        · go_ret
          exact ⟨ret_bool (lightB_bad HM.out (by omega)).symm, rfl⟩
        · go_round
          case rel =>
            refine ⟨j + 1, by omega, by omega, by go_num, fun x hx => ?_⟩
            rw [htk.out] at hx
            rcases List.mem_append.1 hx with h | h
            · exact hok.out x h
            · rw [List.mem_singleton.1 h]; omega
          case measure => simp [intOf]; omega
      · obtain rfl : j = 100 := by omega
        have he := Lib.hid (lightB_end hok.out)
        go_wp2
        go_ret
        exact ⟨ret_bool (by rw [he.out]; first | (simp; done) | (simp; omega)), rfl⟩
    · obtain rfl : j = rs.length := by omega
      have he := Lib.hid (lightB_end (rs := rs) (fun r hr => hok.out r (by rw [List.take_length]; exact List.mem_of_mem_take hr)))
      have d1 : decide ((rs.length : Int) < (rs.length : Int)) = false := by simp
      go_wp2
      go_ret
      exact ⟨ret_bool (by rw [he.out]; first | (simp; done) | (simp; omega)), rfl⟩

theorem rec1_valid : validR ⟨1, [1]⟩ = true := by decide +kernel
theorem rec1_frame : frameB ⟨1, [1]⟩ = [213, 1, 0, 0, 0, 0, 1, 0, 0, 0, 0, 0, 0, 0, 0, 0, 0, 0, 0, 0, 0, 0, 241, 26, 156, 179] := by decide +kernel
theorem rec1_scan : scan ([213, 1, 0, 0, 0, 0, 1, 0, 0, 0, 0, 0, 0, 0, 0, 0, 0, 0, 0, 0, 0, 0, 241, 26, 156, 179] ++ [120]) = [⟨1, [1]⟩] := by
  rw [← rec1_frame, scan_frame rec1_valid, scan_short (by decide)]
theorem RecS.lit1 {w : World} {va : Value} (r : Rec) (t : TypeId) (hk : I64 r.kind) (ha : IntS w (Bl w.heap.size) va r.args) : RecS (w.alloc (.cells #[.int .i64 r.kind, va] t)) (Bl (w.heap.size + 1)) (.slice (some ⟨w.heap.size, 0, none⟩) 1 1) [r] :=
  ⟨⟨_, 1, rfl, Nat.le_refl _, by unfold maxLen; simp, fun _ => ⟨_, _, rfl, Nat.lt_succ_self _, fun k y hk => by
    match k, hk with
    | 0, hk => simp at hk; subst hk; exact ⟨va, by simp, by simp, (ha.keep (kept_alloc _ _)).mono (Bl.mono (by omega))⟩
    | k + 1, hk => simp at hk⟩⟩, fun y hy => by simp at hy; subst hy; exact hk⟩
theorem IntS.lit1 (w : World) (x : Int) (t : TypeId) (hx : I64 x) : IntS (w.alloc (.cells #[.int .i64 x] t)) (Bl (w.heap.size + 1)) (.slice (some ⟨w.heap.size, 0, none⟩) 1 1) [x] :=
  ⟨⟨_, 1, rfl, Nat.le_refl _, by unfold maxLen; simp, fun _ => ⟨_, _, rfl, Nat.lt_succ_self _, fun k y hk => by
    match k, hk with
    | 0, hk => simp at hk; subst hk; simp
    | k + 1, hk => simp at hk⟩⟩, fun y hy => by simp at hy; subst hy; exact hx⟩

set_option maxHeartbeats 1600000 in
theorem awake_any (w : World) :
    Calls Try.prog 11 #[] w fun e w' => e = .returned (.bool true) ∧ Below w.heap.size w w' := by
  obtain ⟨W, hW⟩ : ∃ W, W = w.alloc (.cells #[.int .i64 1] 3) := ⟨_, rfl⟩
  have hbW : Below w.heap.size w W := by rw [hW]; exact (Below.refl _ _).alloc (Nat.le_refl _) _
  have hWs : W.heap.size = w.heap.size + 1 := by rw [hW]; simp
  have hi : IntS W (Bl W.heap.size) (.slice (some ⟨w.heap.size, 0, none⟩) 1 1) [1] := by rw [hWs, hW]; exact IntS.lit1 w 1 _ ⟨by omega, by omega⟩
  have hf := frame_any 1 _ [1] W ⟨by omega, by omega⟩ hi
  have e : FrameRes ⟨1, [1]⟩ = .tuple #[.string ⟨#[213, 1, 0, 0, 0, 0, 1, 0, 0, 0, 0, 0, 0, 0, 0, 0, 0, 0, 0, 0, 0, 0, 241, 26, 156, 179]⟩, .int .i64 0] := by
    have h1 := rec1_frame
    unfold FrameRes
    rw [if_pos rec1_valid]
    rw [h1]
  rw [e] at hf
  have hsc : ∀ W' : World, Calls Try.prog 19 #[.string (⟨#[213, 1, 0, 0, 0, 0, 1, 0, 0, 0, 0, 0, 0, 0, 0, 0, 0, 0, 0, 0, 0, 0, 241, 26, 156, 179]⟩ ++ ⟨#[120]⟩)] W' fun e w' => ∃ v, e = .returned (.tuple #[v, .int .i64 26]) ∧ RecS w' (Bl w'.heap.size) v [⟨1, [1]⟩] ∧ Below W'.heap.size W' w' := by
    intro W'
    have h := scan_any (⟨#[213, 1, 0, 0, 0, 0, 1, 0, 0, 0, 0, 0, 0, 0, 0, 0, 0, 0, 0, 0, 0, 0, 241, 26, 156, 179]⟩ ++ ⟨#[120]⟩) W' (by decide)
    have e2 : (⟨#[213, 1, 0, 0, 0, 0, 1, 0, 0, 0, 0, 0, 0, 0, 0, 0, 0, 0, 0, 0, 0, 0, 241, 26, 156, 179]⟩ ++ ⟨#[120]⟩ : ByteArray).data.toList = [213, 1, 0, 0, 0, 0, 1, 0, 0, 0, 0, 0, 0, 0, 0, 0, 0, 0, 0, 0, 0, 0, 241, 26, 156, 179] ++ [120] := by decide +kernel
    refine h.mono ?_
    rintro e w' ⟨v, rfl, h1, h2⟩
    rw [e2, rec1_scan] at h1 ⊢
    exact ⟨v, rfl, h1, h2⟩
  have HF := Lib.hid hf
  have HSC := Lib.hid hsc
  clear hsc
  have HW := Lib.hid hW
  have HWs := Lib.hid hWs
  clear hf hW e hWs
  go_enter Try.func11, Try.ntmps11
  go_wp2_with fail
  rw [← HW.out]
  refine HF.out.mono ?_
  rintro e w1 ⟨rfl, hb1⟩
  go_wp2_with fail
  refine (HSC.out _).mono ?_
  rintro e w2 ⟨v, rfl, hv, hb2⟩
  obtain ⟨A2, c2, rfl, -, -⟩ := hv.form
  have hx : (ByteArray.extract ⟨#[213, 1, 0, 0, 0, 0, 1, 0, 0, 0, 0, 0, 0, 0, 0, 0, 0, 0, 0, 0, 0, 0, 241, 26, 156, 179]⟩ 0 7).toList = [213, 1, 0, 0, 0, 0, 1] := by decide +kernel
  have hr : RecS ((w2.alloc (.cells #[.int .i64 1] 3)).alloc (.cells #[.int .i64 1, .slice (some ⟨w2.heap.size, 0, none⟩) 1 1] 24)) (Bl (w2.heap.size + 1 + 1)) (.slice (some ⟨w2.heap.size + 1, 0, none⟩) 1 1) [⟨1, [1]⟩] := by
    have h1 := IntS.lit1 w2 1 3 ⟨by omega, by omega⟩
    have h2 := RecS.lit1 (w := w2.alloc (.cells #[.int .i64 1] 3)) ⟨1, [1]⟩ 24 ⟨by simp, by simp⟩ (by simpa using h1)
    simpa using h2
  have hv2 : RecS ((w2.alloc (.cells #[.int .i64 1] 3)).alloc (.cells #[.int .i64 1, .slice (some ⟨w2.heap.size, 0, none⟩) 1 1] 24)) (Bl w2.heap.size) (.slice A2 1 c2) [⟨1, [1]⟩] :=
    hv.keep ((kept_alloc _ _).trans (kept_alloc' (fun b hb => by simp; exact Nat.lt_succ_of_lt hb)))
  have hs := sameRecs_any _ _ _ _ _ _ _ hv2 hr
  rw [eqB_true rfl] at hs
  have HS := Lib.hid hs
  clear hs hr hv2 hv
  go_wp2_with fail
  refine HS.out.mono ?_
  rintro e w3 ⟨rfl, n, rfl⟩
  go_wp2
  go_ret
  refine ⟨rfl, Below.drewN' ?_ _⟩
  have hb12 := Below.on hb1 hb1.size hb2
  have hb3 := Below.on hbW (by rw [HWs.out]; omega) hb12
  exact (hb3.alloc hb3.size _).alloc (by have := hb3.size; simp; omega) _
end Go.Proofs.Ytffamkodckghgaa
