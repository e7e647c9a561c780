import Derived.Test.YtffamkodckghgaaJW2
import Derived.Test.YtffamkodckghgaaJMath2
import Derived.Deep.LoopGhost
import Derived.Deep.DeepCutAuto
namespace Go.Proofs.Ytffamkodckghgaa
open Go.RowKit
set_option linter.unusedVariables false
set_option linter.unusedSimpArgs false

set_option maxHeartbeats 800000 in
theorem sealed_any (l : List UInt8) (w : World) (hl : l.length ≤ 65536) :
    Calls Try.prog 38 #[.string ⟨l.toArray⟩] w fun e w' => e = .returned (.string ⟨(sealB l).toArray⟩) ∧ Below w.heap.size w w' := by
  have hc := crc_lt l
  have hbl : (beTo (crc l) 4 4).length ≤ 4 := by rw [beTo_length]; omega
  have hs : ((⟨l.toArray⟩ : ByteArray).size : Int) ≤ 65536 := by show ((l.toArray.size : Nat) : Int) ≤ 65536; simp; omega
  have h1 := refsum_any ⟨l.toArray⟩ w (by unfold maxLen; omega)
  have h2 := big_any (crc l) 4 w (by omega) (by omega)
  have H1 := Lib.hid h1
  have H2 := Lib.hid h2
  clear h1 h2
  go_enter Try.func38, Try.ntmps38
  go_wp2_with fail
  refine H1.out.mono ?_
  rintro e w1 ⟨rfl, rfl⟩
  go_wp2_with fail
  refine H2.out.mono ?_
  rintro e w1 ⟨rfl, hb⟩
  go_wp2
  go_ret
  exact ⟨by rw [ByteArray.mk_append_mk]; rfl, hb⟩

/-- What a function that builds a frame returns. -/
def FrameRes (r : Rec) : Value := if validR r = true then .tuple #[.string ⟨(frameB r).toArray⟩, .int .i64 0] else .tuple #[.string ⟨#[]⟩, .int .i64 117]

set_option maxHeartbeats 1600000 in
theorem refframe_any (k : Int) (va : Value) (xs : List Int) (w : World) (hk : I64 k) (ha : IntS w (Bl w.heap.size) va xs) :
    Calls Try.prog 15 #[.agg #[.int .i64 k, va]] w fun e w' => e = .returned (FrameRes ⟨k, xs⟩) ∧ Below w.heap.size w w' := by
  obtain ⟨W, hW⟩ : ∃ W, W = w.alloc (.cells #[.int .i64 k, va] 24) := ⟨_, rfl⟩
  have hbW : Below w.heap.size w W := by rw [hW]; exact (Below.refl _ _).alloc (Nat.le_refl _) _
  have hc0 : W.cell? ⟨w.heap.size, 0, none⟩ = some (.int .i64 k) := by rw [hW]; simp
  have hc1 : W.cell? ⟨w.heap.size, 1, none⟩ = some va := by rw [hW]; simp
  have hWs : w.heap.size < W.heap.size := by rw [hW]; simp
  have haW : IntS W (Bl w.heap.size) va xs := ha.keep (kept_below hbW)
  have hv := refvalid_any k va xs W hk (haW.mono (Bl.mono (by omega)))
  have HV := Lib.hid hv
  clear hv
  by_cases hval : validR ⟨k, xs⟩ = true
  · obtain ⟨_, hargs, hlen, hk1, hk2⟩ := validR_args hval
    have hle := argN_le hval
    have HR : Hid (FrameRes ⟨k, xs⟩ = .tuple #[.string ⟨(frameB ⟨k, xs⟩).toArray⟩, .int .i64 0]) := by unfold FrameRes; rw [if_pos hval]; exact rfl
    rw [hval] at HV
    clear hval
    simp only at hargs hlen hk1 hk2
    go_enter Try.func15, Try.ntmps15
    go_wp2_with fail
    rw [← hW]
    refine HV.out.mono ?_
    rintro e w1 ⟨rfl, hb1⟩
    have c0 := (hb1.cell (p := ⟨w.heap.size, 0, none⟩) hWs).trans hc0
    have c1 := (hb1.cell (p := ⟨w.heap.size, 1, none⟩) hWs).trans hc1
    clear hW
    have hcv : (convert 38 9 (.slice (some ⟨w1.heap.size, 0, none⟩) 2 2)).run Try.prog (w1.alloc (.cells #[.int .u8 213, .int .u8 k] 5)) = .ok (.string ⟨(bodyB ⟨k, xs⟩ 0).toArray⟩) (w1.alloc (.cells #[.int .u8 213, .int .u8 k] 5)) := by
      have h := conv_bytes (ByS.lit w1 [213, UInt8.ofNat k.toNat] 5 (by unfold maxLen; simp))
      have e : ((UInt8.ofNat k.toNat).toNat : Int) = k := by rw [UInt8.toNat_ofNat']; omega
      simp only [bys, List.map_cons, List.map_nil, e] at h
      exact h
    obtain ⟨W1, hW1⟩ : ∃ W1, W1 = w1.alloc (.cells #[.int .u8 213, .int .u8 k] 5) := ⟨_, rfl⟩
    have hb2 : Below W.heap.size W W1 := by rw [hW1]; exact hb1.alloc hb1.size _
    have HW1 := Lib.hid hW1
    clear hW1
    go_wp2_with fail
    rw [← HW1.out]
    clear hcv
    go_loopg [4, 5] 4 (fun n v4 v5 wr => ∃ j : Nat, j ≤ 4 ∧ n = 4 - j ∧ v5 = .int .i64 j ∧ v4 = .string ⟨(bodyB ⟨k, xs⟩ j).toArray⟩ ∧ Below W.heap.size W wr)
    case atStart => exact ⟨0, by omega, rfl, rfl, rfl, hb2⟩
    case round =>
      obtain ⟨j, hj, rfl, rfl, rfl, hbr⟩ := hrel
      have c0 := (hbr.cell (p := ⟨w.heap.size, 0, none⟩) hWs).trans hc0
      have c1 := (hbr.cell (p := ⟨w.heap.size, 1, none⟩) hWs).trans hc1
      obtain ⟨⟨A, c, rfl, h1, h2, h3⟩, h4⟩ := haW.keep (kept_below' hbr (by omega))
      have hja := hle j
      have hbl : (bodyB ⟨k, xs⟩ j).length ≤ 22 := by rw [bodyB_length]; omega
      have HB := Lib.hid (bodyB_succ ⟨k, xs⟩ j)
      by_cases hj4 : j < 4
      · go_upto_if 23 with fail
        go_cut [6] (fun a wc => a = .int .i64 (argN ⟨k, xs⟩ j : Nat) ∧ wc = wr)
        case first =>
          by_cases hlt : j < xs.length
          · obtain ⟨b, off, rfl, hbb, hc⟩ := h3 (by omega)
            have hcell := hc j xs[j] (List.getElem?_eq_getElem hlt)
            rw [argN_in (r := ⟨k, xs⟩) hlt (hargs _ (List.getElem_mem hlt)).1] at hcell
            clear h3 hc
            go_wp2_with fail
            go_meet
            exact ⟨rfl, rfl⟩
          · have e0 := Lib.hid (argN_out (r := ⟨k, xs⟩) (i := j) (by simp only; omega))
            go_wp2_with fail
            go_meet
            exact ⟨by rw [e0.out]; rfl, rfl⟩
        case rest =>
          obtain ⟨rfl, rfl⟩ := hcut
          have hbt : (beTo (argN ⟨k, xs⟩ j) 5 5).length ≤ 5 := by rw [beTo_length]; omega
          go_wp2_with fail
          refine (big_any (argN ⟨k, xs⟩ j) 5 _ (by omega) (by omega)).mono ?_
          rintro e w3 ⟨rfl, hb3⟩
          go_wp2
          go_roundg (4 - (j + 1))
          case measure => omega
          case rel => exact ⟨j + 1, by omega, rfl, by go_num, by rw [HB.out, ByteArray.mk_append_mk], Below.on hbr hbr.size hb3⟩
      · obtain rfl : j = 4 := by omega
        go_wp2_with fail
        refine (sealed_any (bodyB ⟨k, xs⟩ 4) _ (by omega)).mono ?_
        rintro e w3 ⟨rfl, hb3⟩
        go_wp2
        go_ret2
        rw [HR.out]
        exact ⟨rfl, Below.on hbW (by omega) (Below.on hbr hbr.size hb3)⟩
  · have hval' : validR ⟨k, xs⟩ = false := by simpa using hval
    have HR : Hid (FrameRes ⟨k, xs⟩ = .tuple #[.string ⟨#[]⟩, .int .i64 117]) := by unfold FrameRes; rw [if_neg hval]; exact rfl
    rw [hval'] at HV
    clear hval hval'
    go_enter Try.func15, Try.ntmps15
    go_wp2_with fail
    rw [← hW]
    refine HV.out.mono ?_
    rintro e w1 ⟨rfl, hb1⟩
    clear hW
    go_wp2
    go_ret2
    rw [HR.out]
    exact ⟨rfl, Below.on hbW (by omega) hb1⟩

theorem be4_vals (x : Nat) (h : x < 4294967296) : bys (beTo x 4 4) = [.int .u8 ((x : Int) / 16777216), .int .u8 ((x : Int) / 65536 % 256), .int .u8 ((x : Int) / 256 % 256), .int .u8 ((x : Int) % 256)] := by
  have e : beTo x 4 4 = [UInt8.ofNat (x / 16777216), UInt8.ofNat (x / 65536), UInt8.ofNat (x / 256), UInt8.ofNat (x / 1)] := rfl
  rw [e]
  simp only [bys, List.map_cons, List.map_nil, UInt8.toNat_ofNat']
  have h1 : ((x / 16777216 % 2 ^ 8 : Nat) : Int) = (x : Int) / 16777216 := by omega
  have h2 : ((x / 65536 % 2 ^ 8 : Nat) : Int) = (x : Int) / 65536 % 256 := by omega
  have h3 : ((x / 256 % 2 ^ 8 : Nat) : Int) = (x : Int) / 256 % 256 := by omega
  have h4 : ((x / 1 % 2 ^ 8 : Nat) : Int) = (x : Int) % 256 := by omega
  rw [h1, h2, h3, h4]

set_option maxHeartbeats 3200000 in
theorem frame_any (k : Int) (va : Value) (xs : List Int) (w : World) (hk : I64 k) (ha : IntS w (Bl w.heap.size) va xs) :
    Calls Try.prog 14 #[.agg #[.int .i64 k, va]] w fun e w' => e = .returned (FrameRes ⟨k, xs⟩) ∧ Below w.heap.size w w' := by
  obtain ⟨W, hW⟩ : ∃ W, W = w.alloc (.cells #[.int .i64 k, va] 24) := ⟨_, rfl⟩
  have hbW : Below w.heap.size w W := by rw [hW]; exact (Below.refl _ _).alloc (Nat.le_refl _) _
  have hc0 : W.cell? ⟨w.heap.size, 0, none⟩ = some (.int .i64 k) := by rw [hW]; simp
  have hc1 : W.cell? ⟨w.heap.size, 1, none⟩ = some va := by rw [hW]; simp
  have hWs : w.heap.size < W.heap.size := by rw [hW]; simp
  have haW : IntS W (Bl w.heap.size) va xs := ha.keep (kept_below hbW)
  have hv := valid_any k va xs W hk (haW.mono (Bl.mono (by omega)))
  have HV := Lib.hid hv
  clear hv
  by_cases hval : validR ⟨k, xs⟩ = true
  · obtain ⟨_, hargs, hlen, hk1, hk2⟩ := validR_args hval
    have hle := argN_le hval
    have HR : Hid (FrameRes ⟨k, xs⟩ = .tuple #[.string ⟨(frameB ⟨k, xs⟩).toArray⟩, .int .i64 0]) := by unfold FrameRes; rw [if_pos hval]; exact rfl
    rw [hval] at HV
    clear hval
    simp only at hargs hlen hk1 hk2
    go_enter Try.func14, Try.ntmps14
    go_wp2_with fail
    rw [← hW]
    refine HV.out.mono ?_
    rintro e w1 ⟨rfl, hb1⟩
    have c0 := (hb1.cell (p := ⟨w.heap.size, 0, none⟩) hWs).trans hc0
    have c1 := (hb1.cell (p := ⟨w.heap.size, 1, none⟩) hWs).trans hc1
    clear hW
    obtain ⟨W1, hW1⟩ : ∃ W1, W1 = w1.alloc (.cells #[.int .u8 213, .int .u8 k] 5) := ⟨_, rfl⟩
    have hb2 : Below W.heap.size W W1 := by rw [hW1]; exact hb1.alloc hb1.size _
    have hown0 : W1.ownsRow W.heap.size 5 1 (.slice (some ⟨w1.heap.size, 0, none⟩) 2 2) (2 + 5 * 0) (bys (bodyB ⟨k, xs⟩ 0)) := by
      have h := World.ownsRow_lit (base := W.heap.size) (e := 5) (size := 1) w1 #[.int .u8 213, .int .u8 k] 2 hb1.size (by decide) rfl
      have e : ((UInt8.ofNat k.toNat).toNat : Int) = k := by rw [UInt8.toNat_ofNat']; omega
      rw [hW1]
      have e2 : bys (bodyB ⟨k, xs⟩ 0) = [.int .u8 213, .int .u8 k] := by
        simp only [bodyB, bys, List.range_zero, List.flatMap_nil, List.append_nil, List.map_cons, List.map_nil, e]; rfl
      rw [e2]
      exact h
    have HW1 := Lib.hid hW1
    clear hW1
    go_wp2_with fail
    rw [← HW1.out]
    go_loopg [4, 16] 4 (fun n v4 v5 wr => ∃ j : Nat, j ≤ 4 ∧ n = 4 - j ∧ v5 = .int .i64 j ∧ wr.ownsRow W.heap.size 5 1 v4 (2 + 5 * j) (bys (bodyB ⟨k, xs⟩ j)) ∧ Below W.heap.size W wr)
    case atStart => exact ⟨0, by omega, rfl, rfl, hown0, hb2⟩
    case round =>
      obtain ⟨j, hj, rfl, rfl, hown, hbr⟩ := hrel
      have c0 := (hbr.cell (p := ⟨w.heap.size, 0, none⟩) hWs).trans hc0
      have c1 := (hbr.cell (p := ⟨w.heap.size, 1, none⟩) hWs).trans hc1
      obtain ⟨⟨A, c, rfl, h1, h2, h3⟩, h4⟩ := haW.keep (kept_below' hbr (by omega))
      have hja := hle j
      have HB := Lib.hid (bodyB_succ ⟨k, xs⟩ j)
      by_cases hj4 : j < 4
      · go_upto_if 23 with fail
        go_cut [6] (fun a wc => a = .int .i64 (argN ⟨k, xs⟩ j : Nat) ∧ wc = wr)
        case first =>
          by_cases hlt : j < xs.length
          · obtain ⟨b, off, rfl, hbb, hc⟩ := h3 (by omega)
            have hcell := hc j xs[j] (List.getElem?_eq_getElem hlt)
            rw [argN_in (r := ⟨k, xs⟩) hlt (hargs _ (List.getElem_mem hlt)).1] at hcell
            clear h3 hc
            go_wp2_with fail
            go_meet
            exact ⟨rfl, rfl⟩
          · have e0 := Lib.hid (argN_out (r := ⟨k, xs⟩) (i := j) (by simp only; omega))
            go_wp2_with fail
            go_meet
            exact ⟨by rw [e0.out]; rfl, rfl⟩
        case rest =>
          obtain ⟨rfl, rfl⟩ := hcut
          generalize argN ⟨k, xs⟩ j = x at *
          go_wp2_with fail
          go_loopg [4, 7] 5 (fun n v4 v7 wr => ∃ t : Nat, t ≤ 5 ∧ n = 5 - t ∧ v7 = .int .i64 ((4 : Int) - t) ∧ wr.ownsRow W.heap.size 5 1 v4 (2 + 5 * j + t) (bys (bodyB ⟨k, xs⟩ j ++ beTo x 5 t)) ∧ Below W.heap.size W wr)
          case atStart => exact ⟨0, by omega, rfl, rfl, by simpa [beTo] using hown, hbr⟩
          case round =>
            obtain ⟨t, ht, rfl, rfl, hown2, hbr2⟩ := hrel
            have hsz2 := hbr2.size
            by_cases ht5 : t < 5
            · have h0 : decide ((0 : Int) ≤ (4 : Int) - t) = true := by simp; omega
              have HT := Lib.hid (beTo_succ x 5 t)
              have HY := Lib.hid (byte_of x (5 - 1 - t))
              clear hown hbr c0 c1
              go_wp2_with (at_builtin; refine app_u8 (.tmp 33) (.tmp 39) rfl rfl _ _ _ _ (by rfl) hown2 (by rfl) rfl (by omega) hsz2 ?_; intro v' w3 hown3 hg hat)
              go_roundg (5 - (t + 1))
              case measure => omega
              case rel => exact ⟨t + 1, by omega, rfl, by go_num, by rw [HT.out, ← List.append_assoc, bys_snoc, ← HY.out]; exact hown3, hbr2.grown hg hsz2 (fun b h => (hown2.lt b h).1)⟩
            · obtain rfl : t = 5 := by omega
              have h0 : decide ((0 : Int) ≤ (4 : Int) - (5 : Nat)) = false := by decide
              clear hown hbr c0 c1
              go_wp2_with fail
              go_roundg (4 - (j + 1))
              case measure => omega
              case rel => exact ⟨j + 1, by omega, rfl, by go_num, by rw [HB.out]; exact hown2, hbr2⟩
      · obtain rfl : j = 4 := by omega
        have hcv := conv_bytes (ByS.own (R := Bl wr.heap.size) hown (fun b h => (hown.lt b h).2))
        have hl : (bodyB ⟨k, xs⟩ 4).length ≤ 22 := by rw [bodyB_length]; omega
        go_wp2_with fail
        refine (sum_any ⟨(bodyB ⟨k, xs⟩ 4).toArray⟩ _ (by unfold maxLen; show (bodyB ⟨k, xs⟩ 4).toArray.size ≤ _; simp; omega)).mono ?_
        rintro e w3 ⟨rfl, rfl⟩
        have hx := crc_lt (bodyB ⟨k, xs⟩ 4)
        obtain ⟨x, hxe⟩ : ∃ x, x = crc (bodyB ⟨k, xs⟩ 4) := ⟨_, rfl⟩
        rw [← hxe] at hx ⊢
        have HX := Lib.hid hxe
        have hsz := hbr.size
        clear hxe hcv
        go_wp2_with (at_builtin; refine app_u8m (.tmp 45) (.tmp 57) rfl rfl _ _ _ 4 _ (by rfl) hown (by rfl) rfl (by simp [Value.oneCell']) (by omega) hsz ?_; intro v' w3 hown3 hg hat; have hown4 : w3.ownsRow W.heap.size 5 1 v' (2 + 5 * 4 + 4) (bys (bodyB ⟨k, xs⟩ 4 ++ beTo x 4 4)) := (by rw [bys_append, be4_vals x hx]; exact hown3); have hcv := conv_bytes (ByS.own (R := Bl w3.heap.size) hown4 (fun b h => (hown4.lt b h).2)); clear hown3)
        go_ret2
        rw [HR.out]
        have hb3 : Below W.heap.size W w3 := hbr.grown hg hsz (fun b h => (hown.lt b h).1)
        exact ⟨by rw [HX.out]; rfl, Below.on hbW (by omega) hb3⟩
  · have hval' : validR ⟨k, xs⟩ = false := by simpa using hval
    have HR : Hid (FrameRes ⟨k, xs⟩ = .tuple #[.string ⟨#[]⟩, .int .i64 117]) := by unfold FrameRes; rw [if_neg hval]; exact rfl
    rw [hval'] at HV
    clear hval hval'
    go_enter Try.func14, Try.ntmps14
    go_wp2_with fail
    rw [← hW]
    refine HV.out.mono ?_
    rintro e w1 ⟨rfl, hb1⟩
    clear hW
    go_wp2
    go_ret2
    rw [HR.out]
    exact ⟨rfl, Below.on hbW (by omega) hb1⟩
end Go.Proofs.Ytffamkodckghgaa

