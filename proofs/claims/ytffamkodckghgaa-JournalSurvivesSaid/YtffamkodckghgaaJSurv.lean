import Derived.Test.YtffamkodckghgaaJSure
import Derived.Test.YtffamkodckghgaaJFences
namespace Go.Proofs.Ytffamkodckghgaa
open Go.RowKit
set_option linter.unusedVariables false
set_option linter.unusedSimpArgs false
theorem appendS_bad {L : LogS} {t : Int} {r : Rec} (h : ¬ t < L.term) (hv : validR r = false) : appendS L t r = (L, 117) := by
  unfold appendS; rw [if_neg h, if_pos hv]
theorem own_log_ne {T t : TypeId} {w : World} {base g : Nat} {size n : Nat} {v : Value} {xs : List Value} {L : LogS} (h : w.ownsRow base t size v n xs) (hL : LogAt T w g L) (ht : t ≠ T) : v.ownBlock ≠ some g := by
  rcases h.2 with ⟨rfl, _⟩ | ⟨g', cap, cur, rfl, _, hh, _⟩
  · simp [Value.ownBlock]
  · intro he
    have : g' = g := by simpa [Value.ownBlock] using he
    subst this
    unfold LogAt at hL
    rw [hL] at hh
    injection hh with hh
    injection hh with _ hh
    exact ht hh.symm
theorem own_kept {w w2 : World} {base : Nat} {t : TypeId} {size n : Nat} {v : Value} {xs : List Value} (h : w.ownsRow base t size v n xs) (hg : w.grownBy w2 v.ownBlock) (hB : base ≤ w.heap.size) : Kept (Bl base) w w2 :=
  fun b hb => hg.block b (Nat.lt_of_lt_of_le hb hB) (fun e => by have := (h.lt b e.symm).1; unfold Bl at hb; omega)
theorem LogAt.other {T : TypeId} {w w2 : World} {g : Nat} {row : Option Nat} {L : LogS} (h : LogAt T w g L) (hb : w.grownBy w2 row) (hg : row ≠ some g) : LogAt T w2 g L := (hb.block g h.cells.2.2.2.2.2.2 (fun e => hg e.symm)).trans h
theorem same_block {T : TypeId} {w w2 : World} {g : Nat} {L : LogS} (h : LogAt T w g L) (h2 : LogAt T w2 g L) (hg : w.grownBy w2 (some g)) : Below w.heap.size w w2 :=
  ⟨hg.os, hg.tape, hg.output, hg.size, fun i hi => by
    by_cases e : i = g
    · subst e; unfold LogAt at h h2; rw [h, h2]
    · exact hg.block i hi (fun e2 => e (by injection e2))⟩

set_option maxHeartbeats 6400000 in
set_option maxRecDepth 100000 in
theorem lawSurvives_walk (v0 v1 : Value) (fs bs : List Rec) (keep more : Int) (w : World) (ha : RecS w (Bl w.heap.size) v0 fs) (hb : RecS w (Bl w.heap.size) v1 bs) (hk : I64 keep) (hm : I64 more) :
    Calls Try.prog 8 #[v0, v1, .int .i64 keep, .int .i64 more] w fun e w' => e = .returned (.bool true) ∧ Below w.heap.size w w' := by
  obtain ⟨A0, c0, rfl, -, hm0⟩ := ha.form
  obtain ⟨A1, c1, rfl, -, hm1⟩ := hb.form
  have HL0 := Lib.hid (light_any _ fs _ w ha)
  have HL1 := Lib.hid (light_any _ bs _ w hb)
  cases hl0 : lightB fs with
  | false =>
    rw [hl0] at HL0
    clear hl0 ha hb HL1
    go_enter Try.func8, Try.ntmps8
    go_wp2_with fail
    refine HL0.out.mono ?_
    rintro e w1 ⟨rfl, rfl⟩
    go_wp2_with fail
    refine (awake_any _).mono ?_
    rintro e w2 ⟨rfl, hb2⟩
    go_wp2
    go_ret
    exact ⟨rfl, hb2⟩
  | true =>
  cases hl1 : lightB bs with
  | false =>
    rw [hl0] at HL0
    rw [hl1] at HL1
    clear hl0 hl1 ha hb
    go_enter Try.func8, Try.ntmps8
    go_wp2_with fail
    refine HL0.out.mono ?_
    rintro e w1 ⟨rfl, rfl⟩
    go_wp2_with fail
    refine HL1.out.mono ?_
    rintro e w1 ⟨rfl, rfl⟩
    go_wp2_with fail
    refine (awake_any _).mono ?_
    rintro e w2 ⟨rfl, hb2⟩
    go_wp2
    go_ret
    exact ⟨rfl, hb2⟩
  | true =>
    obtain ⟨h40, -⟩ := lightB_true hl0
    obtain ⟨h41, -⟩ := lightB_true hl1
    rw [hl0] at HL0
    rw [hl1] at HL1
    clear hl0 hl1
    have HA := Lib.hid ha
    have HB := Lib.hid hb
    clear ha hb
    go_enter Try.func8, Try.ntmps8
    go_wp2_with fail
    refine HL0.out.mono ?_
    rintro e w1 ⟨rfl, rfl⟩
    go_wp2_with fail
    refine HL1.out.mono ?_
    rintro e w1 ⟨rfl, rfl⟩
    go_wp2_with fail
    refine (new_any _).mono ?_
    rintro e w2 ⟨rfl, hL2, hb2⟩
    go_wp2_with fail
    obtain ⟨g, hg⟩ : ∃ g, g = w.heap.size := ⟨_, rfl⟩
    rw [← hg] at hL2 ⊢
    have hgW : w.heap.size ≤ g := by omega
    clear hg
    go_loopg [10, 12] fs.length (fun n v10 v12 wr => ∃ (j : Nat) (L : LogS), j ≤ fs.length ∧ n = fs.length - j ∧ v12 = .int .i64 j ∧ LogAt 74 wr g L ∧ Hid (L.data = framesB (fs.take j)) ∧ Hid (L.dur = 0) ∧ 0 ≤ L.term ∧ L.term ≤ 1 ∧ SureR wr w.heap.size 24 v10 (goodL (fs.take j)) ∧ Below w.heap.size w wr)
    case atStart => exact ⟨0, ⟨[], 0, 0⟩, by omega, rfl, rfl, hL2, rfl, rfl, by simp, by simp, SureR.nil _ _ _, hb2⟩
    case round =>
      obtain ⟨j, L, hj, rfl, rfl, hL, HD, HU, ht0, ht1, hsure, hbr⟩ := hrel
      have hsz := hbr.size
      have hg40 := goodL_length (fs.take j)
      have hg41 : (fs.take j).length ≤ j := List.length_take_le _ _
      have hfl := framesB_length (fs.take j)
      have hdl : L.data.length ≤ 26 * j := by rw [HD.out]; omega
      have hg42 : (goodL (fs.take j)).length ≤ 40 := by omega
      have hO : LogOk L := ⟨by rw [HU.out]; omega, by omega, by unfold I64; omega⟩
      clear hfl hg40 hg41
      by_cases hlt : j < fs.length
      · obtain ⟨b, off, va, rfl, hR, hc0, hc1, hva, hkk⟩ := HA.out.at_ hlt
        have htk := Lib.hid (List.take_succ_eq_append_getElem hlt)
        have hvaw := (hva.keep (kept_below hbr)).mono (Bl.mono hsz)
        have hd0 := (hbr.cell (p := ⟨b, off + j * 2, none⟩) hR).trans hc0
        have hd1 := (hbr.cell (p := ⟨b, off + j * 2 + 1, none⟩) hR).trans hc1
        have hap := append_any g L 1 fs[j].kind va fs[j].args wr hL ⟨by omega, by omega⟩ hO hkk hvaw
        obtain ⟨r, hr⟩ : ∃ r, r = fs[j] := ⟨_, rfl⟩
        rw [← hr] at hc0 hva hkk htk hvaw hd0 hap
        have hrr : (⟨r.kind, r.args⟩ : Rec) = r := rfl
        rw [hrr] at hap
        clear hr hrr
        cases hval : validR r with
        | false =>
          rw [appendS_bad (by omega) hval] at hap
          have HP := Lib.hid hap
          have HV := Lib.hid hval
          clear hap hval
          go_wp2_with fail
          refine HP.out.mono ?_
          rintro e w3 ⟨rfl, hL3, hg3⟩
          have hsure3 := hsure.log hL (by decide) hg3 hgW hsz
          have hb3 := below_only hbr hg3 hgW hsz
          go_wp2_with fail
          go_roundg (fs.length - (j + 1))
          case measure => omega
          case rel => exact ⟨j + 1, L, by omega, rfl, by go_num, hL3, by rw [htk.out, framesB_no HV.out]; exact HD, HU, ht0, ht1, by rw [htk.out, goodL_no HV.out]; exact hsure3, hb3⟩
        | true =>
          rw [appendS_ok (by omega) hval (by omega)] at hap
          have HP := Lib.hid hap
          have HV := Lib.hid hval
          clear hap hval
          go_wp2_with fail
          refine HP.out.mono ?_
          rintro e w3 ⟨rfl, hL3, hg3⟩
          have hsure3 := hsure.log hL (by decide) hg3 hgW hsz
          have hb3 := below_only hbr hg3 hgW hsz
          have hsz3 := hb3.size
          have he0 := (hb3.cell (p := ⟨b, off + j * 2, none⟩) hR).trans hc0
          have he1 := (hb3.cell (p := ⟨b, off + j * 2 + 1, none⟩) hR).trans hc1
          obtain ⟨⟨cs, ho, hone, hc⟩, hrk⟩ := hsure3
          obtain ⟨Av, cv, rfl, -, -⟩ := hva.form
          have hva3 := hva.keep (kept_below hb3)
          go_wp2_with (at_builtin; refine app_rec (.tmp 43) (.tmp 48) rfl rfl _ _ _ _ (by rfl) ho (by rfl) rfl rfl (by omega) hsz3 ?_; intro v' w4 hown4 hg4 hat)
          have hkp := own_kept ho hg4 hsz3
          have hL4 := LogAt.other hL3 hg4 (own_log_ne ho hL3 (by decide))
          have hb4 := hb3.grown hg4 hsz3 (fun b h => (ho.lt b h).1)
          go_roundg (fs.length - (j + 1))
          case measure => omega
          case rel => exact ⟨j + 1, _, by omega, rfl, by go_num, hL4, by rw [htk.out, framesB_yes HV.out, ← HD.out]; exact rfl, HU, by simp, by simp, by rw [htk.out, goodL_yes HV.out]; exact SureR.push hrk hone hc ho hkk hva3 rfl hown4 hkp, hb4⟩
      · obtain rfl : j = fs.length := by omega
        rw [List.take_length] at HD hsure hg42
        have hs5 := sync_any g L 1 wr hL ⟨by omega, by omega⟩ hO
        rw [syncS_ok (by omega)] at hs5
        have HS5 := Lib.hid hs5
        clear hs5
        go_wp2_with fail
        refine HS5.out.mono ?_
        rintro e w3 ⟨rfl, hL3, hg3⟩
        have hsure3 := hsure.log hL (by decide) hg3 hgW hsz
        have hb3 := below_only hbr hg3 hgW hsz
        have hsz3 := hb3.size
        have hl0 := Lib.hid (framesB_length fs)
        go_wp2_with (at_builtin; refine app_sure (.tmp 53) (.tmp 54) rfl rfl _ _ _ (by rfl) (by rfl) hsure3 (by omega) hsz3 ?_; intro v4 w4 hall4 hb4')
        have hL4 := hL3.below hb4' hL3.cells.2.2.2.2.2.2
        have hb4 := Below.on hb3 hsz3 hb4'
        obtain ⟨L4, hL4e⟩ : ∃ L4 : LogS, L4 = { L with dur := L.data.length, term := 1 } := ⟨_, rfl⟩
        rw [← hL4e] at hL4
        have hD4 : Hid (L4.data = framesB fs) := by rw [hL4e]; exact HD
        have hU4 : Hid (L4.dur = 26 * (goodL fs).length) := by rw [hL4e]; show L.data.length = _; rw [HD.out, hl0.out]
        have hT4 : L4.term = 1 := by rw [hL4e]
        have hgl0 := goodL_length fs
        obtain ⟨A10, c10, hv10, -, -⟩ := (hsure.recS hsz).form
        subst hv10
        clear hL4e hsure hsure3 hL hL3 hb3 hg3 hbr hb4' hsz hsz3 hO HD HU hdl
        go_wp2_with fail
        go_loopg [11, 13] bs.length (fun n v11 v13 wr => ∃ (j : Nat) (L : LogS), j ≤ bs.length ∧ n = bs.length - j ∧ v13 = .int .i64 j ∧ LogAt 74 wr g L ∧ Hid (L.data = framesB (fs ++ bs.take j)) ∧ Hid (L.dur = 26 * (goodL fs).length) ∧ L.term = 1 ∧ SureR wr w.heap.size 24 v11 (goodL (fs ++ bs.take j)) ∧ Below w.heap.size w wr)
        case atStart => exact ⟨0, L4, by omega, rfl, rfl, hL4, by simpa using hD4, hU4, hT4, by simpa using hall4, hb4⟩
        case round =>
          clear hL4 hD4 hU4 hT4 hall4 hb4
          obtain ⟨j, L, hj, rfl, rfl, hL, HD, HU, ht1, hsure, hbr⟩ := hrel
          have hsz := hbr.size
          have hg40 := goodL_length (fs ++ bs.take j)
          have hg41 : (bs.take j).length ≤ j := List.length_take_le _ _
          have hg43 : (fs ++ bs.take j).length = fs.length + (bs.take j).length := List.length_append
          have hfl := framesB_length (fs ++ bs.take j)
          have hdl : L.data.length ≤ 2080 := by rw [HD.out]; omega
          have hg42 : (goodL (fs ++ bs.take j)).length ≤ 80 := by omega
          have hge : (goodL fs).length ≤ (goodL (fs ++ bs.take j)).length := by
            unfold goodL; rw [List.filter_append, List.length_append]; omega
          have hO : LogOk L := ⟨by rw [HU.out, HD.out]; omega, by omega, by unfold I64; omega⟩
          clear hfl hg40 hg41 hg43
          by_cases hlt : j < bs.length
          · obtain ⟨b, off, va, rfl, hR, hc0, hc1, hva, hkk⟩ := HB.out.at_ hlt
            have htk0 : fs ++ bs.take (j + 1) = (fs ++ bs.take j) ++ [bs[j]] := by rw [List.take_succ_eq_append_getElem hlt, List.append_assoc]
            have htk := Lib.hid htk0
            clear htk0
            have hvaw := (hva.keep (kept_below hbr)).mono (Bl.mono hsz)
            have hd0 := (hbr.cell (p := ⟨b, off + j * 2, none⟩) hR).trans hc0
            have hd1 := (hbr.cell (p := ⟨b, off + j * 2 + 1, none⟩) hR).trans hc1
            have hap := append_any g L 1 bs[j].kind va bs[j].args wr hL ⟨by omega, by omega⟩ hO hkk hvaw
            obtain ⟨r, hr⟩ : ∃ r, r = bs[j] := ⟨_, rfl⟩
            rw [← hr] at hc0 hva hkk htk hvaw hd0 hap
            have hrr : (⟨r.kind, r.args⟩ : Rec) = r := rfl
            rw [hrr] at hap
            clear hr hrr
            cases hval : validR r with
            | false =>
              rw [appendS_bad (by omega) hval] at hap
              have HP := Lib.hid hap
              have HV := Lib.hid hval
              clear hap hval
              go_wp2_with fail
              refine HP.out.mono ?_
              rintro e w3 ⟨rfl, hL3, hg3⟩
              have hsure3 := hsure.log hL (by decide) hg3 hgW hsz
              have hb3 := below_only hbr hg3 hgW hsz
              go_wp2_with fail
              go_roundg (bs.length - (j + 1))
              case measure => omega
              case rel => exact ⟨j + 1, L, by omega, rfl, by go_num, hL3, by rw [htk.out, framesB_no HV.out]; exact HD, HU, ht1, by rw [htk.out, goodL_no HV.out]; exact hsure3, hb3⟩
            | true =>
              rw [appendS_ok (by omega) hval (by omega)] at hap
              have HP := Lib.hid hap
              have HV := Lib.hid hval
              clear hap hval
              go_wp2_with fail
              refine HP.out.mono ?_
              rintro e w3 ⟨rfl, hL3, hg3⟩
              have hsure3 := hsure.log hL (by decide) hg3 hgW hsz
              have hb3 := below_only hbr hg3 hgW hsz
              have hsz3 := hb3.size
              have he0 := (hb3.cell (p := ⟨b, off + j * 2, none⟩) hR).trans hc0
              have he1 := (hb3.cell (p := ⟨b, off + j * 2 + 1, none⟩) hR).trans hc1
              obtain ⟨⟨cs, ho, hone, hc⟩, hrk⟩ := hsure3
              obtain ⟨Av, cv, rfl, -, -⟩ := hva.form
              have hva3 := hva.keep (kept_below hb3)
              go_wp2_with (at_builtin; refine app_rec (.tmp 69) (.tmp 74) rfl rfl _ _ _ _ (by rfl) ho (by rfl) rfl rfl (by omega) hsz3 ?_; intro v' w4 hown4 hg4 hat)
              have hkp := own_kept ho hg4 hsz3
              have hL4 := LogAt.other hL3 hg4 (own_log_ne ho hL3 (by decide))
              have hb4 := hb3.grown hg4 hsz3 (fun b h => (ho.lt b h).1)
              go_roundg (bs.length - (j + 1))
              case measure => omega
              case rel => exact ⟨j + 1, _, by omega, rfl, by go_num, hL4, by rw [htk.out, framesB_yes HV.out, ← HD.out]; exact rfl, HU, by simp, by rw [htk.out, goodL_yes HV.out]; exact SureR.push hrk hone hc ho hkk hva3 rfl hown4 hkp, hb4⟩
          · obtain rfl : j = bs.length := by omega
            rw [List.take_length] at HD hsure hg42 hge
            have hga : goodL (fs ++ bs) = goodL fs ++ goodL bs := by unfold goodL; exact List.filter_append ..
            have hgl : (goodL (fs ++ bs)).length ≤ 80 := hg42
            have hdd : L.data = (goodL fs ++ goodL bs).flatMap frameB := by rw [HD.out]; unfold framesB; rw [hga]
            obtain ⟨q, hq1, hq2, hsc, hdu, hdlq, hcc⟩ := surv_facts (goodL fs) (goodL bs) keep more (goodL_valid _) (goodL_valid _) L hdd HU.out
            have hscL : scan L.data = goodL (fs ++ bs) := by
              have h := scan_frames (goodL (fs ++ bs)) (goodL_valid _) []
              rw [List.append_nil] at h
              rw [HD.out]; unfold framesB; rw [h, scan_short (by simp), List.append_nil]
            rw [← hga] at hq2 hsc
            clear hdd hga
            have hO2 : LogOk (crashS L keep) := ⟨by rw [hdu, hdlq]; omega, by rw [hdlq]; omega, by show I64 L.term; unfold I64; omega⟩
            have HSC := Lib.hid hsc
            have HSL := Lib.hid hscL
            have HDU := Lib.hid hdu
            have HDL := Lib.hid hdlq
            have HCC := Lib.hid hcc
            have HCR := fun W' h => Lib.hid (crash_any g L keep W' h hk hO)
            have HCR2 := fun W' h => Lib.hid (crash_any g (crashS L keep) more W' h hm hO2)
            have HRE := fun W' h => Lib.hid (records_any g (crashS L keep) W' h hO2)
            generalize crashS L keep = M at *
            clear hsc hscL hdu hdlq hcc
            obtain ⟨A11, c11, hv11, hcap11, -⟩ := (hsure.recS hsz).form
            subst hv11
            go_wp2_with fail
            refine (clone_any g L wr hL).mono ?_
            rintro e w3 ⟨rfl, hT3, hb3'⟩
            have hb3 := Below.on hbr hsz hb3'
            have hgr := hL.cells.2.2.2.2.2.2
            have hL3 := hL.below hb3' hgr
            have hsure3 := hsure.below hb3' hsz
            obtain ⟨h, hh⟩ : ∃ h, h = wr.heap.size := ⟨_, rfl⟩
            rw [← hh] at hT3 ⊢
            have hgh : g < h := by omega
            clear hh hb3' hgr hL hsure hbr
            have hsz3 := hb3.size
            go_wp2_with fail
            refine (records_any h L w3 hT3 hO).mono ?_
            rintro e w4 ⟨v4, rfl, hv4, hb4'⟩
            rw [HSL.out] at hv4
            have hb4 := Below.on hb3 hsz3 hb4'
            have hT4 := hT3.below hb4' hT3.cells.2.2.2.2.2.2
            have hL4 := hL3.below hb4' hL3.cells.2.2.2.2.2.2
            have hsure4 := hsure3.below hb4' hsz3
            have hs4 := sameRecs_any _ _ _ _ _ _ w4 hv4 (hsure4.recS hb4.size)
            rw [eqB_true rfl] at hs4
            have HS4 := Lib.hid hs4
            clear hs4 hT3 hL3 hsure3 hb4'
            obtain ⟨A4, c4, rfl, -, -⟩ := hv4.form
            go_wp2_with fail
            refine HS4.out.mono ?_
            rintro e w5 ⟨rfl, n5, rfl⟩
            have hb5 := Below.drewN' hb4 n5
            have hL5 := hL4.drewN n5
            have hT5 := hT4.drewN n5
            have hsure5 : SureR (w4.drewN n5) w.heap.size 24 (.slice A11 (goodL (fs ++ bs)).length c11) (goodL (fs ++ bs)) := hsure4.below (Below.drewN' (Below.refl _ _) n5) hb4.size
            generalize w4.drewN n5 = w5 at *
            clear hb4 hL4 hT4 hsure4 HS4
            go_wp2_with fail
            have hcr := HCR w5 hL5
            refine hcr.out.mono ?_
            rintro e w6 ⟨rfl, hL6, hg6⟩
            have hb6 := below_only hb5 hg6 hgW hb5.size
            have hT6 := hT5.grown hg6 (by omega)
            have hsure6 := hsure5.log hL5 (by decide) hg6 hgW hb5.size
            have hre := HRE w6 hL6
            clear hcr
            go_wp2_with fail
            refine hre.out.mono ?_
            rintro e w7 ⟨v7, rfl, hv7, hb7'⟩
            rw [HSC.out] at hv7
            obtain ⟨A7, c7, hv7e, -, -⟩ := hv7.form
            have htl : ((goodL (fs ++ bs)).take q).length = q := by rw [List.length_take]; omega
            rw [htl] at hv7e
            subst hv7e
            have hb7 := Below.on hb6 hb6.size hb7'
            have hT7 := hT6.below hb7' hT6.cells.2.2.2.2.2.2
            have hL7 := hL6.below hb7' hL6.cells.2.2.2.2.2.2
            have hsure7 := hsure6.below hb7' hb6.size
            have hall7 := hsure7.recS hb7.size
            have hs7 := sameRecs_any _ _ _ _ _ _ w7 hv7 (hall7.takeS (k := q) hq2)
            rw [eqB_true rfl] at hs7
            have HS7 := Lib.hid hs7
            clear hs7 hre HRE hb7' hT6 hL6 hsure6 hb6 htl
            go_wp2_with fail
            refine HS7.out.mono ?_
            rintro e w8 ⟨rfl, n8, rfl⟩
            have hb8 := Below.drewN' hb7 n8
            have hL8 := hL7.drewN n8
            have hT8 := hT7.drewN n8
            have hsure8 : SureR (w7.drewN n8) w.heap.size 24 (.slice A11 (goodL (fs ++ bs)).length c11) (goodL (fs ++ bs)) := hsure7.below (Below.drewN' (Below.refl _ _) n8) hb7.size
            have hv8 : RecS (w7.drewN n8) (Bl (w7.drewN n8).heap.size) (.slice A7 q c7) ((goodL (fs ++ bs)).take q) := hv7.keep (fun _ _ => rfl)
            generalize w7.drewN n8 = w8 at *
            clear hb7 hL7 hT7 hsure7 HS7 hv7 hall7
            have hcr := HCR2 w8 hL8
            rw [HCC.out] at hcr
            go_wp2_with fail
            refine hcr.out.mono ?_
            rintro e w9 ⟨rfl, hL9, hg9⟩
            have hb9' := same_block hL8 hL9 hg9
            have hb9 := Below.on hb8 hb8.size hb9'
            have hT9 := hT8.below hb9' hT8.cells.2.2.2.2.2.2
            have hsure9 := hsure8.below hb9' hb8.size
            have hv9 := (hv8.keep (kept_below hb9')).mono (Bl.mono hb9'.size)
            clear hcr HCR HCR2 hb8 hL8 hT8 hsure8 hv8 hg9
            go_wp2_with fail
            have hby := bytes_any g M w9 hL9
            rw [HDU.out] at hby
            have hMs : ((⟨M.data.toArray⟩ : ByteArray).size : Nat) = 26 * q := by show M.data.toArray.size = _; rw [← HDL.out]; simp
            have HBY := Lib.hid hby
            have HRE2 := fun W' h => Lib.hid (records_any g M W' h hO2)
            rw [HSC.out] at HRE2
            have HRE3 := fun W' h' => Lib.hid (records_any h L W' h' hO)
            rw [HSL.out] at HRE3
            clear hby HSC HSL HDU HDL HCC hO hO2
            refine HBY.out.mono ?_
            rintro e w10 ⟨rfl, n10, rfl⟩
            go_wp2_with fail
            refine (awake_any _).mono ?_
            rintro e w11 ⟨rfl, hb11'⟩
            have hb11w : Below w9.heap.size w9 w11 := Below.on (Below.drewN' (Below.refl _ _) n10) (Nat.le_refl _) hb11'
            have hL11 := hL9.below hb11w hL9.cells.2.2.2.2.2.2
            have hT11 := hT9.below hb11w hT9.cells.2.2.2.2.2.2
            have hsure11 := hsure9.below hb11w hb9.size
            have hv11 := (hv9.keep (kept_below hb11w)).mono (Bl.mono hb11w.size)
            have hb11 := Below.on hb9 hb9.size hb11w
            clear hL9 hT9 hsure9 hv9 hb11w hb11' HBY
            have hre := HRE2 w11 hL11
            go_wp2_with fail
            refine hre.out.mono ?_
            rintro e w12 ⟨v12, rfl, hv12, hb12'⟩
            have hT12 := hT11.below hb12' hT11.cells.2.2.2.2.2.2
            have hsure12 := hsure11.below hb12' hb11.size
            have hw12 := (hv11.keep (kept_below hb12')).mono (Bl.mono hb12'.size)
            have hb12 := Below.on hb11 hb11.size hb12'
            have hs12 := sameRecs_any _ _ _ _ _ _ w12 hv12 hw12
            rw [eqB_true rfl] at hs12
            have HS12 := Lib.hid hs12
            obtain ⟨A12, c12, hv12e, -, -⟩ := hv12.form
            have htl : ((goodL (fs ++ bs)).take q).length = q := by rw [List.length_take]; omega
            rw [htl] at hv12e
            subst hv12e
            clear hs12 hre htl
            go_wp2_with fail
            refine HS12.out.mono ?_
            rintro e w13 ⟨rfl, n13, rfl⟩
            have hb13 := Below.drewN' hb12 n13
            have hT13 := hT12.drewN n13
            have hsure13 : SureR (w12.drewN n13) w.heap.size 24 (.slice A11 (goodL (fs ++ bs)).length c11) (goodL (fs ++ bs)) := hsure12.below (Below.drewN' (Below.refl _ _) n13) hb12.size
            generalize w12.drewN n13 = w13 at *
            have hre := HRE3 w13 hT13
            go_wp2_with fail
            refine hre.out.mono ?_
            rintro e w14 ⟨v14, rfl, hv14, hb14'⟩
            have hsure14 := hsure13.below hb14' hb13.size
            have hb14 := Below.on hb13 hb13.size hb14'
            have hs14 := sameRecs_any _ _ _ _ _ _ w14 hv14 (hsure14.recS hb14.size)
            rw [eqB_true rfl] at hs14
            have HS14 := Lib.hid hs14
            obtain ⟨A14, c14, rfl, -, -⟩ := hv14.form
            clear hs14 hre
            go_wp2_with fail
            refine HS14.out.mono ?_
            rintro e w15 ⟨rfl, n15, rfl⟩
            go_wp2
            go_ret
            exact ⟨rfl, Below.drewN' hb14 n15⟩
end Go.Proofs.Ytffamkodckghgaa
