import Derived.Test.YtffamkodckghgaaJW9
import Derived.Test.YtffamkodckghgaaJFlip
namespace Go.Proofs.Ytffamkodckghgaa
open Go.RowKit
set_option linter.unusedVariables false
set_option linter.unusedSimpArgs false
/-- Where two lists of one length differ first. -/
theorem first_diff {α : Type} : ∀ (x l : List α), x.length = l.length → x ≠ l → ∃ d, d < l.length ∧ x.take d = l.take d ∧ x[d]? ≠ l[d]? := by
  intro x
  induction x with
  | nil => intro l hl hne; cases l with
    | nil => exact absurd rfl hne
    | cons c l => simp at hl
  | cons a x ih =>
    intro l hl hne
    cases l with
    | nil => simp at hl
    | cons c l =>
      by_cases h : a = c
      · subst h
        obtain ⟨d, h1, h2, h3⟩ := ih l (by simpa using hl) (fun e => hne (by rw [e]))
        exact ⟨d + 1, by simpa using h1, by simpa using h2, by simpa using h3⟩
      · exact ⟨0, by simp, by simp, by simpa using h⟩

set_option maxHeartbeats 6400000 in
set_option maxRecDepth 100000 in
theorem lawBursts_walk (vl : Value) (rs : List Rec) (bit mask : Int) (w : World) (hv : RecS w (Bl w.heap.size) vl rs) (hbit : I64 bit) (hmk : 0 ≤ mask ∧ mask ≤ 4294967295) :
    Calls Try.prog 6 #[vl, .int .i64 bit, .int .u32 mask] w fun e w' => e = .returned (.bool true) ∧ Below w.heap.size w w' := by
  obtain ⟨A, c, rfl, -, hm⟩ := hv.form
  have HL := Lib.hid (light_any _ rs _ w hv)
  cases hlb : lightB rs with
  | false =>
    rw [hlb] at HL
    clear hlb hv
    go_enter Try.func6, Try.ntmps6
    go_wp2_with fail
    refine HL.out.mono ?_
    rintro e w1 ⟨rfl, rfl⟩
    go_wp2_with fail
    refine (awake_any _).mono ?_
    rintro e w2 ⟨rfl, hb2⟩
    go_wp2
    go_ret
    exact ⟨rfl, hb2⟩
  | true =>
    obtain ⟨h40, -⟩ := lightB_true hlb
    rw [hlb] at HL
    have hg40 := goodL_length rs
    have hfl := flat_length (goodL rs)
    obtain ⟨L, hL⟩ : ∃ L, L = framesB rs := ⟨_, rfl⟩
    have hLg : L.length = 26 * (goodL rs).length := by rw [hL]; exact hfl
    have hLl : L.length ≤ 1040 := by omega
    have HF := Lib.hid (frames_any (.slice A rs.length c) rs w (by omega) hv)
    clear hlb hv hm hfl
    by_cases hnil : L = []
    · go_enter Try.func6, Try.ntmps6
      go_wp2_with fail
      refine HL.out.mono ?_
      rintro e w1 ⟨rfl, rfl⟩
      go_wp2_with fail
      refine HF.out.mono ?_
      rintro e w1 ⟨vg, rfl, hvg, hb1⟩
      obtain ⟨Ag, cg, rfl, hcg, -⟩ := hvg.form
      rw [← hL]
      clear hL hLg hLl
      subst hnil
      go_wp2_with fail
      refine (awake_any _).mono ?_
      rintro e w2 ⟨rfl, hb2⟩
      go_wp2
      go_ret
      exact ⟨rfl, Below.on hb1 hb1.size hb2⟩
    · have hL0 : 0 < L.length := List.length_pos_iff.2 hnil
      have hwr := within_range bit (8 * (L.length : Int)) (by omega)
      obtain ⟨p, hp⟩ : ∃ p : Nat, within bit (8 * (L.length : Int)) = (p : Int) := ⟨(within bit (8 * (L.length : Int))).toNat, by omega⟩
      have hpL : p ≤ 8 * L.length := by omega
      have HW := Lib.hid (within_any bit (8 * (L.length : Int)) · hbit ⟨by omega, by omega⟩)
      rw [hp] at HW
      have HFl := Lib.hid (fun W' => flip_any L p mask W' (by omega) hpL hmk)
      have he1 : L.isEmpty = false := by simpa using hnil
      have HN := Lib.hid hnil
      have HP := Lib.hid hLg
      have HL2 := Lib.hid hL
      clear hp hwr hLg hnil
      go_enter Try.func6, Try.ntmps6
      go_wp2_with fail
      refine HL.out.mono ?_
      rintro e w1 ⟨rfl, rfl⟩
      go_wp2_with fail
      refine HF.out.mono ?_
      rintro e w1 ⟨vg, rfl, hvg, hb1⟩
      obtain ⟨Ag, cg, rfl, hcg, -⟩ := hvg.form
      rw [← hL]
      clear hL
      go_wp2_with fail
      refine (HW.out _).mono ?_
      rintro e w2 ⟨rfl, rfl⟩
      go_wp2_with fail
      refine (HFl.out _).mono ?_
      rintro e w2 ⟨x, rfl, hx, hb2'⟩
      have hb2 := Below.on hb1 hb1.size hb2'
      have hvg2 := (hvg.keep (kept_below hb2')).mono (Bl.mono hb2'.size)
      clear hb2' hvg HF HFl HW
      by_cases hxe : x = L
      · subst hxe
        go_wp2_with fail
        refine (awake_any _).mono ?_
        rintro e w3 ⟨rfl, hb3⟩
        go_wp2
        go_ret
        exact ⟨rfl, Below.on hb2 hb2.size hb3⟩
      · obtain ⟨d, hd1, hd2, hd3⟩ := first_diff x L hx.1 hxe
        have hfb : framesB rs = (goodL rs).flatMap frameB := rfl
        obtain ⟨hs1, hs2⟩ := burst_scan (goodL rs) (goodL_valid rs) x (by rw [← hfb, ← HL2.out]; exact hx.1) p d (by rw [← hfb, ← HL2.out, hx.1]; exact hx.2) (by rw [hx.1]; exact hd1) (by rw [← hfb, ← HL2.out]; exact hd2) (by rw [← hfb, ← HL2.out]; exact hd3)
        have HX := Lib.hid hx.1
        have hxl : x.length ≤ L.length := by rw [hx.1]; exact Nat.le_refl _
        have hxl2 : L.length ≤ x.length := by rw [hx.1]; exact Nat.le_refl _
        have HS1 := Lib.hid hs1
        have HD2 := Lib.hid hd2
        have HD3 := Lib.hid hd3
        obtain ⟨q, hq⟩ : ∃ q, q = d / 26 := ⟨_, rfl⟩
        rw [← hq] at hs2 HS1
        have hq1 : 26 * q ≤ d := by omega
        have hq2 : d < 26 * q + 26 := by omega
        clear hs1 hd2 hd3 hx hfb hq
        have hne : (x == L) = false := by rw [beq_eq_false_iff_ne]; exact hxe
        clear hxe
        go_wp2_with fail
        go_loopg [10] d (fun n v10 wr => ∃ j : Nat, j ≤ d ∧ n = d - j ∧ v10 = .int .i64 (j : Nat) ∧ Hid (∃ k, wr = w2.drewN k))
        case atStart => exact ⟨0, by omega, rfl, rfl, 0, rfl⟩
        case round =>
          obtain ⟨j, hj, rfl, rfl, hw⟩ := hrel
          obtain ⟨k, rfl⟩ := hw.out
          clear hw
          have hjx : j < x.length := by omega
          have hjl : j < L.length := by omega
          by_cases hlt : j < d
          · have hxx : ((((⟨x.toArray⟩ : ByteArray)[j]'hjx).toNat : Int) == (((⟨L.toArray⟩ : ByteArray)[j]'hjl).toNat : Int)) = true := by
              have e1 : (⟨x.toArray⟩ : ByteArray)[j]'hjx = x[j] := rfl
              have e2 : (⟨L.toArray⟩ : ByteArray)[j]'hjl = L[j] := rfl
              have e3 : x[j] = L[j] := by
                have h := congrArg (fun l : List UInt8 => l[j]?) HD2.out
                simp only [List.getElem?_take_of_lt hlt] at h
                rw [List.getElem?_eq_getElem hjx, List.getElem?_eq_getElem hjl] at h
                simpa using h
              rw [e1, e2, e3]; simp
            go_wp2_with fail
            go_quiet (fail)
            go_wp2
            go_roundg (d - (j + 1))
            case measure => omega
            case rel => exact ⟨j + 1, by omega, rfl, by go_num, ⟨_, rfl⟩⟩
          · obtain rfl : j = d := by omega
            have hxx : ((((⟨x.toArray⟩ : ByteArray)[j]'hjx).toNat : Int) == (((⟨L.toArray⟩ : ByteArray)[j]'hjl).toNat : Int)) = false := by
              have e1 : (⟨x.toArray⟩ : ByteArray)[j]'hjx = x[j] := rfl
              have e2 : (⟨L.toArray⟩ : ByteArray)[j]'hjl = L[j] := rfl
              rw [e1, e2, beq_eq_false_iff_ne]
              intro h
              apply HD3.out
              rw [List.getElem?_eq_getElem hjx, List.getElem?_eq_getElem hjl]
              congr 1
              apply UInt8.toNat_inj.1
              omega
            go_wp2_with fail
            go_quiet (fail)
            go_wp2_with fail
            have hsc := fun W' => scan_any ⟨x.toArray⟩ W' (by show x.toArray.size ≤ _; simp; omega)
            have hdl : (⟨x.toArray⟩ : ByteArray).data.toList = x := by simp
            rw [hdl] at hsc
            have HSC := Lib.hid hsc
            have hcnt : (scan x).length * 26 = 26 * q := by rw [HS1.out, List.length_take]; omega
            have HCNT := Lib.hid hcnt
            clear hsc hdl hcnt hxx
            have hb3 := Below.drewN' (Below.drewN' hb2 k) nq
            have hvg3 : RecS ((w2.drewN k).drewN nq) (Bl ((w2.drewN k).drewN nq).heap.size) (.slice Ag (goodL rs).length cg) (goodL rs) := hvg2.keep (fun _ _ => rfl)
            generalize (w2.drewN k).drewN nq = w3 at *
            clear hb2 hvg2
            go_loopg [11, 12] q (fun n v11 v12 wr => ∃ i : Nat, i ≤ q ∧ n = q - i ∧ v11 = .int .i64 (i : Nat) ∧ v12 = .int .i64 (26 * (i : Int)) ∧ Below w3.heap.size w3 wr)
            case atStart => exact ⟨0, by omega, rfl, rfl, rfl, Below.refl _ _⟩
            case round =>
              obtain ⟨i, hi, rfl, rfl, rfl, hbr⟩ := hrel
              have hig : i < (goodL rs).length := by omega
              have hvr := (hvg3.keep (kept_below hbr)).mono (Bl.mono hbr.size)
              obtain ⟨b, off, va, rfl, hR, hc0, hc1, hva, hkk⟩ := hvr.at_ hig
              have hfr := refframe_any _ va _ wr hkk hva
              have hval := goodL_valid rs _ (List.getElem_mem hig)
              generalize (goodL rs)[i] = r at *
              have hrr : (⟨r.kind, r.args⟩ : Rec) = r := rfl
              rw [hrr, show FrameRes r = .tuple #[.string ⟨(frameB r).toArray⟩, .int .i64 0] from if_pos hval] at hfr
              have hfl : ((frameB r).length : Int) = 26 := by have := frameB_length r; omega
              have HFR := Lib.hid hfr
              clear hrr hfr hval hvr
              obtain ⟨Av, cv, rfl, -, -⟩ := hva.form
              by_cases hiq : i < q
              · go_wp2_with fail
                refine HFR.out.mono ?_
                rintro e w4 ⟨rfl, hb4⟩
                go_wp2
                go_roundg (q - (i + 1))
                case measure => omega
                case rel => exact ⟨i + 1, by omega, rfl, by go_num, by go_num, Below.on hbr hbr.size hb4⟩
              · obtain rfl : i = q := by omega
                go_wp2_with fail
                refine HFR.out.mono ?_
                rintro e w4 ⟨rfl, hb4⟩
                go_wp2_with fail
                refine (HSC.out _).mono ?_
                rintro e w5 ⟨v5, rfl, hv5, hb5⟩
                rw [HCNT.out]
                have hb15 := Below.on (Below.on hbr hbr.size hb4) (by have := hbr.size; have := hb4.size; omega) hb5
                have hvg5 := ((hvg3.keep (kept_below hb15)).mono (Bl.mono hb15.size)).takeS (k := i) (by omega)
                rw [HS1.out] at hv5
                obtain ⟨A5, c5, hv5e, -, -⟩ := hv5.form
                have htl : ((goodL rs).take i).length = i := by rw [List.length_take]; omega
                rw [htl] at hv5e
                subst hv5e
                clear htl
                have HV5 := Lib.hid hv5
                have HVG5 := Lib.hid hvg5
                clear hv5 hvg5
                go_wp2_with fail
                refine (awake_any _).mono ?_
                rintro e w6 ⟨rfl, hb6⟩
                have hb16 := Below.on hb15 hb15.size hb6
                have hv6 := (HV5.out.keep (kept_below hb6)).mono (Bl.mono hb6.size)
                have hvg6 := (HVG5.out.keep (kept_below hb6)).mono (Bl.mono hb6.size)
                have hs := sameRecs_any _ _ _ _ _ _ w6 hv6 hvg6
                rw [eqB_true rfl] at hs
                have HS := Lib.hid hs
                clear hs hv6 hvg6
                go_wp2_with fail
                refine HS.out.mono ?_
                rintro e w7 ⟨rfl, n7, rfl⟩
                go_wp2
                go_ret
                exact ⟨rfl, Below.drewN' (Below.on hb3 hb3.size hb16) n7⟩
end Go.Proofs.Ytffamkodckghgaa
