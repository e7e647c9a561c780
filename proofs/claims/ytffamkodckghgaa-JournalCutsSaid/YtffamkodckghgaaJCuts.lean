import Derived.Test.YtffamkodckghgaaJW9
namespace Go.Proofs.Ytffamkodckghgaa
open Go.RowKit
set_option linter.unusedVariables false
set_option linter.unusedSimpArgs false

set_option maxHeartbeats 6400000 in
set_option maxRecDepth 100000 in
theorem lawCuts_walk (vl : Value) (rs : List Rec) (at_ : Int) (w : World) (hv : RecS w (Bl w.heap.size) vl rs) (hat : I64 at_) :
    Calls Try.prog 5 #[vl, .int .i64 at_] w fun e w' => e = .returned (.bool true) ∧ Below w.heap.size w w' := by
  obtain ⟨A, c, rfl, -, hm⟩ := hv.form
  have HL := Lib.hid (light_any _ rs _ w hv)
  cases hlb : lightB rs with
  | false =>
    rw [hlb] at HL
    clear hlb hv
    go_enter Try.func5, Try.ntmps5
    go_wp2_with fail
    refine HL.out.mono ?_
    rintro e w1 ⟨rfl, rfl⟩
    go_wp2_with fail
    refine (awake_any _).mono ?_
    rintro e w2 ⟨rfl, hb2⟩
    go_wp2
    go_ret
    exact ⟨rfl, hb2⟩
  | true =>
    obtain ⟨h40, -⟩ := lightB_true hlb
    rw [hlb] at HL
    have hg40 := goodL_length rs
    have hfl := flat_length (goodL rs)
    obtain ⟨L, hL⟩ : ∃ L, L = framesB rs := ⟨_, rfl⟩
    have hLl : L.length ≤ 1040 := by rw [hL]; show ((goodL rs).flatMap frameB).length ≤ _; omega
    have hwr := within_range at_ ((L.length : Int) + 1) (by omega)
    obtain ⟨m, hm⟩ : ∃ m : Nat, within at_ ((L.length : Int) + 1) = (m : Int) := ⟨(within at_ ((L.length : Int) + 1)).toNat, by omega⟩
    have hmL : m ≤ L.length := by omega
    obtain ⟨f1, f2, f3, f4, f5, f6⟩ := cuts_facts rs m (by rw [← hL]; exact hmL)
    rw [← hL] at f1 f2 f3 f4 f5 f6
    have HF := Lib.hid (frames_any (.slice A rs.length c) rs w (by omega) hv)
    have HW := Lib.hid (within_any at_ ((L.length : Int) + 1) · hat ⟨by omega, by omega⟩)
    rw [hm] at HW
    have hLs : ((⟨L.toArray⟩ : ByteArray).size : Int) = (L.length : Int) := by show ((L.toArray.size : Nat) : Int) = _; simp
    have hex : (ByteArray.extract ⟨L.toArray⟩ 0 m).data.toList = L.take m := by
      rw [ByteArray.data_extract, Array.toList_extract, List.extract_eq_take_drop]; simp
    have hsc := fun W' => scan_any (ByteArray.extract ⟨L.toArray⟩ 0 m) W' (by
      have : (ByteArray.extract ⟨L.toArray⟩ 0 m).size ≤ L.length := by
        have h := congrArg List.length hex
        rw [Array.length_toList, List.length_take] at h
        have : (ByteArray.extract ⟨L.toArray⟩ 0 m).size = (ByteArray.extract ⟨L.toArray⟩ 0 m).data.size := rfl
        omega
      omega)
    rw [hex] at hsc
    obtain ⟨a, ha⟩ : ∃ a, a = scan (L.take m) := ⟨_, rfl⟩
    have HSC := Lib.hid hsc
    have HA := Lib.hid ha
    have F1 := Lib.hid f1
    have F2 := Lib.hid f2
    have F5 := Lib.hid f5
    have F6 := Lib.hid f6
    rw [← ha] at F1 F2 F5 f3 f4
    clear hsc hex hLs hlb hv hm hwr f1 f2 f5 f6 hfl ha
    go_enter Try.func5, Try.ntmps5
    go_wp2_with fail
    refine HL.out.mono ?_
    rintro e w1 ⟨rfl, rfl⟩
    go_wp2_with fail
    refine HF.out.mono ?_
    rintro e w1 ⟨vg, rfl, hvg, hb1⟩
    rw [← hL]
    obtain ⟨Ag, cg, rfl, hcg, -⟩ := hvg.form
    have HLs := Lib.hid hL
    clear hL
    go_wp2_with fail
    refine (HW.out _).mono ?_
    rintro e w2 ⟨rfl, rfl⟩
    go_wp2_with fail
    refine (HSC.out _).mono ?_
    rintro e w2 ⟨va, rfl, hva, hb2⟩
    rw [← HA.out] at hva ⊢
    have hb12 := Below.on hb1 hb1.size hb2
    obtain ⟨Aa, ca, rfl, -, -⟩ := hva.form
    have hvg2 := (hvg.keep (kept_below hb2)).takeS f3
    rw [← F1.out] at hvg2
    have hs := sameRecs_any _ _ _ _ _ _ w2 hva hvg2
    rw [eqB_true rfl] at hs
    have HS := Lib.hid hs
    clear hs
    have hx : (ByteArray.extract ⟨L.toArray⟩ 0 (a.length * 26)).toList = L.take (a.length * 26) := by
      rw [ByteArray.toList_eq, ByteArray.data_extract, Array.toList_extract, List.extract_eq_take_drop]; simp
    have hga : goodL a = a := by rw [HA.out]; exact scan_good _
    have HX := Lib.hid hx
    have HG := Lib.hid hga
    clear hx hga
    go_wp2_with fail
    refine HS.out.mono ?_
    rintro e w3 ⟨rfl, n3, rfl⟩
    have hva3 : RecS (w2.drewN n3) (Bl (w2.drewN n3).heap.size) (.slice Aa a.length ca) a := hva.keep (fun _ _ => rfl)
    have hb13 : Below w.heap.size w (w2.drewN n3) := Below.drewN' hb12 n3
    obtain ⟨W3, hW3⟩ : ∃ W3, W3 = w2.drewN n3 := ⟨_, rfl⟩
    rw [← hW3] at hva3 hb13 ⊢
    clear hW3
    go_wp2_with fail
    refine (frames_any _ a W3 (by omega) hva3).mono ?_
    rintro e w4 ⟨vm, rfl, hvm, hb4⟩
    rw [HG.out] at hvm
    rw [F5.out]
    obtain ⟨Am, cm, rfl, -, -⟩ := hvm.form
    have hb14 := Below.on hb13 hb13.size hb4
    go_wp2_with fail
    refine (awake_any _).mono ?_
    rintro e w5 ⟨rfl, hb5⟩
    have hx := HX.out
    go_wp2_with fail
    go_ret
    refine ⟨ret_bool ?_, Below.on hb14 hb14.size hb5⟩
    have h2 := F2.out
    have h6 := F6.out
    simp; omega
end Go.Proofs.Ytffamkodckghgaa
