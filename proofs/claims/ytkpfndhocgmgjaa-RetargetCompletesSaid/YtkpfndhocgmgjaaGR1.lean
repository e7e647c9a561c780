/- The reference's Encode of a good code, and SameRows. -/
import Derived.Test.YtkpfndhocgmgjaaGP
import Derived.Test.YtkpfndhocgmgjaaGW4
namespace Go.Proofs.Ytkpfndhocgmgjaa
open Go.RowKit
set_option linter.unusedVariables false
set_option linter.unusedSimpArgs false
set_option maxRecDepth 100000 in
set_option maxHeartbeats 1600000 in
theorem refencode_any (k m n : Nat) (vd : Value) (d : Mat) (w : World) (hc : codeB k m = true) (hk : d.length = k) (hd : MatS w (Bl w.heap.size) vd d) (hw : Wide d n) (hn : n ≤ 65536) :
    Calls Try.prog 9 #[.int .i64 (k : Int), .int .i64 (m : Int), vd] w fun e w' => ∃ v, e = .returned (.tuple #[v, .int .i64 0]) ∧ MatS w' (Bl w'.heap.size) v (wordT k (k + m) d n) ∧ Below w.heap.size w w' := by
  have hck := (codeB_iff k m).1 hc
  obtain ⟨hK1, hK6, -, hM4, hn8⟩ := hck
  have HC := Lib.hid (r07code_any (k : Int) (m : Int) · (by unfold I64; omega) (by unfold I64; omega))
  rw [hc] at HC
  obtain ⟨Ad, cd, rfl, -, -⟩ := hd.form
  have hkk : ((d.length : Int) != (k : Int)) = false := by rw [hk]; simp
  have HK := Lib.hid hk
  clear hc
  generalize hdl : d.length = dl at *
  have HDL := Lib.hid hdl
  clear hk hdl
  go_enter Try.func9, Try.ntmps9
  go_wp2_with fail
  refine (HC.out _).mono ?_
  rintro e w' ⟨rfl, rfl⟩
  go_wp2_with fail
  clear HC hkk
  go_loopg [8, 9] (k + m) (fun z v8 v9 wr => ∃ a : Nat, a ≤ k + m ∧ z = k + m - a ∧ v9 = .int .i64 (a : Int) ∧ OwnM wr w.heap.size v8 (wordT k a d n) ∧ Below w.heap.size w wr)
  case atStart => exact ⟨0, by omega, rfl, rfl, OwnM.nil _ _, Below.refl _ _⟩
  case round =>
    obtain ⟨a, ha, rfl, rfl, hO, hb⟩ := hrel
    have hsz := hb.size
    obtain ⟨A7, c7, hv7⟩ := hO.form
    rw [wordT_length] at hv7
    subst hv7
    by_cases hlt : a < k + m
    · have hlt2 : (a : Int) < (k : Int) + (m : Int) := by omega
      go_wp2_with fail
      refine (factors_any k a wr (by omega) (by omega)).mono ?_
      rintro e w2 ⟨vc, rfl, hvc, hb2⟩
      have hd2 := (hd.below hb).below hb2
      obtain ⟨Ac, cc, hvc2, -, -⟩ := hvc.form
      rw [coefR_length] at hvc2
      subst hvc2
      have hcb := refcombine_any _ _ _ _ n w2 (hvc.mono Fr.bl) hd2 (by rw [coefR_length, HDL.out, HK.out]) (by rw [HDL.out, HK.out]; omega) (by rw [HDL.out, HK.out]; omega) hw hn
      have HCB := Lib.hid hcb
      clear hcb hd2 hvc
      go_wp2_with fail
      refine HCB.out.mono ?_
      rintro e w3 ⟨v3, rfl, hv3, hb3⟩
      have hO3 := (hO.below hb2).below hb3
      have hb13 := hb2.trans (hb3.mono hb2.size)
      obtain ⟨A3, c3, hv32, -, -⟩ := hv3.form
      rw [combT_length] at hv32
      subst hv32
      obtain ⟨xs, ho3, hc3⟩ := hO3
      obtain ⟨xs0, ho0, -⟩ := hO
      have hown0 := ho0.lt
      have hsz3 := Nat.le_trans hsz hb13.size
      rw [wordT_length] at ho3
      have hone : (Value.slice A3 n c3).oneCell' = true := rfl
      clear ho0 xs0
      go_wp2_with (at_builtin; refine app_row (.tmp 40) (.tmp 42) rfl rfl _ _ _ _ (by rfl) ho3 (by rfl) hone (by omega) hsz3 ?_; intro v' w4 hown' hg hat)
      go_roundg (k + m - (a + 1))
      case measure => omega
      case rel =>
        refine ⟨a + 1, by omega, rfl, by go_num, ?_, (hb.trans (hb13.mono hsz)).grown hg hsz3 (fun b h => (ho3.lt b h).1)⟩
        rw [wordT_succ]
        refine OwnM.push (by rw [wordT_length]; exact ho3) hc3 (hv3.mono (fun b hb => ⟨hb.2, Fr.sub (w := w3) hb (fun q hq => Nat.lt_of_lt_of_le (hown0 q hq).2 hb2.size)⟩)) (by rw [wordT_length]; exact hown') hg hat
    · have haI : Hid (a = k + m) := (by omega : a = k + m)
      have hlt2 : ¬ (a : Int) < (k : Int) + (m : Int) := by omega
      go_wp2
      go_ret2
      have h := hO.matS
      rw [haI.out] at h
      exact ⟨_, rfl, by rw [haI.out]; exact h, hb⟩
theorem FragS.same {w : World} {R R' : Nat → Prop} {v : Value} {hs : List Frg} (h : FragS w R v hs) (hr : ∀ b, R b → R' b) : FragS w R' v hs := h.mono hr
set_option maxRecDepth 100000 in
set_option maxHeartbeats 1600000 in
theorem samerows_any (va vb : Value) (hs : List Frg) (w : World) (R : Nat → Prop) (ha : FragS w R va hs) (hb : FragS w R vb hs) :
    Calls Try.prog 12 #[va, vb] w fun e w' => e = .returned (.bool true) ∧ Below w.heap.size w w' := by
  obtain ⟨Aa, ca, rfl, hca, hma⟩ := ha.form
  obtain ⟨Ab, cb, rfl, hcb, hmb⟩ := hb.form
  unfold maxLen at hma hmb
  have e1 : ((hs.length : Int) != (hs.length : Int)) = false := by simp
  have HA := Lib.hid ha
  have HB := Lib.hid hb
  clear ha hb
  go_enter Try.func12, Try.ntmps12
  go_wp2_with fail
  go_loopg [5] hs.length (fun z v5 wr => ∃ j : Nat, j ≤ hs.length ∧ z = hs.length - j ∧ v5 = .int .i64 (j : Int) ∧ ∃ n, wr = w.drewN n)
  case atStart => exact ⟨0, by omega, rfl, rfl, 0, rfl⟩
  case round =>
    obtain ⟨j, hj, rfl, rfl, n, rfl⟩ := hrel
    by_cases hlt : j < hs.length
    · obtain ⟨b1, o1, v1, rfl, hR1, c1, c2, hv1, -⟩ := HA.out.at_ (k := j) hlt
      obtain ⟨b2, o2, v2, rfl, hR2, d1, d2, hv2, -⟩ := HB.out.at_ (k := j) hlt
      generalize hs[j] = f at *
      obtain ⟨Av, cv, rfl, -, -⟩ := hv1.form
      obtain ⟨Aw, cw, rfl, -, -⟩ := hv2.form
      have y1 := conv_bytes (w := (w.drewN n).drew) (hv1.keep (w' := (w.drewN n).drew) (fun _ _ => rfl))
      have y2 := conv_bytes (w := (w.drewN n).drew) (hv2.keep (w' := (w.drewN n).drew) (fun _ _ => rfl))
      have q1 : (f.data == f.data) = true := by simp
      have q2 : (f.idx != f.idx) = false := by simp
      have q3 : (f.idx == f.idx) = true := by simp
      have j1 : (0 : Int) ≤ (j : Int) := by omega
      have j2 : (j : Int) < (hs.length : Int) := by omega
      obtain ⟨W, hW⟩ : ∃ W, W = w.drewN n := ⟨_, rfl⟩
      have c1' : W.cell? ⟨b1, o1 + j * 2, none⟩ = some (.int .i64 f.idx) := by rw [hW]; exact c1
      have c2' : W.cell? ⟨b1, o1 + j * 2 + 1, none⟩ = some (.slice Av f.data.length cv) := by rw [hW]; exact c2
      have d1' : W.cell? ⟨b2, o2 + j * 2, none⟩ = some (.int .i64 f.idx) := by rw [hW]; exact d1
      have d2' : W.cell? ⟨b2, o2 + j * 2 + 1, none⟩ = some (.slice Aw f.data.length cw) := by rw [hW]; exact d2
      rw [← hW] at y1 y2
      clear hv1 hv2 c1 c2 d1 d2
      go_upto_region 6 with fail
      rw [← hW]
      have HW := Lib.hid hW
      clear hW
      go_region
      all_goals
        go_wp2_with fail
        go_roundg (hs.length - (j + 1))
        case measure => omega
        case rel => exact ⟨j + 1, by omega, rfl, by go_num, n + 1, by rw [HW.out]; rfl⟩
    · go_wp2
      go_ret
      exact ⟨rfl, Below.drewN' (Below.refl _ _) n⟩
end Go.Proofs.Ytkpfndhocgmgjaa
