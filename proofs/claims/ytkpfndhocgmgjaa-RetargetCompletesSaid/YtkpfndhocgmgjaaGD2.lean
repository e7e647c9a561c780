/- Code words, walked. -/
import Derived.Test.YtkpfndhocgmgjaaGD1
namespace Go.Proofs.Ytkpfndhocgmgjaa
open Go.RowKit
set_option linter.unusedVariables false
set_option linter.unusedSimpArgs false
theorem wordT_succ (k a : Nat) (d : Mat) (m : Nat) : wordT k (a + 1) d m = wordT k a d m ++ [combT (coefR k a) d m] := by simp [wordT, List.range_succ]
theorem Fr.sub {w : World} {B n : Nat} {v : Value} {b : Nat} (hb : Fr B n b) (ho : ∀ k, v.ownBlock = some k → k < B) : v.ownBlock ≠ some b := fun e => by have := ho b e; have := hb.1; omega
set_option maxRecDepth 100000 in
set_option maxHeartbeats 1600000 in
theorem word_any (k n : Nat) (vd : Value) (d : Mat) (m : Nat) (w : World) (hk : d.length = k) (h0 : 0 < k) (hk6 : k ≤ 32) (hn : n ≤ 32) (hd : MatS w (Bl w.heap.size) vd d) (hw : Wide d m) (hm : m ≤ 65536) :
    Calls Try.prog 23 #[.int .i64 (k : Int), .int .i64 (n : Int), vd] w fun e w' => ∃ v, e = .returned v ∧ MatS w' (Bl w'.heap.size) v (wordT k (k + n) d m) ∧ Below w.heap.size w w' := by
  obtain ⟨i0, hi0, hz0, hz1, hz2⟩ := info_parts info_row
  obtain ⟨w1, hrun, hown1, hgr1⟩ := run_makeSlice_owned (P := Try.prog) w w.heap.size 35 25 i0 _ 1 Try.underlying35 hi0 hz0 hz1 .i64 .i64 (k + n) (by omega) (by rw [hz2]; omega) (by unfold maxLen; omega) (Nat.le_refl _)
  have hb1 : Below w.heap.size w w1 := ⟨hgr1.os, hgr1.tape, hgr1.output, hgr1.size, fun i hi => hgr1.block i hi (by simp)⟩
  have ekn : ((k + n : Nat) : Int) = (k : Int) + (n : Int) := by omega
  rw [ekn] at hrun
  have HK := Lib.hid hk
  clear hgr1 hk ekn
  go_enter Try.func23, Try.ntmps23
  go_wp2
  go_loopg [7, 8] (k + n) (fun z v7 v8 wr => ∃ a : Nat, a ≤ k + n ∧ z = k + n - a ∧ v8 = .int .i64 (a : Int) ∧ OwnM wr w.heap.size v7 (wordT k a d m) ∧ Below w.heap.size w wr)
  case atStart => exact ⟨0, by omega, rfl, rfl, ⟨[], by rw [wordT_length]; exact hown1, fun j hj => by rw [wordT_length] at hj; omega⟩, hb1⟩
  case round =>
    clear hown1 hb1 hrun
    obtain ⟨a, ha, rfl, rfl, hO, hb⟩ := hrel
    have hsz := hb.size
    obtain ⟨A7, c7, hv7⟩ := hO.form
    rw [wordT_length] at hv7
    subst hv7
    by_cases hlt : a < k + n
    · have hlt2 : (a : Int) < (k : Int) + (n : Int) := by omega
      go_wp2_with fail
      refine (coefficients_any k a wr (by omega) (by omega)).mono ?_
      rintro e w2 ⟨vc, rfl, hvc, hb2⟩
      have hd2 := (hd.below hb).below hb2
      obtain ⟨Ac, cc, hvc2, -, -⟩ := hvc.form
      rw [coefR_length] at hvc2
      subst hvc2
      have hcb := combine_any _ _ _ _ m w2 (hvc.mono Fr.bl) hd2 (by rw [coefR_length, HK.out]) (by rw [HK.out]; exact h0) (by rw [HK.out]; omega) hw hm
      have HCB := Lib.hid hcb
      clear hcb hd2 hvc
      go_wp2_with fail
      refine HCB.out.mono ?_
      rintro e w3 ⟨v3, rfl, hv3, hb3⟩
      have hO3 := (hO.below hb2).below hb3
      have hb13 := hb2.trans (hb3.mono hb2.size)
      obtain ⟨A3, c3, hv32, -, -⟩ := hv3.form
      rw [combT_length] at hv32
      subst hv32
      obtain ⟨xs, ho3, hc3⟩ := hO3
      obtain ⟨xs0, ho0, -⟩ := hO
      have hown0 := ho0.lt
      have hsz3 := Nat.le_trans hsz hb13.size
      rw [wordT_length] at ho3
      have hone : (Value.slice A3 m c3).oneCell' = true := rfl
      clear ho0 xs0
      go_wp2_with (at_builtin; refine app_row (.tmp 30) (.tmp 32) rfl rfl _ _ _ _ (by rfl) ho3 (by rfl) hone (by omega) hsz3 ?_; intro v' w4 hown' hg hat)
      go_roundg (k + n - (a + 1))
      case measure => omega
      case rel =>
        refine ⟨a + 1, by omega, rfl, by go_num, ?_, (hb.trans (hb13.mono hsz)).grown hg hsz3 (fun b h => (ho3.lt b h).1)⟩
        rw [wordT_succ]
        refine OwnM.push (by rw [wordT_length]; exact ho3) hc3 (hv3.mono (fun b hb => ⟨hb.2, Fr.sub (w := w3) hb (fun q hq => Nat.lt_of_lt_of_le (hown0 q hq).2 hb2.size)⟩)) (by rw [wordT_length]; exact hown') hg hat
    · have haI : Hid (a = k + n) := (by omega : a = k + n)
      have hlt2 : ¬ (a : Int) < (k : Int) + (n : Int) := by omega
      go_wp2
      go_ret
      have h := hO.matS
      rw [haI.out] at h
      exact ⟨_, rfl, by rw [haI.out]; exact h, hb⟩
end Go.Proofs.Ytkpfndhocgmgjaa
