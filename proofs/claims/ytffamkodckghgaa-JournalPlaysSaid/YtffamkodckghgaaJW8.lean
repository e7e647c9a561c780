import Derived.Test.YtffamkodckghgaaJW7
import Derived.Test.YtffamkodckghgaaJMath6
namespace Go.Proofs.Ytffamkodckghgaa
open Go.RowKit
set_option linter.unusedVariables false
set_option linter.unusedSimpArgs false
theorem goodL_yes {rs : List Rec} {r : Rec} (h : validR r = true) : goodL (rs ++ [r]) = goodL rs ++ [r] := by simp [goodL, List.filter_append, h]
theorem goodL_no {rs : List Rec} {r : Rec} (h : validR r = false) : goodL (rs ++ [r]) = goodL rs := by simp [goodL, List.filter_append, h]
theorem framesB_yes {rs : List Rec} {r : Rec} (h : validR r = true) : framesB (rs ++ [r]) = framesB rs ++ frameB r := by simp [framesB, goodL_yes h]
theorem framesB_no {rs : List Rec} {r : Rec} (h : validR r = false) : framesB (rs ++ [r]) = framesB rs := by simp [framesB, goodL_no h]
theorem goodL_length (rs : List Rec) : (goodL rs).length ≤ rs.length := List.length_filter_le _ _
theorem framesB_length (rs : List Rec) : (framesB rs).length = 26 * (goodL rs).length := flat_length _
/-- What frames returns. -/
def FramesRes (rs : List Rec) (w : World) (e : Ending) (w' : World) : Prop :=
  ∃ v, e = .returned (.tuple #[.string ⟨(framesB rs).toArray⟩, v]) ∧ RecS w' (Bl w'.heap.size) v (goodL rs) ∧ Below w.heap.size w w'

set_option maxHeartbeats 3200000 in
theorem frames_any (vl : Value) (rs : List Rec) (w : World) (hl : rs.length ≤ 65536) (hv : RecS w (Bl w.heap.size) vl rs) :
    Calls Try.prog 18 #[vl] w (FramesRes rs w) := by
  obtain ⟨A, c, rfl, -, -⟩ := hv.form
  have HV := Lib.hid hv
  clear hv
  go_enter Try.func18, Try.ntmps18
  go_wp2
  go_loopg [4, 5, 6] rs.length (fun g v4 v5 v6 wr => ∃ j : Nat, j ≤ rs.length ∧ g = rs.length - j ∧ v6 = .int .i64 j ∧ v4 = .string ⟨(framesB (rs.take j)).toArray⟩ ∧ OwnRecs wr w.heap.size 24 v5 (goodL (rs.take j)) ∧ Below w.heap.size w wr)
  case atStart => exact ⟨0, by omega, rfl, rfl, rfl, OwnRecs.nil _ _ _, Below.refl _ _⟩
  case round =>
    obtain ⟨j, hj, rfl, rfl, rfl, hown, hbr⟩ := hrel
    have hsz := hbr.size
    by_cases hlt : j < rs.length
    · obtain ⟨b, off, va, rfl, hR, hc0, hc1, hva, hk⟩ := (HV.out.keep (kept_below hbr)).at_ hlt
      have htk := Lib.hid (List.take_succ_eq_append_getElem hlt)
      have hrr : (⟨rs[j].kind, rs[j].args⟩ : Rec) = rs[j] := rfl
      have hfr := refframe_any rs[j].kind va rs[j].args wr hk (hva.mono (Bl.mono hsz))
      rw [hrr] at hfr
      have hg40 := goodL_length (rs.take j)
      have hg41 : (rs.take j).length ≤ j := List.length_take_le _ _
      have hfl := framesB_length (rs.take j)
      have hfl2 : (framesB (rs.take j)).length ≤ 1703936 := by omega
      have hg42 : (goodL (rs.take j)).length ≤ 65536 := by omega
      clear hfl hg40 hg41
      generalize rs[j] = r at *
      by_cases hval : validR r = true
      · have e : FrameRes r = .tuple #[.string ⟨(frameB r).toArray⟩, .int .i64 0] := by unfold FrameRes; rw [if_pos hval]
        rw [e] at hfr
        have H1 := Lib.hid (goodL_yes (rs := rs.take j) hval)
        have H2 := Lib.hid (framesB_yes (rs := rs.take j) hval)
        have hfb : (frameB r).length ≤ 26 := by rw [frameB_length]; omega
        have HF := Lib.hid hfr
        obtain ⟨A2, c2, rfl, -, -⟩ := hva.form
        clear e hfr hrr hval
        go_wp2_with fail
        refine HF.out.mono ?_
        rintro e w2 ⟨rfl, hb2⟩
        have d0 := (hb2.cell (p := ⟨b, off + j * 2, none⟩) (Nat.lt_of_lt_of_le hR hsz)).trans hc0
        have d1 := (hb2.cell (p := ⟨b, off + j * 2 + 1, none⟩) (Nat.lt_of_lt_of_le hR hsz)).trans hc1
        obtain ⟨⟨cs, ho, hcc⟩, hkk⟩ := hown.below hb2
        have hb3 := Below.on hbr hsz hb2
        have hsz2 := hb3.size
        go_wp2_with (at_builtin; refine app_rec (.tmp 28) (.tmp 33) rfl rfl _ _ _ _ (by rfl) ho (by rfl) rfl rfl (by omega) hsz2 ?_; intro v' w4 hown4 hg hat)
        have hva2 : IntS w2 (fun b => b < w2.heap.size ∧ u5.ownBlock ≠ some b) (.slice A2 r.args.length c2) r.args :=
          (hva.keep (kept_below' hb2 hsz)).mono (fun b hb => ⟨Nat.lt_of_lt_of_le hb hsz2, fun e => by have := (ho.lt b e).1; have : b < w.heap.size := hb; omega⟩)
        go_roundg (rs.length - (j + 1))
        case measure => omega
        case rel => exact ⟨j + 1, by omega, rfl, by go_num, by rw [htk.out, H2.out, ByteArray.mk_append_mk], by rw [htk.out, H1.out]; exact OwnRecs.push hkk hcc ho hk hva2 hown4 hg hat, hb3.grown hg hsz2 (fun b h => (ho.lt b h).1)⟩
      · have hval' : validR r = false := by simpa using hval
        have e : FrameRes r = .tuple #[.string ⟨#[]⟩, .int .i64 117] := by unfold FrameRes; rw [if_neg hval]
        rw [e] at hfr
        have H1 := Lib.hid (goodL_no (rs := rs.take j) hval')
        have H2 := Lib.hid (framesB_no (rs := rs.take j) hval')
        have HF := Lib.hid hfr
        clear e hfr hrr hval hval'
        go_wp2_with fail
        refine HF.out.mono ?_
        rintro e w2 ⟨rfl, hb2⟩
        go_wp2
        go_roundg (rs.length - (j + 1))
        case measure => omega
        case rel => exact ⟨j + 1, by omega, rfl, by go_num, by rw [htk.out, H2.out], by rw [htk.out, H1.out]; exact hown.below hb2, Below.on hbr hsz hb2⟩
    · obtain rfl : j = rs.length := by omega
      have e := Lib.hid (List.take_length (l := rs))
      go_wp2
      go_ret2
      exact ⟨u5, by rw [e.out]; rfl, by have h := hown.recS; rw [e.out] at h; exact h, hbr⟩
end Go.Proofs.Ytffamkodckghgaa
