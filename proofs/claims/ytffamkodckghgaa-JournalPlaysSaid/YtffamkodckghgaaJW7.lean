import Derived.Test.YtffamkodckghgaaJW6
import Derived.Test.YtffamkodckghgaaJMath4
namespace Go.Proofs.Ytffamkodckghgaa
open Go.RowKit
set_option linter.unusedVariables false
set_option linter.unusedSimpArgs false
theorem kept_alloc' {R : Nat → Prop} {w : World} {o : Obj} (hR : ∀ b, R b → b < w.heap.size) : Kept R w (w.alloc o) := fun b hb => Below.heap_alloc w o b (hR b hb)
/-- What Scan returns. -/
def ScanRes (l : List UInt8) (w : World) (e : Ending) (w' : World) : Prop :=
  ∃ v, e = .returned (.tuple #[v, .int .i64 ((scan l).length * 26 : Nat)]) ∧ RecS w' (Bl w'.heap.size) v (scan l) ∧ Below w.heap.size w w'

set_option maxHeartbeats 3200000 in
theorem scan_any (s : ByteArray) (w : World) (hs : s.size ≤ 16777216) :
    Calls Try.prog 19 #[.string s] w (ScanRes s.data.toList w) := by
  have hsl : s.data.toList.length = s.size := by rw [Array.length_toList]; rfl
  go_enter Try.func19, Try.ntmps19
  have HSL := Lib.hid hsl
  clear hsl
  go_wp2
  go_loopg [4, 5] s.size (fun g v4 v5 wr => ∃ (rs : List Rec), 26 * rs.length ≤ s.size ∧ g = s.size - 26 * rs.length ∧ v5 = .int .i64 (26 * rs.length : Nat) ∧ OwnRecs wr w.heap.size 24 v4 rs ∧ Below w.heap.size w wr ∧
    scan s.data.toList = rs ++ scan (s.data.toList.drop (26 * rs.length)))
  case atStart => exact ⟨[], by simp, by simp, rfl, OwnRecs.nil _ _ _, Below.refl _ _, by simp⟩
  case round =>
    obtain ⟨rs, hle, rfl, rfl, hown, hbr, hsc⟩ := hrel
    have HSC := Lib.hid hsc
    clear hsc
    obtain ⟨m, hm⟩ : ∃ m, m = 26 * rs.length := ⟨_, rfl⟩
    have hle2 : rs.length ≤ 645278 := by omega
    rw [← hm] at hle HSC ⊢
    have HM := Lib.hid hm
    clear hm
    have hex : (s.extract m (m + 26)).data.toList = (s.data.toList.drop m).take 26 := by
      rw [ByteArray.data_extract, Array.toList_extract, List.extract_eq_take_drop, show m + 26 - m = 26 from by omega]
    by_cases hlt : m + 26 ≤ s.size
    · have p1 : (0 : Int) ≤ (m : Int) := by omega
      have p2 : (m : Int) ≤ (m : Int) + 26 := by omega
      have p3 : (m : Int) + 26 ≤ (s.size : Int) := by omega
      have t2 : ((m : Int) + 26).toNat = m + 26 := by omega
      have hse : (s.extract m (m + 26)).size = 26 := by simp; omega
      have hp := parse_any (s.extract m (m + 26)) wr hse
      rw [hex] at hp
      have hlen : 26 ≤ (s.data.toList.drop m).length := by rw [List.length_drop, HSL.out]; omega
      obtain ⟨r, hr⟩ : ∃ r, r = recOf ((s.data.toList.drop m).take 26) := ⟨_, rfl⟩
      have hrk : I64 r.kind := by rw [hr]; have := kindOf_range ((s.data.toList.drop m).take 26); exact ⟨by show _ ≤ kindOf _; omega, by show kindOf _ ≤ _; omega⟩
      by_cases hf : isFrame ((s.data.toList.drop m).take 26) = true
      · have hs2 := scan_yes hlen hf
        rw [hf] at hp
        rw [← hr] at hp hs2
        have HP := Lib.hid hp
        have HS2 := Lib.hid hs2
        clear hp hs2 hf hr hse hex hlen
        go_wp2_with fail
        refine HP.out.mono ?_
        rintro e w2 ⟨va, rfl, hva, hb2⟩
        obtain ⟨A2, c2, rfl, -, -⟩ := hva.form
        have hown3 : OwnRecs (w2.alloc (.cells #[.int .i64 r.kind, .slice A2 r.args.length c2] 24)) w.heap.size 24 u4 rs := hown.below (hb2.alloc hb2.size _)
        obtain ⟨⟨cs, ho, hc⟩, hk⟩ := hown3
        clear p1 p2 p3 t2
        go_upto_region 6 with fail
        obtain ⟨W3, hW3⟩ : ∃ W3, W3 = w2.alloc (.cells #[.int .i64 r.kind, .slice A2 r.args.length c2] 24) := ⟨_, rfl⟩
        have hb3 : Below w.heap.size w W3 := by rw [hW3]; exact (Below.on hbr hbr.size hb2).alloc (by have := hb2.size; have := hbr.size; omega) _
        have d0 : W3.cell? ⟨w2.heap.size, 0, none⟩ = some (.int .i64 r.kind) := by rw [hW3]; simp
        have d1 : W3.cell? ⟨w2.heap.size, 1, none⟩ = some (.slice A2 r.args.length c2) := by rw [hW3]; simp
        have hva3 : IntS W3 (fun b => b < W3.heap.size ∧ u4.ownBlock ≠ some b) (.slice A2 r.args.length c2) r.args := by
          have h1 := hva.keep (kept_alloc' (o := .cells #[.int .i64 r.kind, .slice A2 r.args.length c2] 24) (fun b hb => hb.2))
          rw [← hW3] at h1
          refine h1.mono (fun b hb => ⟨?_, fun e => ?_⟩)
          · rw [hW3]; simp; have := hb.2; omega
          · have := (hown.1.choose_spec.1.lt b e).2; have := hb.1; omega
        rw [← hW3] at ho hc ⊢
        clear hW3
        have hsz3 := hb3.size
        go_wp2_with (at_builtin; refine app_rec (.tmp 24) (.tmp 26) rfl rfl _ _ _ _ (by rfl) ho (by rfl) rfl rfl (by omega) hsz3 ?_; intro v' w4 hown4 hg hat)
        go_roundg (s.size - 26 * (rs.length + 1))
        case measure => have := HM.out; omega
        case rel =>
          have hm := HM.out
          have hl : 26 * (rs ++ [r]).length = m + 26 := by rw [List.length_append, List.length_singleton]; omega
          refine ⟨rs ++ [r], by omega, by rw [List.length_append, List.length_singleton], by rw [hl]; go_num, OwnRecs.push hk hc ho hrk hva3 hown4 hg hat, hb3.grown hg hsz3 (fun b h => (ho.lt b h).1), ?_⟩
          rw [hl, HSC.out, HS2.out, List.drop_drop, List.append_assoc]; rfl
      · have hf' : isFrame ((s.data.toList.drop m).take 26) = false := by simpa using hf
        have hnil := scan_no (l := s.data.toList.drop m) (fun hh => hf hh.2)
        rw [hf'] at hp
        rw [← hr] at hp
        have HP := Lib.hid hp
        have HN := Lib.hid hnil
        clear hp hnil hf hf' hr hse hex hlen
        go_wp2_with fail
        refine HP.out.mono ?_
        rintro e w2 ⟨va, rfl, hva, hb2⟩
        obtain ⟨A2, c2, rfl, -, -⟩ := hva.form
        clear p1 p2 p3 t2
        go_wp2
        go_ret2
        have e : scan s.data.toList = rs := by rw [HSC.out, HN.out, List.append_nil]
        have e2 : (scan s.data.toList).length * 26 = m := by rw [e, HM.out]; omega
        have hb3 : Below wr.heap.size wr (w2.alloc (.cells #[.int .i64 r.kind, .slice A2 r.args.length c2] 24)) := hb2.alloc hb2.size _
        exact ⟨u4, by rw [e2]; rfl, by rw [e]; exact (hown.below hb3).recS, Below.on hbr hbr.size hb3⟩
    · have hnil := scan_no (l := s.data.toList.drop m) (fun hh => by have := hh.1; rw [List.length_drop, HSL.out] at this; omega)
      have HN := Lib.hid hnil
      clear hnil hex
      go_wp2
      go_ret2
      have e : scan s.data.toList = rs := by rw [HSC.out, HN.out, List.append_nil]
      have e2 : (scan s.data.toList).length * 26 = m := by rw [e, HM.out]; omega
      exact ⟨u4, by rw [e2]; rfl, by rw [e]; exact hown.recS, hbr⟩

theorem refscan_any (s : ByteArray) (w : World) (hs : s.size ≤ 16777216) :
    Calls Try.prog 20 #[.string s] w (ScanRes s.data.toList w) := by
  have hsl : s.data.toList.length = s.size := by rw [Array.length_toList]; rfl
  go_enter Try.func20, Try.ntmps20
  have HSL := Lib.hid hsl
  clear hsl
  go_wp2
  go_loopg [4, 5] s.size (fun g v4 v5 wr => ∃ (rs : List Rec), 26 * rs.length ≤ s.size ∧ g = s.size - 26 * rs.length ∧ v5 = .int .i64 (26 * rs.length : Nat) ∧ OwnRecs wr w.heap.size 24 v4 rs ∧ Below w.heap.size w wr ∧
    scan s.data.toList = rs ++ scan (s.data.toList.drop (26 * rs.length)))
  case atStart => exact ⟨[], by simp, by simp, rfl, OwnRecs.nil _ _ _, Below.refl _ _, by simp⟩
  case round =>
    obtain ⟨rs, hle, rfl, rfl, hown, hbr, hsc⟩ := hrel
    have HSC := Lib.hid hsc
    clear hsc
    obtain ⟨m, hm⟩ : ∃ m, m = 26 * rs.length := ⟨_, rfl⟩
    have hle2 : rs.length ≤ 645278 := by omega
    rw [← hm] at hle HSC ⊢
    have HM := Lib.hid hm
    clear hm
    have hex : (s.extract m s.size).data.toList = s.data.toList.drop m := by
      rw [ByteArray.data_extract, Array.toList_extract, List.extract_eq_take_drop]
      exact List.take_of_length_le (by rw [List.length_drop, HSL.out]; omega)
    have hmi : (m : Int) ≤ (s.size : Int) := by omega
    by_cases hlt : m + 26 ≤ s.size
    · have p1 : (0 : Int) ≤ (m : Int) := by omega
      have hse : 26 ≤ (s.extract m s.size).size := by simp; omega
      have hse2 : (s.extract m s.size).size ≤ maxLen := by unfold maxLen; simp; omega
      have hp := first_long (s.extract m s.size) wr hse hse2
      rw [hex] at hp
      have hlen : 26 ≤ (s.data.toList.drop m).length := by rw [List.length_drop, HSL.out]; omega
      obtain ⟨r, hr⟩ : ∃ r, r = recOf ((s.data.toList.drop m).take 26) := ⟨_, rfl⟩
      have hrk : I64 r.kind := by rw [hr]; have := kindOf_range ((s.data.toList.drop m).take 26); exact ⟨by show _ ≤ kindOf _; omega, by show kindOf _ ≤ _; omega⟩
      by_cases hf : isFrame ((s.data.toList.drop m).take 26) = true
      · have hs2 := scan_yes hlen hf
        rw [hf] at hp
        rw [← hr] at hp hs2
        have HP := Lib.hid hp
        have HS2 := Lib.hid hs2
        clear hp hs2 hf hr hse hse2 hex hlen
        go_wp2_with fail
        refine HP.out.mono ?_
        rintro e w2 ⟨va, rfl, hva, hb2⟩
        obtain ⟨A2, c2, rfl, -, -⟩ := hva.form
        have hown3 : OwnRecs (w2.alloc (.cells #[.int .i64 r.kind, .slice A2 r.args.length c2] 24)) w.heap.size 24 u4 rs := hown.below (hb2.alloc hb2.size _)
        obtain ⟨⟨cs, ho, hc⟩, hk⟩ := hown3
        clear p1
        go_upto_region 6 with fail
        obtain ⟨W3, hW3⟩ : ∃ W3, W3 = w2.alloc (.cells #[.int .i64 r.kind, .slice A2 r.args.length c2] 24) := ⟨_, rfl⟩
        have hb3 : Below w.heap.size w W3 := by rw [hW3]; exact (Below.on hbr hbr.size hb2).alloc (by have := hb2.size; have := hbr.size; omega) _
        have d0 : W3.cell? ⟨w2.heap.size, 0, none⟩ = some (.int .i64 r.kind) := by rw [hW3]; simp
        have d1 : W3.cell? ⟨w2.heap.size, 1, none⟩ = some (.slice A2 r.args.length c2) := by rw [hW3]; simp
        have hva3 : IntS W3 (fun b => b < W3.heap.size ∧ u4.ownBlock ≠ some b) (.slice A2 r.args.length c2) r.args := by
          have h1 := hva.keep (kept_alloc' (o := .cells #[.int .i64 r.kind, .slice A2 r.args.length c2] 24) (fun b hb => hb.2))
          rw [← hW3] at h1
          refine h1.mono (fun b hb => ⟨?_, fun e => ?_⟩)
          · rw [hW3]; simp; have := hb.2; omega
          · have := (hown.1.choose_spec.1.lt b e).2; have := hb.1; omega
        rw [← hW3] at ho hc ⊢
        clear hW3
        have hsz3 := hb3.size
        go_wp2_with (at_builtin; refine app_rec (.tmp 19) (.tmp 21) rfl rfl _ _ _ _ (by rfl) ho (by rfl) rfl rfl (by omega) hsz3 ?_; intro v' w4 hown4 hg hat)
        go_roundg (s.size - 26 * (rs.length + 1))
        case measure => have := HM.out; omega
        case rel =>
          have hm := HM.out
          have hl : 26 * (rs ++ [r]).length = m + 26 := by rw [List.length_append, List.length_singleton]; omega
          refine ⟨rs ++ [r], by omega, by rw [List.length_append, List.length_singleton], by rw [hl]; go_num, OwnRecs.push hk hc ho hrk hva3 hown4 hg hat, hb3.grown hg hsz3 (fun b h => (ho.lt b h).1), ?_⟩
          rw [hl, HSC.out, HS2.out, List.drop_drop, List.append_assoc]; rfl
      · have hf' : isFrame ((s.data.toList.drop m).take 26) = false := by simpa using hf
        have hnil := scan_no (l := s.data.toList.drop m) (fun hh => hf hh.2)
        rw [hf'] at hp
        rw [← hr] at hp
        have HP := Lib.hid hp
        have HN := Lib.hid hnil
        clear hp hnil hf hf' hr hse hse2 hex hlen
        go_wp2_with fail
        refine HP.out.mono ?_
        rintro e w2 ⟨va, rfl, hva, hb2⟩
        obtain ⟨A2, c2, rfl, -, -⟩ := hva.form
        clear p1
        go_wp2
        go_ret2
        have e : scan s.data.toList = rs := by rw [HSC.out, HN.out, List.append_nil]
        have e2 : (scan s.data.toList).length * 26 = m := by rw [e, HM.out]; omega
        have hb3 : Below wr.heap.size wr (w2.alloc (.cells #[.int .i64 r.kind, .slice A2 r.args.length c2] 24)) := hb2.alloc hb2.size _
        exact ⟨u4, by rw [e2]; rfl, by rw [e]; exact (hown.below hb3).recS, Below.on hbr hbr.size hb3⟩
    · have hse : (s.extract m s.size).size < 26 := by simp; omega
      have hp := first_short (s.extract m s.size) wr hse
      have hnil := scan_no (l := s.data.toList.drop m) (fun hh => by have := hh.1; rw [List.length_drop, HSL.out] at this; omega)
      have HN := Lib.hid hnil
      have HP := Lib.hid hp
      clear hnil hex hse hp
      go_wp2_with fail
      refine HP.out.mono ?_
      rintro e w2 ⟨va, rfl, hva, hb2⟩
      obtain ⟨A2, c2, rfl, -, -⟩ := hva.form
      go_wp2
      go_ret2
      have e : scan s.data.toList = rs := by rw [HSC.out, HN.out, List.append_nil]
      have e2 : (scan s.data.toList).length * 26 = m := by rw [e, HM.out]; omega
      have hb3 : Below wr.heap.size wr (w2.alloc (.cells #[.int .i64 0, .slice A2 0 c2] 24)) := hb2.alloc hb2.size _
      exact ⟨u4, by rw [e2]; rfl, by rw [e]; exact (hown.below hb3).recS, Below.on hbr hbr.size hb3⟩
end Go.Proofs.Ytffamkodckghgaa

