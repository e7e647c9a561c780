import Derived.Test.YtffamkodckghgaaJW9
import Derived.Test.YtffamkodckghgaaJBuf
import Derived.Deep.CutBlock
namespace Go.Proofs.Ytffamkodckghgaa
open Go.RowKit
set_option linter.unusedVariables false
set_option linter.unusedSimpArgs false
theorem own_below {w w2 : World} {base : Nat} {e : TypeId} {size : Nat} {v : Value} {n : Nat} {xs : List Value} (h : w.ownsRow base e size v n xs) (hb : Below w.heap.size w w2) : w2.ownsRow base e size v n xs := by
  refine h.kept (w' := w2) (row := none) ⟨hb.os, hb.tape, hb.output, hb.size, fun i hi _ => hb.block i hi⟩ ?_
  cases hv : v.ownBlock with
  | none => exact .inl rfl
  | some g => exact .inr (by simp)
theorem info_str : (Try.prog.info? 9).map (fun i => (i.zero, i.size, i.bytes)) = some (some (.string ⟨#[]⟩), 1, 16) := by kernel_rfl
theorem app_str {ops : Array Oper} {rest : List Oper} {o : Oper} {a : Act} {Q : Exit → Act → World → Prop} {w : World} {x0 : Value} (s x : Operand) (hgd : o.guard = none) (ho : o.op = .call { callee := .builtin .append, args := #[s, x], argTypes := #[37, 37] })
    (base : Nat) (v : Value) (n : Nat) (xs : List Value) (hs : a.eval s = v) (hown : w.ownsRow base 9 1 v n xs)
    (hx : a.eval x = .slice (some ⟨w.heap.size, 0, none⟩) 1 1) (h1 : x0.oneCell' = true) (hn : n + 1 ≤ 16777216) (hbase : base ≤ w.heap.size)
    (h : ∀ v' w', w'.ownsRow base 9 1 v' (n + 1) (xs ++ [x0]) → w.grownBy w' v.ownBlock → (v'.ownBlock = v.ownBlock ∨ v'.ownBlock = some (w.heap.size + 1)) → wpList Try.prog ops Q rest (a.put o.dst v') w') :
    wpList Try.prog ops Q (o :: rest) a (w.alloc (.cells #[x0] 9)) := by
  obtain ⟨i0, hi0, hz0, hz1, hz2⟩ := info_parts info_str
  exact wpList_append1 hgd s x _ ho base i0 _ 1 16 Try.underlying37 hi0 hz0 hz1 hz2 rfl (by omega) (by omega) v n xs hs hown hx rfl (by simpa using h1) hn hbase h

set_option maxHeartbeats 6400000 in
set_option maxRecDepth 100000 in
theorem lawScans_walk (s : ByteArray) (vl : Value) (rs : List Rec) (at_ by_ : Int) (w : World) (hs : s.size ≤ maxLen) (hv : RecS w (Bl w.heap.size) vl rs) (hat : I64 at_) (hby : 0 ≤ by_ ∧ by_ ≤ 255) :
    Calls Try.prog 4 #[.string s, vl, .int .i64 at_, .int .u8 by_] w fun e w' => e = .returned (.bool true) ∧ Below w.heap.size w w' := by
  obtain ⟨A, c, rfl, -, hm⟩ := hv.form
  have HL := Lib.hid (light_any _ rs _ w hv)
  unfold maxLen at hs
  by_cases hlt : lightB rs = true ∧ s.size ≤ 600
  · obtain ⟨hlb, h600⟩ := hlt
    obtain ⟨h40, -⟩ := lightB_true hlb
    rw [hlb] at HL
    have hg40 := goodL_length rs
    have hfl := flat_length (goodL rs)
    obtain ⟨L, hL⟩ : ∃ L, L = framesB rs := ⟨_, rfl⟩
    have hLl : L.length ≤ 1040 := by rw [hL]; show ((goodL rs).flatMap frameB).length ≤ _; omega
    have hwr := within_range at_ ((L.length : Int) + 1) (by omega)
    obtain ⟨m, hm⟩ : ∃ m : Nat, within at_ ((L.length : Int) + 1) = (m : Int) := ⟨(within at_ ((L.length : Int) + 1)).toNat, by omega⟩
    have hmL : m ≤ L.length := by omega
    have HF := Lib.hid (frames_any (.slice A rs.length c) rs w (by omega) hv)
    have HW := Lib.hid (within_any at_ ((L.length : Int) + 1) · hat ⟨by omega, by omega⟩)
    rw [hm] at HW
    clear hlb hv hm hwr hfl
    go_enter Try.func4, Try.ntmps4
    go_wp2_with fail
    refine HL.out.mono ?_
    rintro e w1 ⟨rfl, rfl⟩
    go_wp2_with fail
    refine HF.out.mono ?_
    rintro e w1 ⟨vg, rfl, hvg, hb1⟩
    rw [← hL]
    obtain ⟨Ag, cg, rfl, hcg, -⟩ := hvg.form
    have HLs := Lib.hid hL
    clear hL
    go_wp2_with fail
    refine (HW.out _).mono ?_
    rintro e w2 ⟨rfl, rfl⟩
    go_upto_if 47 with fail
    obtain ⟨W1, hW1⟩ : ∃ W1, W1 = w1.alloc (.cells #[.string s, .string ⟨L.toArray⟩, .string (⟨L.toArray⟩ ++ s), .string (ByteArray.extract ⟨L.toArray⟩ 0 m)] 9) := ⟨_, rfl⟩
    have hbW1 : Below w.heap.size w W1 := by rw [hW1]; exact hb1.alloc hb1.size _
    have hown1 : W1.ownsRow w.heap.size 9 1 (.slice (some ⟨w1.heap.size, 0, none⟩) 4 4) 4 ([s, ⟨L.toArray⟩, ⟨L.toArray⟩ ++ s, ByteArray.extract ⟨L.toArray⟩ 0 m].map Value.string) := by
      rw [hW1]
      exact World.ownsRow_lit (base := w.heap.size) (e := 9) (size := 1) w1 #[.string s, .string ⟨L.toArray⟩, .string (⟨L.toArray⟩ ++ s), .string (ByteArray.extract ⟨L.toArray⟩ 0 m)] 4 hb1.size (by decide) rfl
    have hsz4 : ∀ x ∈ [s, (⟨L.toArray⟩ : ByteArray), ⟨L.toArray⟩ ++ s, ByteArray.extract ⟨L.toArray⟩ 0 m], x.size ≤ 4096 := by
      have hLs : (⟨L.toArray⟩ : ByteArray).size = L.length := by show L.toArray.size = _; simp
      intro x hx
      simp only [List.mem_cons, List.not_mem_nil, or_false] at hx
      rcases hx with rfl | rfl | rfl | rfl
      · omega
      · omega
      · rw [ByteArray.size_append]; omega
      · rw [ByteArray.size_extract]; omega
    generalize [s, (⟨L.toArray⟩ : ByteArray), ⟨L.toArray⟩ ++ s, ByteArray.extract ⟨L.toArray⟩ 0 m] = ss at hown1 hsz4
    have HSZ4 := Lib.hid hsz4
    rw [← hW1]
    clear hW1 hsz4
    go_cut [11] (fun v wc => ∃ ss : List ByteArray, Hid (∀ x ∈ ss, x.size ≤ 4096) ∧ ss.length ≤ 5 ∧ wc.ownsRow w.heap.size 9 1 v ss.length (ss.map Value.string) ∧ Below w.heap.size w wc)
    case first =>
      have hl4 : ss.length = 4 := by have := hown1.1; simpa using this
      have HL4 := Lib.hid hl4
      clear hl4
      by_cases hL0 : 0 < L.length
      · have hwr2 := within_range at_ (L.length : Int) (by omega)
        obtain ⟨i, hi⟩ : ∃ i : Nat, within at_ (L.length : Int) = (i : Int) := ⟨(within at_ (L.length : Int)).toNat, by omega⟩
        have hiL : i < L.length := by omega
        have HW2 := Lib.hid (within_any at_ (L.length : Int) · hat ⟨by omega, by omega⟩)
        rw [hi] at HW2
        obtain ⟨W2, cap2, hrun, hbW2, hltW, hcap, hbuf⟩ := run_bytes_ex (P := Try.prog) W1 9 38 5 L Try.underlying9 Try.underlying38 Try.underlying5
        obtain ⟨hcell, hfz⟩ := hbuf i L[i] (List.getElem?_eq_getElem hiL)
        have hLi : 0 ≤ (L[i].toNat : Int) ∧ (L[i].toNat : Int) ≤ 255 := by have := L[i].toNat_lt; omega
        obtain ⟨y, hy⟩ := u8_of_xor (L[i].toNat : Int) by_ hLi hby
        have hcv : (convert 38 9 (.slice (some ⟨W1.heap.size, 0, none⟩) L.length cap2)).run Try.prog (W2.setCell ⟨W1.heap.size, i, none⟩ (.int .u8 (y.toNat : Int))) = .ok (.string ⟨(L.set i y).toArray⟩) (W2.setCell ⟨W1.heap.size, i, none⟩ (.int .u8 (y.toNat : Int))) := by
          have h := conv_bytes ((hbuf.set_ hiL y).byS (c := cap2) (R := fun _ => True) (by simpa using hcap) (by simp; unfold maxLen; omega) trivial)
          simpa using h
        have hys : (⟨(L.set i y).toArray⟩ : ByteArray).size ≤ 4096 := by show (L.set i y).toArray.size ≤ _; simp; omega
        have HY := Lib.hid hys
        clear hwr2 hi hbuf hys hLi
        go_wp2_with fail
        refine (HW2.out _).mono ?_
        rintro e w4 ⟨rfl, rfl⟩
        have hb5 : Below W1.heap.size W1 (W2.setCell ⟨W1.heap.size, i, none⟩ (.int .u8 (y.toNat : Int))) := hbW2.setCell (Nat.le_refl _) _
        have hown5 := own_below hown1 hb5
        have hb05 := Below.on hbW1 hbW1.size hb5
        have hsz5 := hb05.size
        obtain ⟨W5, hW5⟩ : ∃ W5, W5 = W2.setCell ⟨W1.heap.size, i, none⟩ (.int .u8 (y.toNat : Int)) := ⟨_, rfl⟩
        rw [← hW5] at hown5 hb05 hsz5
        have hs5 : W2.heap.size = W5.heap.size := by rw [hW5]; simp
        have H5 := Lib.hid hW5
        have HS5 := Lib.hid hs5
        clear hW5 hb5 hs5
        go_upto_region 8 with fail
        rw [← H5.out] at hcv ⊢
        have hl4 : ss.length ≤ 4 := by have := HL4.out; omega
        go_wp2_with (at_builtin; refine app_str (.tmp 60) (.tmp 63) rfl rfl _ _ _ _ (by rfl) hown5 (by rfl) rfl (by omega) hsz5 ?_; intro v' w6 hown6 hg hat6)
        go_meet
        have hb6 := hb05.grown hg hsz5 (fun b h => (hown5.lt b h).1)
        refine ⟨ss ++ [⟨(L.set i y).toArray⟩], fun x hx => ?_, by rw [List.length_append, HL4.out]; simp, ?_, hb6⟩
        · rcases List.mem_append.1 hx with h | h
          · exact HSZ4.out x h
          · rw [List.mem_singleton.1 h]; exact HY.out
        · rw [List.length_append, HL4.out, List.map_append]; exact hown6
      · go_wp2
        go_meet
        exact ⟨ss, HSZ4.out, by rw [HL4.out]; omega, by rw [HL4.out]; exact hown1, hbW1⟩
    case rest =>
      obtain ⟨ts, hts, hl5, hownt, hbt⟩ := hcut
      obtain ⟨At, ct, rfl⟩ := own_form hownt
      go_wp2_with fail
      go_loopg [13] ts.length (fun g v13 wr => ∃ j : Nat, j ≤ ts.length ∧ g = ts.length - j ∧ v13 = .int .i64 j ∧ Below wc.heap.size wc wr)
      case atStart => exact ⟨0, by omega, rfl, rfl, Below.refl _ _⟩
      case round =>
        obtain ⟨j, hj, rfl, rfl, hbr⟩ := hrel
        by_cases hjt : j < ts.length
        · have hown2 := own_below hownt hbr
          have hsc := scan_any ts[j] wr (by have := hts.out ts[j] (List.getElem_mem hjt); omega)
          have hsc2 := fun W' => refscan_any ts[j] W' (by have := hts.out ts[j] (List.getElem_mem hjt); omega)
          rcases hown2.2 with ⟨h1, h2⟩ | ⟨g, cap, cur, hv1, hbg, hgg, -, -, -, -⟩
          · omega
          · injection hv1 with hA hn hcap
            subst hA hcap
            have hc1 : wr.cell? ⟨g, j, none⟩ = some (.string ts[j]) := by
              have := hown2.cells (g := g) rfl j (.string ts[j]) (by rw [List.getElem?_map, List.getElem?_eq_getElem hjt]; rfl)
              rw [← this]; unfold Addr.add; split <;> simp_all
            have hglt : g < wr.heap.size := block_lt_of_cell hc1
            have HSC := Lib.hid hsc
            have HSC2 := Lib.hid hsc2
            clear hsc hsc2 hgg
            generalize ts[j] = t at *
            go_wp2_with fail
            refine HSC.out.mono ?_
            rintro e w2 ⟨va, rfl, hva, hb2⟩
            have hc2 := (hb2.cell (p := ⟨g, j, none⟩) hglt).trans hc1
            obtain ⟨A2, c2, rfl, -, -⟩ := hva.form
            go_wp2_with fail
            refine (HSC2.out _).mono ?_
            rintro e w3 ⟨vb, rfl, hvb, hb3⟩
            obtain ⟨A3, c3, rfl, -, -⟩ := hvb.form
            have hs3 := sameRecs_any _ _ _ _ _ _ w3 (hva.keep (kept_below hb3)) hvb
            rw [eqB_true rfl] at hs3
            have HS3 := Lib.hid hs3
            clear hs3
            go_wp2_with fail
            refine HS3.out.mono ?_
            rintro e w4 ⟨rfl, n4, rfl⟩
            go_wp2_with fail
            go_roundg (ts.length - (j + 1))
            case measure => omega
            case rel => exact ⟨j + 1, by omega, rfl, by go_num, Below.drewN' (Below.on (Below.on hbr hbr.size hb2) (by have := hbr.size; have := hb2.size; omega) hb3) _⟩
        · obtain rfl : j = ts.length := by omega
          go_wp2_with fail
          refine (awake_any _).mono ?_
          rintro e w5 ⟨rfl, hb5⟩
          go_wp2
          go_ret
          exact ⟨rfl, Below.on hbt hbt.size (Below.on hbr hbr.size hb5)⟩
  · by_cases hlb : lightB rs = true
    · have h600 : 600 < s.size := by
        rcases Nat.lt_or_ge 600 s.size with h | h
        · exact h
        · exact absurd ⟨hlb, h⟩ hlt
      rw [hlb] at HL
      clear hlt hlb hv
      go_enter Try.func4, Try.ntmps4
      go_wp2_with fail
      refine HL.out.mono ?_
      rintro e w1 ⟨rfl, rfl⟩
      go_wp2_with fail
      refine (awake_any _).mono ?_
      rintro e w2 ⟨rfl, hb2⟩
      go_wp2
      go_ret
      exact ⟨rfl, hb2⟩
    · have hlb' : lightB rs = false := by simpa using hlb
      rw [hlb'] at HL
      clear hlt hlb hlb' hv
      go_enter Try.func4, Try.ntmps4
      go_wp2_with fail
      refine HL.out.mono ?_
      rintro e w1 ⟨rfl, rfl⟩
      go_wp2_with fail
      refine (awake_any _).mono ?_
      rintro e w2 ⟨rfl, hb2⟩
      go_wp2
      go_ret
      exact ⟨rfl, hb2⟩
end Go.Proofs.Ytffamkodckghgaa
