/- RetargetKeeps, walked. -/
import Derived.Deep.CutBlock
import Derived.Deep.CutRange
import Derived.Test.YtkpfndhocgmgjaaGP
import Derived.Test.YtkpfndhocgmgjaaGE7
namespace Go.Proofs.Ytkpfndhocgmgjaa
open Go.RowKit
set_option linter.unusedVariables false
set_option linter.unusedSimpArgs false
theorem IntS.formL {w : World} {R : Nat → Prop} {v : Value} {xs : List Int} (h : IntS w R v xs) : ∃ A c, v = .slice A xs.length c ∧ xs.length ≤ c ∧ xs.length ≤ maxLen := by
  obtain ⟨⟨A, c, h1, h2, h3, -⟩, -⟩ := h
  exact ⟨A, c, h1, h2, h3⟩
theorem IntS.atL {w : World} {R : Nat → Prop} {A : Option Addr} {n c : Nat} {xs : List Int} (h : IntS w R (.slice A n c) xs) {k : Nat} (hk : k < xs.length) : ∃ b off, A = some ⟨b, off, none⟩ ∧ R b ∧ w.cell? ⟨b, off + k, none⟩ = some (.int .i64 xs[k]) ∧ I64 xs[k] := by
  obtain ⟨⟨A', c', e, _, _, h3⟩, h4⟩ := h
  obtain ⟨b, off, e2, hb, hc⟩ := h3 (by omega)
  injection e with e
  exact ⟨b, off, e.trans e2, hb, hc k _ (List.getElem?_eq_getElem hk), h4 _ (List.getElem_mem hk)⟩
theorem within_nat (x n : Int) (h : 1 ≤ n) : ∃ a : Nat, within x n = (a : Int) ∧ (a : Int) < n := by
  have := within_range x n h
  exact ⟨(within x n).toNat, by omega, by omega⟩
set_option maxRecDepth 100000 in
set_option maxHeartbeats 3200000 in
theorem keeps_any (k m1 m2 : Int) (vt vl : Value) (xs ls : List Int) (w : World) (hk : I64 k) (hm1 : I64 m1) (hm2 : I64 m2) (ht : IntS w (Bl w.heap.size) vt xs) (hl : IntS w (Bl w.heap.size) vl ls) :
    Calls Try.prog 4 #[.int .i64 k, .int .i64 m1, .int .i64 m2, vt, vl] w fun e w' => e = .returned (.bool true) ∧ Below w.heap.size w w' := by
  obtain ⟨At, ct, rfl, -, -⟩ := ht.formL
  obtain ⟨Al, cl, rfl, -, hmx⟩ := hl.formL
  unfold maxLen at hmx
  have HA := Lib.hid awake_any
  by_cases h20 : (20 : Int) < (ls.length : Int)
  · clear ht hl
    go_enter Try.func4, Try.ntmps4
    go_wp2_with fail
    refine (HA.out _).mono ?_
    rintro e w' ⟨rfl, hb⟩
    go_wp2
    go_ret
    exact ⟨rfl, hb⟩
  · have hll : ls.length ≤ 20 := by omega
    obtain ⟨a, ha, ha4⟩ := within_nat k 4 (by omega)
    obtain ⟨M1, hb, hb3⟩ := within_nat m1 3 (by omega)
    obtain ⟨c, hc, hc5⟩ := within_nat m2 (4 - (M1 : Int) + 1) (by omega)
    have h1 := fun w => within_any k 4 w hk (by unfold I64; omega)
    have h2 := fun w => within_any m1 3 w hm1 (by unfold I64; omega)
    have h3 := fun w => within_any m2 (4 - (M1 : Int) + 1) w hm2 (by unfold I64; omega)
    rw [ha] at h1
    rw [hb] at h2
    rw [hc] at h3
    have H1 := Lib.hid h1
    have H2 := Lib.hid h2
    have H3 := Lib.hid h3
    obtain ⟨K, hK⟩ : ∃ K, K = 1 + a := ⟨_, rfl⟩
    obtain ⟨M2, hM⟩ : ∃ M, M = M1 + c := ⟨_, rfl⟩
    have hKM : 1 ≤ K ∧ K ≤ 4 ∧ M1 ≤ M2 ∧ M2 ≤ 4 := ⟨by omega, by omega, by omega, by omega⟩
    have eK : (1 : Int) + (a : Int) = (K : Int) := by omega
    have eM : (M1 : Int) + (c : Int) = (M2 : Int) := by omega
    have HT := Lib.hid ht
    have HL := Lib.hid hl
    have EK := Lib.hid eK
    have EM := Lib.hid eM
    clear h1 h2 h3 ha hb hc ht hl eK eM hK hM
    go_enter Try.func4, Try.ntmps4
    go_wp2_with fail
    refine (H1.out _).mono ?_
    rintro e w' ⟨rfl, rfl⟩
    go_wp2_with fail
    refine (H2.out _).mono ?_
    rintro e w' ⟨rfl, rfl⟩
    go_wp2_with fail
    rw [EK.out]
    refine (H3.out _).mono ?_
    rintro e w' ⟨rfl, rfl⟩
    clear H1 H2 H3 ha4
    go_wp2_with fail
    rw [EM.out]
    obtain ⟨W1, hW1⟩ : ∃ W1, W1 = w.alloc (.cells #[.slice At xs.length ct, .int .i64 0] 33) := ⟨_, rfl⟩
    obtain ⟨gt, hgt⟩ : ∃ gt, gt = w.heap.size := ⟨_, rfl⟩
    have hT1 : TapeB W1 gt (.slice At xs.length ct) 0 := by rw [hW1, hgt]; exact heap_alloc_new w _
    have hb1 : Below w.heap.size w W1 := by rw [hW1]; exact (Below.refl _ _).alloc (Nat.le_refl _) _
    have hx1 : IntS W1 (Bl w.heap.size) (.slice At xs.length ct) xs := HT.out.keep (kept_below hb1)
    have hs1 : W1.heap.size = w.heap.size + 1 := by rw [hW1]; simp
    obtain ⟨d, hd, hd5⟩ := within_nat (tapeX xs 0) 5 (by omega)
    have hnx := next_any gt _ xs 0 5 W1 _ hT1 hx1 (by omega) (by unfold I64; omega)
    rw [hd] at hnx
    have HNX := Lib.hid hnx
    rw [← hW1, ← hgt]
    obtain ⟨n, hn⟩ : ∃ n, n = 1 + d := ⟨_, rfl⟩
    have eN : (1 : Int) + (d : Int) = (n : Int) := by omega
    have hn5 : 1 ≤ n ∧ n ≤ 5 := ⟨by omega, by omega⟩
    have EN := Lib.hid eN
    have HW := Lib.hid hgt
    clear hW1 hgt hd hnx hn eN hT1
    refine HNX.out.mono ?_
    rintro e W2 ⟨rfl, hT2, hg2⟩
    go_wp2_with fail
    rw [EN.out]
    have hx2 := hx1.keep (w' := W2) (fun b hb => hg2.block b (by have : b < w.heap.size := hb; omega) (fun e => by injection e with e; have : b < w.heap.size := hb; have := HW.out; omega))
    have hR2 : ∀ b, Bl w.heap.size b → b < W2.heap.size ∧ b ≠ gt := fun b hb => by
      have h1 : b < w.heap.size := hb
      have h2 := hg2.size
      have h3 := HW.out
      exact ⟨by omega, by omega⟩
    have hkn : K * n ≤ 20 := Nat.mul_le_mul hKM.2.1 hn5.2
    have hrw := rows_any gt _ xs 1 K n W2 _ hT2 hx2 hR2 (by omega) (by omega) (by omega)
    have HRW := Lib.hid hrw
    clear hrw hR2 hx2 hx1 HNX
    refine HRW.out.mono ?_
    rintro e W3 ⟨vD, D, I', rfl, hDl, hDw, hDm, -, -, hg3⟩
    have hb3 : Below w.heap.size w W3 := by
      have h2 := grown_trans hg2 hg3
      exact hb1.grown h2 (by omega) (fun b h => by injection h with h; have := HW.out; omega)
    have hDm3 : MatS W3 (Bl W3.heap.size) vD D := hDm.mono (fun b hb => hb.2)
    have hc1 : codeB (K : Int) (M1 : Int) = true := codeB_yes (by omega)
    have hc2 : codeB (K : Int) (M2 : Int) = true := codeB_yes (by omega)
    have hen := encode_any K M1 n vD D W3 hc1 hDl hDm3 hDw (by omega)
    have HEN := Lib.hid hen
    have HDL := Lib.hid hDl
    have HDW := Lib.hid hDw
    have HC1 := Lib.hid hc1
    have HC2 := Lib.hid hc2
    have HD3 := Lib.hid hDm3
    obtain ⟨AD, cD, rfl, hcD, -⟩ := hDm3.form
    clear HRW hDm hDm3 hen hDl hDw hc1 hc2 hT2 hg2 hg3 hkn hb1 hs1
    go_wp2_with fail
    refine HEN.out.mono ?_
    rintro e W4 ⟨vT, rfl, hT4, hb4⟩
    have hTl := wordT_length K (K + M1) D n
    have hTr := fun a (h : a < K + M1) => (wordT_wide K (K + M1) D n).getD (i := a) (by rw [hTl]; exact h)
    obtain ⟨AT, cT, rfl, hcT, -⟩ := hT4.form
    rw [hTl] at hcT hT4 ⊢
    have HT4 := Lib.hid hT4
    have HTL := Lib.hid hTl
    obtain ⟨n1, hn1⟩ : ∃ n1, n1 = K + M1 := ⟨_, rfl⟩
    have ekm : (K : Int) + (M1 : Int) = (n1 : Int) := by omega
    have hn1b : n1 ≤ 6 ∧ K ≤ n1 := ⟨by omega, by omega⟩
    have e1 : ((n1 : Int) != (n1 : Int)) = false := by simp
    rw [← hn1] at hcT ⊢
    have HN1 := Lib.hid hn1
    clear hT4 hTl HEN hn1
    go_wp2_with fail
    have HB4 := Lib.hid hb4
    have hbw4 := hb3.trans (hb4.mono hb3.size)
    obtain ⟨T, hT⟩ : ∃ T, T = wordT K (K + M1) D n := ⟨_, rfl⟩
    rw [← hT] at HT4 HTL hTr
    have HTd := Lib.hid hT
    clear hT
    go_loopg [15, 16] n1 (fun z v15 v16 wr => ∃ j : Nat, j ≤ n1 ∧ z = n1 - j ∧ v16 = .int .i64 (j : Int) ∧ OwnFg wr W4.heap.size v15 (fragsT T 0 j) ∧ Below W4.heap.size W4 wr)
    case atStart => exact ⟨0, by omega, rfl, rfl, OwnFg.nil _ _, Below.refl _ _⟩
    case round =>
      obtain ⟨j, hj, rfl, rfl, hO, hbr⟩ := hrel
      obtain ⟨A15, c15, hv15⟩ := hO.form
      rw [fragsT_length] at hv15
      subst hv15
      by_cases hlt2 : j < n1
      · -- W1{
        obtain ⟨b, off, va, rfl, hR, hcell, hva⟩ := HT4.out.at_ (k := j) (by rw [HTL.out, ← HN1.out]; exact hlt2)
        have hc3 := (hbr.cell (p := ⟨b, off + j, none⟩) hR).trans hcell
        have hva3 := hva.keep (w' := wr) (kept_below hbr)
        obtain ⟨row, hrow⟩ : ∃ row, row = T[j]'(by rw [HTL.out, ← HN1.out]; exact hlt2) := ⟨_, rfl⟩
        have hgd : T.getD j [] = row := by rw [hrow]; exact getD_lt _ _ _
        rw [← hrow] at hva3
        obtain ⟨Ar, cr, rfl, -, -⟩ := hva3.form
        obtain ⟨⟨cs, ho, hc⟩, hk0⟩ := hO
        rw [fragsT_length] at ho
        have hsz3 := hbr.size
        have HC := Lib.hid hc
        have HVA := Lib.hid hva3
        have HGD := Lib.hid hgd
        have HK0 := Lib.hid hk0
        have hblt : b < W4.heap.size := hR
        clear hc hva3 hcell hva hgd hk0 hrow hTr
        go_wp2_with (at_builtin; refine app_frag (.tmp 75) (.tmp 82) rfl rfl _ _ _ _ (by rfl) ho (by rfl) rfl rfl (by omega) hsz3 ?_; intro v' w4 hown4 hg4 hat)
        go_roundg (n1 - (j + 1))
        case measure => omega
        case rel =>
          refine ⟨j + 1, by omega, rfl, by go_num, ?_, hbr.grown hg4 hsz3 (fun b h => (ho.lt b h).1)⟩
          rw [fragsT_succ]
          have hlt13 := ho.lt
          refine OwnFg.push (h := ⟨((0 + j : Nat) : Int), T.getD (0 + j) []⟩) HK0.out HC.out (by rw [fragsT_length]; exact ho) (by show I64 ((0 + j : Nat) : Int); unfold I64; omega) ?_ (by rw [fragsT_length]; show World.ownsRow _ _ _ _ _ _ (cs ++ [.int .i64 ((0 + j : Nat) : Int), _]); rw [Nat.zero_add]; exact hown4) hg4 hat
          show ByS _ _ _ (T.getD (0 + j) [])
          rw [Nat.zero_add, HGD.out]
          exact HVA.out.mono (fun b hb => ⟨Nat.lt_of_lt_of_le hb hsz3, fun e => by have h1 := (hlt13 b e).1; have h2 : b < W4.heap.size := hb; omega⟩)
        -- }W1
      · obtain rfl : n1 = j := by omega
        have hfr := frags_frs T 0 n1 n1 (by omega)
        obtain ⟨hs0, hhs⟩ : ∃ hs, hs = fragsT T 0 n1 := ⟨_, rfl⟩
        have hsl : hs0.length = n1 := by rw [hhs, fragsT_length]
        rw [← hhs] at hO hfr
        have HO := Lib.hid hO
        have HFR := Lib.hid hfr
        have HSL := Lib.hid hsl
        obtain ⟨wa, rfl⟩ : ∃ wa : World, wa = wr := ⟨_, rfl⟩
        clear hO hfr hhs hsl
        go_upto_block 2 with fail
        go_cut [15, 17, 18] from 84 to 110 (fun v15 v17 v18 wc => ∃ hs : List Frg, OwnFg wc W4.heap.size v15 hs ∧ Hid (Frs T n1 hs) ∧ K ≤ hs.length ∧ hs.length ≤ n1 ∧ Below W4.heap.size W4 wc)
        case first =>
          go_wp2_with fail
          go_loopg [15, 17] ls.length (fun z v15 v17 wr => ∃ (i : Nat) (hs : List Frg), i ≤ ls.length ∧ z = ls.length - i ∧ v17 = .int .i64 (i : Int) ∧ OwnFg wr W4.heap.size v15 hs ∧ Hid (Frs T n1 hs) ∧ K ≤ hs.length ∧ hs.length ≤ n1 ∧ Below W4.heap.size W4 wr)
          case atStart => exact ⟨0, hs0, by omega, rfl, rfl, HO.out, HFR.out, by rw [HSL.out]; omega, by rw [HSL.out]; omega, hbr⟩
          case round =>
            obtain ⟨i, hs, hi, rfl, rfl, hO, HF, hKl, hln, hbr2⟩ := hrel
            obtain ⟨A15, c15, rfl⟩ := hO.form
            obtain ⟨N, hN⟩ : ∃ N, N = hs.length := ⟨_, rfl⟩
            rw [← hN] at hKl hln ⊢
            by_cases hgo : i < ls.length ∧ K < N
            · -- W2{
              obtain ⟨hil, hkN⟩ := hgo
              obtain ⟨b, off, rfl, hR, hcell, hxi⟩ := HL.out.atL (k := i) hil
              have hbw5 := hbw4.trans (hbr2.mono hbw4.size)
              have hc3 := (hbw5.cell (p := ⟨b, off + i, none⟩) hR).trans hcell
              obtain ⟨x, hx, hxN⟩ := within_nat ls[i] (N : Int) (by omega)
              have hwi := fun w => within_any ls[i] (N : Int) w hxi (by unfold I64; omega)
              rw [hx] at hwi
              have HWI := Lib.hid hwi
              obtain ⟨⟨cs, ho, hc⟩, hk0⟩ := hO
              rw [← hN] at ho
              have hone := fgC_one hc (by rw [← hN]; exact ho.1)
              obtain ⟨g, hA15⟩ : ∃ g, A15 = some ⟨g, 0, none⟩ := by
                rcases ho.2 with ⟨-, h1⟩ | ⟨g, cap, cur, h1, -⟩
                · omega
                · injection h1 with h1; exact ⟨g, h1⟩
              have hNc : N ≤ c15 := by
                rcases ho.2 with ⟨-, h1⟩ | ⟨g, cap, cur, h1, -, -, h2, -⟩
                · omega
                · injection h1 with h1 h2' h3; omega
              rw [← hN] at hc
              subst hA15
              obtain ⟨A, hA, had⟩ : ∃ A : Addr, (if c15 = x + 1 then some (⟨g, 0, none⟩ : Addr) else some ⟨g, (x + 1) * 2, none⟩) = some A ∧ Hid (x + 1 < N → A = ⟨g, (x + 1) * 2, none⟩) := by
                by_cases h : c15 = x + 1
                · exact ⟨⟨g, 0, none⟩, by simp [h], fun h2 => by omega⟩
                · exact ⟨⟨g, (x + 1) * 2, none⟩, by simp [h], fun _ => rfl⟩
              have HOW := Lib.hid ho
              have HONE := Lib.hid hone
              have HFC := Lib.hid hc
              have HK0 := Lib.hid hk0
              have HNN := Lib.hid hN
              have hxN2 : x < N := by omega
              have hwr : IntKind.i64.wrap ((x : Int) + 1) = (x : Int) + 1 := by rw [IntKind.wrap_i64]; omega
              have hp0 : (0 : Int) ≤ (x : Int) + 1 := by omega
              have hp1 : (x : Int) + 1 ≤ (N : Int) := by omega
              have hp2 : ((x : Int) + 1).toNat = x + 1 := by omega
              have hxc : x ≤ c15 := by omega
              clear hcell hxi hx hwi ho hone hc hk0 hN
              generalize ls[i] = xi at *
              go_wp2_with fail
              refine (HWI.out _).mono ?_
              rintro e w5 ⟨rfl, rfl⟩
              go_wp2_with fail
              have HOD : Hid (wr.drew.ownsRow W4.heap.size 27 2 (.slice (some ⟨g, 0, none⟩) N c15) N cs) := HOW.out
              go_region_law (refine step_del rfl (.tmp 105) (.tmp 109) rfl W4.heap.size g N c15 x cs A (N - (x + 1)) (c15 - (x + 1)) HOD.out hxN2 HONE.out (by simp [Act.eval, Act.put]) (by simp [Act.eval, Act.put]) rfl had.out ?_)
              go_wp2_with fail
              go_roundg (ls.length - (i + 1))
              case measure => omega
              case rel =>
                have HFD : FgC wr.drew (.slice (some ⟨g, 0, none⟩) N c15) hs cs := HFC.out
                have hdel := OwnFg.delete HNN.out.symm HOD.out HFD HK0.out hxN2
                have hdr := (own_delete HOD.out hxN2).2
                have hlt15 := HOW.out.lt g rfl
                refine ⟨i + 1, hs.eraseIdx x, by omega, rfl, by go_num, ?_, HF.out.erase x, ?_, ?_, ?_⟩
                · exact hdel
                · rw [List.length_eraseIdx]; have := HNN.out; split <;> omega
                · rw [List.length_eraseIdx]; have := HNN.out; split <;> omega
                · exact hbr2.drew.grown hdr hbr2.size (fun b h => by injection h with h; omega)
              -- }W2
            · have HO2 := Lib.hid hO
              have HNN := Lib.hid hN
              clear hO hN
              by_cases hil : i < ls.length
              · have hkN : ¬ K < N := fun h => hgo ⟨hil, h⟩
                go_wp2_with fail
                go_meet
                exact ⟨hs, by rw [HNN.out]; exact HO2.out, HF, by rw [← HNN.out]; exact hKl, by rw [← HNN.out]; exact hln, hbr2⟩
              · go_wp2_with fail
                go_meet
                exact ⟨hs, by rw [HNN.out]; exact HO2.out, HF, by rw [← HNN.out]; exact hKl, by rw [← HNN.out]; exact hln, hbr2⟩
        case rest =>
          -- R{
          obtain ⟨hs, hO, HF, hKl, hln, hbc⟩ := hcut
          have hd65 : ∀ h ∈ hs, h.data.length ≤ 65536 := fun h hh => by
            obtain ⟨p, hp, -, e⟩ := HF.out.1 h hh
            rw [e, hTr p (by rw [← HN1.out]; exact hp)]; omega
          have hfT : Frs (wordT K (K + M1) D n) (K + M1) hs := by rw [← HTd.out, ← HN1.out]; exact HF.out
          obtain ⟨hce, hch⟩ := frs_com K M1 M2 n D hs HC1.out HC2.out hKM.2.2.1 HDL.out HDW.out hfT hKl
          have hcm := complete_any K M1 M2 _ hs wc (by unfold I64; omega) (by unfold I64; omega) (by unfold I64; omega) hO.fragS (by omega) hd65
          rw [hce] at hcm
          have ek : ((K : Int)).toNat = K ∧ ((M1 : Int)).toNat = M1 ∧ ((M2 : Int)).toNat = M2 := ⟨by omega, by omega, by omega⟩
          rw [ek.1, ek.2.1, ek.2.2, hch] at hcm
          have HCM := Lib.hid hcm
          have HFT := Lib.hid hfT
          obtain ⟨A15, c15, rfl⟩ := hO.form
          obtain ⟨N, hN⟩ : ∃ N, N = hs.length := ⟨_, rfl⟩
          rw [← hN] at hKl hln HCM ⊢
          have HO2 := Lib.hid hO
          have HNN := Lib.hid hN
          clear hcm hce hch ek hd65 hfT hO hN
          go_wp2_with fail
          refine HCM.out.mono ?_
          rintro e W5 ⟨vm, rfl, hom, -, hb5⟩
          have hom := hom (by trivial)
          obtain ⟨hs2, hhs2⟩ : ∃ hs2, hs2 = fragsT (wordT K (K + M2) D n) (K + M1) (M2 - M1) := ⟨_, rfl⟩
          have hl2 : hs2.length = M2 - M1 := by rw [hhs2, fragsT_length]
          have hfm := frs_more K M1 M2 n D hs HFT.out hKM.2.2.1
          rw [← hhs2] at hom hfm
          obtain ⟨Lm, hLm⟩ : ∃ Lm, Lm = M2 - M1 := ⟨_, rfl⟩
          rw [← hLm] at hl2
          have eLm : (M2 : Int) - (M1 : Int) = (Lm : Int) := by omega
          have e2 : ((Lm : Int) != (Lm : Int)) = false := by simp
          have hLm4 : Lm ≤ 4 := by omega
          obtain ⟨Am, cm, rfl⟩ := hom.form
          rw [hl2] at hom ⊢
          have HFM := Lib.hid hfm
          have HL2 := Lib.hid hl2
          have hO5 := HO2.out.below hb5
          obtain ⟨⟨cs1, ho1, hc1⟩, hk1⟩ := hO5
          obtain ⟨⟨cs2, ho2, hc2⟩, hk2⟩ := hom
          rw [← HNN.out] at ho1 hc1
          rw [hl2] at ho2
          have hone1 := fgC_one hc1 (by rw [← HNN.out]; exact ho1.1)
          have hone2 := fgC_one hc2 (by rw [hl2]; exact ho2.1)
          have HC1' := Lib.hid hc1
          have HC2' := Lib.hid hc2
          have HI1 := Lib.hid hk1
          have HI2 := Lib.hid hk2
          have HON1 := Lib.hid hone1
          have HON2 := Lib.hid hone2
          have HOW1 := Lib.hid ho1
          have HOW2 := Lib.hid ho2
          clear hfm hl2 hc1 hc2 hk1 hk2 hone1 hone2 ho1 ho2 HO2 hhs2 hLm
          go_upto_block 4 with (first
            | (at_builtin; refine app_frags (.const (.slice none 0 0)) (.tmp 129) rfl rfl W5.heap.size W4.heap.size (.slice none 0 0) _ 0 N [] cs1 (by rfl) (World.ownsRow_nil _ _ _ _) (by rfl) HOW1.out HON1.out (by omega) (Nat.le_refl _) ?_; intro v6 w6 hown6 hg6 hat6; rw [Nat.zero_add, List.nil_append] at hown6; have hb6 : Below W5.heap.size W5 w6 := (Below.refl _ _).grown hg6 (Nat.le_refl _) (fun b h => by cases h); obtain ⟨A6, c6, rfl⟩ := own_form hown6; have HB6 := Lib.hid hb6; have hsz6 := hb6.size; have HOW2' := Lib.hid (own_below HOW2.out hb6); clear hb6)
            | (at_builtin; refine app_frags (.tmp 130) (.tmp 131) rfl rfl W5.heap.size wc.heap.size _ _ N Lm cs1 cs2 (by rfl) hown6 (by rfl) HOW2'.out HON2.out (by omega) hsz6 ?_; intro v7 w7 hown7 hg7 hat7))
          have hb7 : Below W5.heap.size W5 w7 := HB6.out.grown hg7 hsz6 (fun b h => (hown6.lt b h).1)
          have hI7 : ∀ h ∈ hs ++ hs2, I64 h.idx := fun h hh => by
            rcases List.mem_append.1 hh with h1 | h1
            · exact HI1.out h h1
            · exact HI2.out h h1
          have hlen7 : (hs ++ hs2).length = N + Lm := by rw [List.length_append, ← HNN.out, HL2.out]
          have hO7 : OwnFg w7 W5.heap.size v7 (hs ++ hs2) :=
            ⟨⟨cs1 ++ cs2, by rw [hlen7]; exact hown7, fgC_app HC1'.out HC2'.out (by rw [← HNN.out]; exact HOW1.out.1) hb7 hown7 (Nat.le_refl _)⟩, hI7⟩
          have hbw5 := (hbw4.trans (hbc.mono hbw4.size)).trans (hb5.mono (Nat.le_trans hbw4.size hbc.size))
          obtain ⟨hs7, hhs7⟩ : ∃ x, x = hs ++ hs2 := ⟨_, rfl⟩
          obtain ⟨n2, hn2⟩ : ∃ n2, n2 = K + M2 := ⟨_, rfl⟩
          obtain ⟨T2, hT2⟩ : ∃ T2, T2 = wordT K (K + M2) D n := ⟨_, rfl⟩
          have hFM := HFM.out
          rw [← hhs7] at hO7 hlen7 hFM
          rw [← hT2, ← hn2] at hFM
          have hl7 : hs7.length ≤ 20 := by omega
          have hl7k : K ≤ hs7.length := by omega
          have HT2 := Lib.hid hT2
          have HN2 := Lib.hid hn2
          have HF7 := Lib.hid hFM
          have HO7 := Lib.hid hO7
          have HB7 := Lib.hid hb7
          have HBW5 := Lib.hid hbw5
          obtain ⟨A7, c7, rfl⟩ := hO7.form
          have HB5 := Lib.hid hb5
          clear hown7 hg7 hat7 hI7 hlen7 hhs7 hn2 hT2 hFM hO7 hown6 hg6 hat6 HFM HOW1 HOW2 HOW2' HON1 HON2 HI1 HI2 HC1' HC2' hb7 hb5 hsz6 HB6 HFT HF
          have HE7 := Lib.hid hl7
          have hbw7 := HBW5.out.trans (HB7.out.mono HBW5.out.size)
          obtain ⟨wb, rfl⟩ : ∃ wb : World, wb = wc := ⟨_, rfl⟩
          go_cut [21, 22, 23] from 133 to 163 (fun v21 v22 v23 wd => ∃ hs : List Frg, OwnFg wd W5.heap.size v21 hs ∧ Hid (Frs T2 n2 hs) ∧ K ≤ hs.length ∧ hs.length ≤ 20 ∧ Below W5.heap.size W5 wd)
          case first =>
            -- W3{
            go_wp2_with fail
            go_loopg [21, 22, 23] ls.length (fun z v21 v22 v23 wr => ∃ (i : Nat) (hs : List Frg), i ≤ ls.length ∧ z = ls.length - i ∧ v22 = .int .i64 (i : Int) ∧ OwnFg wr W5.heap.size v21 hs ∧ Hid (Frs T2 n2 hs) ∧ K ≤ hs.length ∧ hs.length ≤ 20 ∧ Below W5.heap.size W5 wr)
            case atStart => exact ⟨0, hs7, by omega, rfl, rfl, HO7.out, HF7.out, hl7k, hl7, HB7.out⟩
            case round =>
              obtain ⟨i, hs, hi, rfl, rfl, hO, HF, hKl, hln, hbr2⟩ := hrel
              obtain ⟨A15, c15, rfl⟩ := hO.form
              obtain ⟨N, hN⟩ : ∃ N, N = hs.length := ⟨_, rfl⟩
              rw [← hN] at hKl hln ⊢
              by_cases hgo : i < ls.length ∧ K < N
              · obtain ⟨hil, hkN⟩ := hgo
                obtain ⟨r, hr⟩ : ∃ r, r = ls.length - 1 - i := ⟨_, rfl⟩
                have hrl : r < ls.length := by omega
                obtain ⟨b, off, rfl, hR, hcell, hxi⟩ := HL.out.atL (k := r) hrl
                have hbw5 := HBW5.out.trans (hbr2.mono HBW5.out.size)
                have hc3 := (hbw5.cell (p := ⟨b, off + r, none⟩) hR).trans hcell
                obtain ⟨x, hx, hxN⟩ := within_nat ls[r] (N : Int) (by omega)
                have hwi := fun w => within_any ls[r] (N : Int) w hxi (by unfold I64; omega)
                rw [hx] at hwi
                have HWI := Lib.hid hwi
                obtain ⟨⟨cs, ho, hc⟩, hk0⟩ := hO
                rw [← hN] at ho
                have hone := fgC_one hc (by rw [← hN]; exact ho.1)
                obtain ⟨g, hA15⟩ : ∃ g, A15 = some ⟨g, 0, none⟩ := by
                  rcases ho.2 with ⟨-, h1⟩ | ⟨g, cap, cur, h1, -⟩
                  · omega
                  · injection h1 with h1; exact ⟨g, h1⟩
                have hNc : N ≤ c15 := by
                  rcases ho.2 with ⟨-, h1⟩ | ⟨g, cap, cur, h1, -, -, h2, -⟩
                  · omega
                  · injection h1 with h1 h2' h3; omega
                rw [← hN] at hc
                subst hA15
                obtain ⟨A, hA, had⟩ : ∃ A : Addr, (if c15 = x + 1 then some (⟨g, 0, none⟩ : Addr) else some ⟨g, (x + 1) * 2, none⟩) = some A ∧ Hid (x + 1 < N → A = ⟨g, (x + 1) * 2, none⟩) := by
                  by_cases h : c15 = x + 1
                  · exact ⟨⟨g, 0, none⟩, by simp [h], fun h2 => by omega⟩
                  · exact ⟨⟨g, (x + 1) * 2, none⟩, by simp [h], fun _ => rfl⟩
                have HOW := Lib.hid ho
                have HONE := Lib.hid hone
                have HFC := Lib.hid hc
                have HK0 := Lib.hid hk0
                have HNN := Lib.hid hN
                have hxN2 : x < N := by omega
                have hrI : (ls.length : Int) - 1 - (i : Int) = (r : Int) := by omega
                have hwr : IntKind.i64.wrap ((x : Int) + 1) = (x : Int) + 1 := by rw [IntKind.wrap_i64]; omega
                have hp0 : (0 : Int) ≤ (x : Int) + 1 := by omega
                have hp1 : (x : Int) + 1 ≤ (N : Int) := by omega
                have hp2 : ((x : Int) + 1).toNat = x + 1 := by omega
                have hxc : x ≤ c15 := by omega
                clear hcell hxi hx hwi ho hone hc hk0 hN hr
                generalize ls[r] = xi at *
                go_wp2_with fail
                refine (HWI.out _).mono ?_
                rintro e w5 ⟨rfl, rfl⟩
                go_wp2_with fail
                have HOD : Hid (wr.drew.ownsRow W5.heap.size 27 2 (.slice (some ⟨g, 0, none⟩) N c15) N cs) := HOW.out
                go_region_law (refine step_del rfl (.tmp 158) (.tmp 162) rfl W5.heap.size g N c15 x cs A (N - (x + 1)) (c15 - (x + 1)) HOD.out hxN2 HONE.out (by simp [Act.eval, Act.put]) (by simp [Act.eval, Act.put]) rfl had.out ?_)
                go_wp2_with fail
                go_roundg (ls.length - (i + 1))
                case measure => omega
                case rel =>
                  have HFD : FgC wr.drew (.slice (some ⟨g, 0, none⟩) N c15) hs cs := HFC.out
                  have hdel := OwnFg.delete HNN.out.symm HOD.out HFD HK0.out hxN2
                  have hdr := (own_delete HOD.out hxN2).2
                  have hlt15 := HOW.out.lt g rfl
                  refine ⟨i + 1, hs.eraseIdx x, by omega, rfl, by go_num, ?_, HF.out.erase x, ?_, ?_, ?_⟩
                  · exact hdel
                  · rw [List.length_eraseIdx]; have := HNN.out; split <;> omega
                  · rw [List.length_eraseIdx]; have := HNN.out; split <;> omega
                  · exact hbr2.drew.grown hdr hbr2.size (fun b h => by injection h with h; omega)
              · have HO2 := Lib.hid hO
                have HNN := Lib.hid hN
                clear hO hN
                by_cases hil : i < ls.length
                · have hkN : ¬ K < N := fun h => hgo ⟨hil, h⟩
                  go_wp2_with fail
                  go_meet
                  exact ⟨hs, by rw [HNN.out]; exact HO2.out, HF, by rw [← HNN.out]; exact hKl, by rw [← HNN.out]; exact hln, hbr2⟩
                · go_wp2_with fail
                  go_meet
                  exact ⟨hs, by rw [HNN.out]; exact HO2.out, HF, by rw [← HNN.out]; exact hKl, by rw [← HNN.out]; exact hln, hbr2⟩
            -- }W3
          case rest =>
            obtain ⟨hs, hO, HF, hKl, hln, hbd⟩ := hcut
            have hT2l := HT2.out
            have hfT : Frs (wordT K (K + M2) D n) (K + M2) hs := by rw [← HT2.out, ← HN2.out]; exact HF.out
            have hTl2 := wordT_length K (K + M2) D n
            have hd65 : ∀ h ∈ hs, h.data.length ≤ 65536 := fun h hh => by
              obtain ⟨p, hp, -, e⟩ := hfT.1 h hh
              rw [e, (wordT_wide K (K + M2) D n).getD (i := p) (by rw [hTl2]; exact hp)]; omega
            obtain ⟨hde, hdd, hdl⟩ := frs_dec K M2 n D hs HC2.out HDL.out HDW.out hfT hKl
            have hdc := decode_any K M2 _ hs wc (by unfold I64; omega) (by unfold I64; omega) hO.fragS (by omega) hd65
            have ek : ((K : Int)).toNat = K ∧ ((K : Int) + (M2 : Int)).toNat = K + M2 := ⟨by omega, by omega⟩
            rw [hde, ek.1, ek.2, hdd, hdl, wordT_take K (K + M2) n D HDL.out HDW.out (by omega)] at hdc
            obtain ⟨A15, c15, rfl⟩ := hO.form
            obtain ⟨N2, hN2⟩ : ∃ N, N = hs.length := ⟨_, rfl⟩
            rw [← hN2] at hdc hKl hln ⊢
            have HDC := Lib.hid hdc
            have hbw8 := HBW5.out.trans (hbd.mono HBW5.out.size)
            clear hdc hde hdd hdl ek hd65 hfT hTl2 hT2l hN2 hO
            go_wp2_with fail
            refine HDC.out.mono ?_
            rintro e W8 ⟨v24, rfl, hg24, -, hb8⟩
            have hg24 := hg24 (by trivial)
            obtain ⟨A24, c24, rfl, -, -⟩ := hg24.form
            rw [HDL.out] at hg24 ⊢
            have e3 : ((K : Int) != (K : Int)) = false := by simp
            have hbw9 := hbw8.trans (hb8.mono hbw8.size)
            have hDD : MatS W8 (Bl W8.heap.size) (.slice AD K cD) D := by
              have h1 := HD3.out
              rw [HDL.out] at h1
              have h34 := HB4.out
              have h45 : Below W3.heap.size W3 W5 := (h34.trans (hbc.mono h34.size)).trans (HB5.out.mono (Nat.le_trans h34.size hbc.size))
              have h48 := (h45.trans (hbd.mono h45.size)).trans (hb8.mono (Nat.le_trans h45.size hbd.size))
              exact (h1.keep (kept_below h48)).mono (Bl.mono h48.size)
            have HG := Lib.hid hg24
            have HDD := Lib.hid hDD
            clear hg24 hDD hb8 HDC
            obtain ⟨wq, rfl⟩ : ∃ wq : World, wq = wc := ⟨_, rfl⟩
            clear hbd HF
            go_wp2_with fail
            go_loopg [26] K (fun z v26 wr => ∃ j : Nat, j ≤ K ∧ z = K - j ∧ v26 = .int .i64 (j : Int) ∧ Below W8.heap.size W8 wr)
            case atStart => exact ⟨0, by omega, rfl, rfl, Below.refl _ _⟩
            case round =>
              obtain ⟨j, hj, rfl, rfl, hbr9⟩ := hrel
              by_cases hjK : j < K
              · obtain ⟨b1, o1, va, rfl, hR1, c1, hva⟩ := HG.out.at_ (k := j) (by rw [HDL.out]; exact hjK)
                obtain ⟨b2, o2, vb, rfl, hR2, c2, hvb⟩ := HDD.out.at_ (k := j) (by rw [HDL.out]; exact hjK)
                have d1 := (hbr9.cell (p := ⟨b1, o1 + j, none⟩) hR1).trans c1
                have d2 := (hbr9.cell (p := ⟨b2, o2 + j, none⟩) hR2).trans c2
                have hva9 := hva.keep (w' := wr) (kept_below hbr9)
                have hvb9 := hvb.keep (w' := wr) (kept_below hbr9)
                generalize D[j]'(by rw [HDL.out]; exact hjK) = row at *
                obtain ⟨Av, cv, rfl, -, -⟩ := hva.form
                obtain ⟨Aw, cw, rfl, -, -⟩ := hvb.form
                have y1 := conv_bytes (w := wr.drew) (hva9.keep (w' := wr.drew) (fun _ _ => rfl))
                have y2 := conv_bytes (w := wr.drew) (hvb9.keep (w' := wr.drew) (fun _ _ => rfl))
                have q1 : (row == row) = true := by simp
                have j1 : (0 : Int) ≤ (j : Int) := by omega
                have j2 : (j : Int) < (K : Int) := by omega
                clear c1 c2 hva hvb hva9 hvb9
                go_upto_region 35 with fail
                go_region
                all_goals
                  go_wp2_with fail
                  go_roundg (K - (j + 1))
                  case measure => omega
                  case rel => exact ⟨j + 1, by omega, rfl, by go_num, hbr9.drew⟩
              · go_wp2_with fail
                refine (HA.out _).mono ?_
                rintro e w' ⟨rfl, hbl⟩
                have hbz := hbw9.trans (hbr9.mono hbw9.size)
                have hbz2 := hbz.trans (hbl.mono hbz.size)
                go_wp2
                go_ret
                exact ⟨rfl, hbz2⟩
          -- }R
end Go.Proofs.Ytkpfndhocgmgjaa
