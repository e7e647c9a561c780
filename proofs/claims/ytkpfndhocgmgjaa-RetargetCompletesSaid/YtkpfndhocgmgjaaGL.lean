/- RetargetCompletes, walked. -/
import Derived.Deep.CutBlock
import Derived.Deep.CutRange
import Derived.Test.YtkpfndhocgmgjaaGR4
import Derived.Test.YtkpfndhocgmgjaaGK
namespace Go.Proofs.Ytkpfndhocgmgjaa
open Go.RowKit
set_option linter.unusedVariables false
set_option linter.unusedSimpArgs false
/-- The fragments that Complete returns. -/
def comL (k m1 m2 : Int) (hs : List Frg) : List Frg := if comE k m1 m2 hs = 0 then comH k.toNat m1.toNat m2.toNat hs else []
theorem comL_of {k m1 m2 : Int} {hs : List Frg} {w : World} {B : Nat} {v : Value} (h1 : comE k m1 m2 hs = 0 → OwnFg w B v (comH k.toNat m1.toNat m2.toNat hs)) (h2 : comE k m1 m2 hs ≠ 0 → v = .slice none 0 0) : FragS w (Bl w.heap.size) v (comL k m1 m2 hs) := by
  unfold comL
  by_cases h : comE k m1 m2 hs = 0
  · rw [if_pos h]; exact (h1 h).fragS
  · rw [if_neg h, h2 h]; exact ⟨Row.nil _ _ _, fun h hh => by cases hh⟩
theorem completeS (k m1 m2 : Int) (vh : Value) (hs : List Frg) (w : World) (hk : I64 k) (hm1 : I64 m1) (hm2 : I64 m2) (hh : FragS w (Bl w.heap.size) vh hs) (hl : hs.length ≤ 65536) (hd : ∀ h ∈ hs, h.data.length ≤ 65536) :
    Calls Try.prog 6 #[.int .i64 k, .int .i64 m1, .int .i64 m2, vh] w fun e w' => ∃ v, e = .returned (.tuple #[v, .int .i64 (comE k m1 m2 hs)]) ∧ FragS w' (Bl w'.heap.size) v (comL k m1 m2 hs) ∧ Below w.heap.size w w' :=
  (complete_any k m1 m2 vh hs w hk hm1 hm2 hh hl hd).mono fun e w' ⟨v, h1, h2, h3, h4⟩ => ⟨v, h1, comL_of h2 h3, h4⟩
theorem refcompleteS (k m1 m2 : Int) (vh : Value) (hs : List Frg) (w : World) (hk : I64 k) (hm1 : I64 m1) (hm2 : I64 m2) (hh : FragS w (Bl w.heap.size) vh hs) (hl : hs.length ≤ 65536) (hd : ∀ h ∈ hs, h.data.length ≤ 65536) :
    Calls Try.prog 7 #[.int .i64 k, .int .i64 m1, .int .i64 m2, vh] w fun e w' => ∃ v, e = .returned (.tuple #[v, .int .i64 (comE k m1 m2 hs)]) ∧ FragS w' (Bl w'.heap.size) v (comL k m1 m2 hs) ∧ Below w.heap.size w w' :=
  (refcomplete_any k m1 m2 vh hs w hk hm1 hm2 hh hl hd).mono fun e w' ⟨v, h1, h2, h3, h4⟩ => ⟨v, h1, comL_of h2 h3, h4⟩
set_option maxRecDepth 100000 in
set_option maxHeartbeats 3200000 in
theorem completes_any (k m1 m2 : Int) (vr vl : Value) (hs : List Frg) (xs : List Int) (w : World) (hk : I64 k) (hm1 : I64 m1) (hm2 : I64 m2) (hr : FragS w (Bl w.heap.size) vr hs) (hl : IntS w (Bl w.heap.size) vl xs) :
    Calls Try.prog 3 #[.int .i64 k, .int .i64 m1, .int .i64 m2, vr, vl] w fun e w' => e = .returned (.bool true) ∧ Below w.heap.size w w' := by
  obtain ⟨Ar, cr, rfl, -, hmr⟩ := hr.form
  obtain ⟨Al, cl, rfl, -, -⟩ := hl.formL
  unfold maxLen at hmr
  have HA := Lib.hid awake_any
  have HR := Lib.hid hr
  have HL := Lib.hid hl
  have HK := Lib.hid (⟨hk, hm1, hm2⟩ : I64 k ∧ I64 m1 ∧ I64 m2)
  clear hr hl hk hm1 hm2
  by_cases h20 : (20 : Int) < (hs.length : Int)
  · go_enter Try.func3, Try.ntmps3
    go_wp2_with fail
    refine (HA.out _).mono ?_
    rintro e w' ⟨rfl, hb⟩
    go_wp2
    go_ret
    exact ⟨rfl, hb⟩
  · have hll : hs.length ≤ 20 := by omega
    go_enter Try.func3, Try.ntmps3
    go_wp2_with fail
    go_loopg [11] hs.length (fun z v11 wr => w = wr ∧ ∃ i : Nat, i ≤ hs.length ∧ z = hs.length - i ∧ v11 = .int .i64 (i : Int) ∧ Hid (∀ q (hq : q < hs.length), q < i → hs[q].data.length ≤ 40))
    case atStart => exact ⟨rfl, 0, by omega, rfl, rfl, fun q _ h => by omega⟩
    case round =>
      obtain ⟨rfl, i, hi, rfl, rfl, HI⟩ := hrel
      by_cases hlt : i < hs.length
      · -- W1{
        obtain ⟨b, off, va, rfl, hR, c0, c1, hva, hix⟩ := HR.out.at_ hlt
        obtain ⟨Av, cv, rfl, -, -⟩ := hva.form
        obtain ⟨L, hL⟩ : ∃ L, L = hs[i].data.length := ⟨_, rfl⟩
        rw [← hL] at c1
        have HLL := Lib.hid hL
        clear c0 hva hix hL
        by_cases h40 : (40 : Int) < (L : Int)
        · go_wp2_with fail
          refine (HA.out _).mono ?_
          rintro e w' ⟨rfl, hb⟩
          go_wp2
          go_ret
          exact ⟨rfl, hb⟩
        · go_wp2_with fail
          go_roundg (hs.length - (i + 1))
          case measure => omega
          case rel => exact ⟨rfl, i + 1, by omega, rfl, by go_num, (fun q hq h => by
            by_cases e : q = i
            · subst e; rw [← HLL.out]; omega
            · exact HI.out q hq (by omega))⟩
        -- }W1
      · have hd : ∀ h ∈ hs, h.data.length ≤ 65536 := fun h hh => by
          obtain ⟨q, hq, rfl⟩ := List.getElem_of_mem hh
          have := HI.out q hq (by omega)
          omega
        have HC1 := Lib.hid (completeS k m1 m2 _ hs w HK.out.1 HK.out.2.1 HK.out.2.2 HR.out (by omega) hd)
        have HD := Lib.hid hd
        obtain ⟨x, hx, hx4⟩ := within_nat k 4 (by omega)
        obtain ⟨y, hy, hy3⟩ := within_nat m1 3 (by omega)
        obtain ⟨c, hc, hc3⟩ := within_nat m2 3 (by omega)
        have h1 := fun w => within_any k 4 w HK.out.1 (by unfold I64; omega)
        have h2 := fun w => within_any m1 3 w HK.out.2.1 (by unfold I64; omega)
        have h3 := fun w => within_any m2 3 w HK.out.2.2 (by unfold I64; omega)
        rw [hx] at h1
        rw [hy] at h2
        rw [hc] at h3
        have H1 := Lib.hid h1
        have H2 := Lib.hid h2
        have H3 := Lib.hid h3
        obtain ⟨E, hE⟩ : ∃ E, E = comE k m1 m2 hs := ⟨_, rfl⟩
        obtain ⟨Ls, hLs⟩ : ∃ Ls, Ls = comL k m1 m2 hs := ⟨_, rfl⟩
        rw [← hE, ← hLs] at HC1
        have HE := Lib.hid hE
        have HLs := Lib.hid hLs
        obtain ⟨X, hX⟩ : ∃ X, X = 1 + x := ⟨_, rfl⟩
        obtain ⟨Z, hZ⟩ : ∃ Z, Z = y + c := ⟨_, rfl⟩
        have hXZ : 1 ≤ X ∧ X ≤ 4 ∧ y ≤ Z ∧ Z ≤ 4 ∧ y ≤ 2 := ⟨by omega, by omega, by omega, by omega, by omega⟩
        have eX : (1 : Int) + (x : Int) = (X : Int) := by omega
        have eZ : (y : Int) + (c : Int) = (Z : Int) := by omega
        have EX := Lib.hid eX
        have EZ := Lib.hid eZ
        clear hd h1 h2 h3 hx hy hc hE hLs hX hZ eX eZ HI
        go_wp2_with fail
        refine HC1.out.mono ?_
        rintro e W1 ⟨va, rfl, hva, hb1⟩
        have hr1 := (HR.out.below hb1)
        have HC2 := Lib.hid (refcompleteS k m1 m2 _ hs W1 HK.out.1 HK.out.2.1 HK.out.2.2 hr1 (by omega) HD.out)
        rw [← HE.out, ← HLs.out] at HC2
        have HVA := Lib.hid hva
        clear hr1 hva HC1
        go_wp2_with fail
        refine HC2.out.mono ?_
        rintro e W2 ⟨vb, rfl, hvb, hb2⟩
        have hva2 := HVA.out.below hb2
        have hbw2 := hb1.trans (hb2.mono hb1.size)
        have HVA2 := Lib.hid hva2
        have HVB := Lib.hid hvb
        clear hb1 hb2 hva2 hvb HC2 HVA
        go_wp2_with fail
        refine (H1.out _).mono ?_
        rintro e w' ⟨rfl, rfl⟩
        go_wp2_with fail
        rw [EX.out]
        refine (H2.out _).mono ?_
        rintro e w' ⟨rfl, rfl⟩
        go_wp2_with fail
        refine (H3.out _).mono ?_
        rintro e w' ⟨rfl, rfl⟩
        clear H1 H2 H3
        go_wp2_with fail
        rw [EZ.out]
        obtain ⟨W3, hW3⟩ : ∃ W3, W3 = W2.alloc (.cells #[.slice Al xs.length cl, .int .i64 0] 33) := ⟨_, rfl⟩
        obtain ⟨gt, hgt⟩ : ∃ gt, gt = W2.heap.size := ⟨_, rfl⟩
        have hT3 : TapeB W3 gt (.slice Al xs.length cl) 0 := by rw [hW3, hgt]; exact heap_alloc_new W2 _
        have hb23 : Below W2.heap.size W2 W3 := by rw [hW3]; exact (Below.refl _ _).alloc (Nat.le_refl _) _
        have hbw3 := hbw2.trans (hb23.mono hbw2.size)
        have hx3 : IntS W3 (Bl w.heap.size) (.slice Al xs.length cl) xs := HL.out.keep (kept_below hbw3)
        have hwgt : w.heap.size ≤ gt := by have := hbw2.size; omega
        have hs3 : W3.heap.size = gt + 1 := by rw [hW3, hgt]; simp
        obtain ⟨n, hn, hn6⟩ := within_nat (tapeX xs 0) 6 (by omega)
        have hnx := next_any gt _ xs 0 6 W3 _ hT3 hx3 (by omega) (by unfold I64; omega)
        rw [hn] at hnx
        have HNX := Lib.hid hnx
        have hva3 : FragS W3 (Bl gt) va Ls := by rw [hgt]; exact HVA2.out.keep (kept_below hb23)
        have hvb3 : FragS W3 (Bl gt) vb Ls := by rw [hgt]; exact HVB.out.keep (kept_below hb23)
        have HVA3 := Lib.hid hva3
        have HVB3 := Lib.hid hvb3
        rw [← hW3, ← hgt]
        have hgs : gt < W3.heap.size := by omega
        clear hW3 hgt hn hnx hT3 hs3 hb23 HVA2 HVB hva3 hvb3
        refine HNX.out.mono ?_
        rintro e W4 ⟨rfl, hT4, hg4⟩
        go_wp2_with fail
        have hx4 := hx3.keep (w' := W4) (fun b hb => hg4.block b (by have : b < w.heap.size := hb; omega) (fun e => by injection e with e; have : b < w.heap.size := hb; omega))
        have hR4 : ∀ b, Bl w.heap.size b → b < W4.heap.size ∧ b ≠ gt := fun b hb => by
          have h1 : b < w.heap.size := hb
          have h2 := hg4.size
          exact ⟨by omega, by omega⟩
        have hkn : X * n ≤ 24 := Nat.mul_le_mul hXZ.2.1 (by omega : n ≤ 6)
        have hrw := rows_any gt _ xs 1 X n W4 _ hT4 hx4 hR4 (by omega) (by omega) (by omega)
        have HRW := Lib.hid hrw
        clear hrw hR4 hx4 hx3 HNX hT4
        refine HRW.out.mono ?_
        rintro e W5 ⟨vD, D, I', rfl, hDl, hDw, hDm, hT5, hI', hg5⟩
        have hg35 := grown_trans hg4 hg5
        have hbw5 : Below w.heap.size w W5 := hbw3.grown hg35 hbw3.size (fun b h => by injection h with h; omega)
        have hDm5 : MatS W5 (Bl W5.heap.size) vD D := hDm.mono (fun b hb => hb.2)
        have hc1 : codeB (X : Int) (y : Int) = true := codeB_yes (by omega)
        have hen := refencodeF_any X y n vD D W5 hc1 hDl hDm5 hDw (by omega)
        have HEN := Lib.hid hen
        have hg5s := hg35.size
        have HG35 := Lib.hid hg35
        have HT5 := Lib.hid hT5
        clear HRW hDm hDm5 hen hDl hDw hc1 hg4 hg5 hg35 hbw3 hT5
        go_wp2_with fail
        refine HEN.out.mono ?_
        rintro e W6 ⟨vT, rfl, hT6, hb6⟩
        have hTl := wordT_length X (X + y) D n
        have hTr := fun a (h : a < X + y) => (wordT_wide X (X + y) D n).getD (i := a) (by rw [hTl]; exact h)
        obtain ⟨AT, cT, rfl, hcT, -⟩ := hT6.form
        rw [hTl] at hcT hT6 ⊢
        obtain ⟨n1, hn1⟩ : ∃ n1, n1 = X + y := ⟨_, rfl⟩
        have hn1b : n1 ≤ 6 := by omega
        rw [← hn1] at hcT ⊢
        have hbw6 := hbw5.trans (hb6.mono hbw5.size)
        have h56 := hb6.size
        have hTp6 : TapeB W6 gt (.slice Al xs.length cl) I' := (hb6.block gt (by omega)).trans HT5.out
        have HT6 := Lib.hid hT6
        have HTL := Lib.hid hTl
        have HN1 := Lib.hid hn1
        have hk36 : Kept (Bl gt) W3 W6 := fun b hb => (hb6.block b (by have : b < gt := hb; omega)).trans (HG35.out.block b (by have : b < gt := hb; omega) (fun e => by injection e with e; have : b < gt := hb; omega))
        have HVA6 := Lib.hid (HVA3.out.keep hk36)
        have HVB6 := Lib.hid (HVB3.out.keep hk36)
        obtain ⟨T, hT⟩ : ∃ T, T = wordT X (X + y) D n := ⟨_, rfl⟩
        rw [← hT] at HT6 HTL hTr
        have HTR := Lib.hid hTr
        have hI'24 : I' ≤ 30 := by omega
        have HTP := Lib.hid hTp6
        clear hT6 hTl HEN hn1 hT hTr hI' HT5 hTp6 hkn hk36 HVA3 HVB3
        go_wp2_with fail
        go_loopg [22, 23] n1 (fun z v22 v23 wr => ∃ (j I : Nat) (hs2 : List Frg), j ≤ n1 ∧ z = n1 - j ∧ v23 = .int .i64 (j : Int) ∧ OwnN wr W5.heap.size W6.heap.size v22 hs2 ∧ hs2.length ≤ j ∧ Hid (∀ h ∈ hs2, h.data.length ≤ 65536) ∧ TapeB wr gt (.slice Al xs.length cl) I ∧ I ≤ I' + j ∧ Kept (fun b => b < W6.heap.size ∧ b ≠ gt) W6 wr ∧ W6.heap.size ≤ wr.heap.size ∧ Below w.heap.size w wr)
        case atStart => exact ⟨0, I', [], by omega, rfl, rfl, OwnN.nil _ _ _, by simp, (fun h hh => by cases hh), HTP.out, by omega, Kept.refl _ _, Nat.le_refl _, hbw6⟩
        case round =>
          obtain ⟨j, I, hs2, hj, rfl, rfl, hO, hjl, HD2, hTp, hI, hkp, hsz, hbr⟩ := hrel
          obtain ⟨A22, c22, rfl⟩ := hO.form
          by_cases hlt2 : j < n1
          · -- W2{
            obtain ⟨d, hd, hd4⟩ := within_nat (tapeX xs I) 4 (by omega)
            have hx6 : IntS wr (Bl w.heap.size) (.slice Al xs.length cl) xs := HL.out.keep (kept_below hbr)
            have hnx := next_any gt _ xs I 4 wr _ hTp hx6 (by omega) (by unfold I64; omega)
            rw [hd] at hnx
            have HNX := Lib.hid hnx
            have HO := Lib.hid hO
            have HTP2 := Lib.hid hTp
            obtain ⟨b, off, va, rfl, hR, hcell, hva⟩ := HT6.out.at_ (k := j) (by rw [HTL.out, ← HN1.out]; exact hlt2)
            have HVT := Lib.hid hva
            have HCL := Lib.hid hcell
            clear hd hx6 hnx hO hTp hva hcell
            go_wp2_with fail
            refine HNX.out.mono ?_
            rintro e w7 ⟨rfl, hT7, hg7⟩
            have hb7 : Below w.heap.size w w7 := hbr.grown hg7 hbr.size (fun b h => by injection h with h; omega)
            have hkp7 : Kept (fun b => b < W6.heap.size ∧ b ≠ gt) W6 w7 := fun b hb => (hg7.block b (by omega) (fun e => by injection e with e; omega)).trans (hkp b hb)
            have hs7 := hg7.size
            have hO7 := HO.out.grown hg7 (by omega) h56
            have HT7 := Lib.hid hT7
            clear HNX hT7
            by_cases hd0 : 0 < d
            · obtain ⟨row, hrow⟩ : ∃ row, row = T[j]'(by rw [HTL.out, ← HN1.out]; exact hlt2) := ⟨_, rfl⟩
              have hva7 := HVT.out.keep (w' := w7) (fun b hb => hkp7 b ⟨hb.2, by have := hb.1; omega⟩)
              have hc7 : w7.cell? ⟨b, off + j, none⟩ = some va := (hkp7.cell (b := b) (o := off + j) ⟨hR.2, by have := hR.1; omega⟩).trans HCL.out
              rw [← hrow] at hva7
              obtain ⟨Ar, cr', rfl, -, hrl⟩ := hva7.form
              have hlen : row.length ≤ 65536 := by
                have := HTR.out j (by rw [← HN1.out]; exact hlt2)
                rw [getD_lt _ _ (by rw [HTL.out, ← HN1.out]; exact hlt2), ← hrow] at this
                omega
              obtain ⟨⟨cs, ho, hc⟩, hk0⟩ := hO7
              have HC := Lib.hid hc
              have HVA := Lib.hid hva7
              have HK0 := Lib.hid hk0
              have hsz3 : W6.heap.size ≤ w7.heap.size := by omega
              clear hc hva7 hk0 hrow hrl
              generalize hs2l : hs2.length = N2 at *
              have HN2 := Lib.hid hs2l
              clear hs2l
              go_wp2_with (at_builtin; refine app_frag (.tmp 94) (.tmp 101) rfl rfl _ _ _ _ (by rfl) ho (by rfl) rfl rfl (by omega) hsz3 ?_; intro v' w8 hown8 hg8 hat8)
              go_roundg (n1 - (j + 1))
              case measure => omega
              case rel =>
                have hlt13 := ho.lt
                have hs8 := hg8.size
                refine ⟨j + 1, I + 1, hs2 ++ [⟨(j : Int), row⟩], by omega, rfl, by go_num, ?_, ?_, ?_, ?_, by omega, ?_, by omega, hb7.grown hg8 hb7.size (fun b h => by have := (hlt13 b h).1; have := hbw5.size; omega)⟩
                · refine OwnN.push (h := ⟨(j : Int), row⟩) HK0.out HC.out (by rw [HN2.out]; exact ho) (by show I64 (j : Int); unfold I64; omega) (HVA.out.mono (fun b hb => ⟨hb.1, by have := hb.2; omega, fun e => by have h1 := (hlt13 b e).1; have h2 := hb.2; omega⟩)) (by rw [HN2.out]; exact hown8) hg8 hat8
                · rw [List.length_append, HN2.out]; simp; omega
                · intro h hh
                  rcases List.mem_append.1 hh with h1 | h1
                  · exact HD2.out h h1
                  · rw [List.mem_singleton.1 h1]; exact hlen
                · exact (hg8.block gt (by have := HT7.out.cells.2.2.2; omega) (fun e => by have := (hlt13 gt e.symm).1; omega)).trans HT7.out
                · exact fun b hb => (hg8.block b (by omega) (fun e => by have h1 := (hlt13 b e.symm).1; have h2 := hb.1; omega)).trans (hkp7 b hb)
            · have hd00 : d = 0 := by omega
              subst hd00
              go_wp2_with fail
              go_roundg (n1 - (j + 1))
              case measure => omega
              case rel => exact ⟨j + 1, I + 1, hs2, by omega, rfl, by go_num, hO7, by omega, HD2, HT7.out, by omega, hkp7, by omega, hb7⟩
            -- }W2
          · have hfs := hO.own.fragS
            have hd2 := HD2.out
            have h64 : I64 (X : Int) ∧ I64 (y : Int) ∧ I64 (Z : Int) := ⟨by unfold I64; omega, by unfold I64; omega, by unfold I64; omega⟩
            have HC3 := Lib.hid (completeS X y Z _ hs2 wr h64.1 h64.2.1 h64.2.2 hfs (by omega) hd2)
            have HC4 := Lib.hid (fun (w : World) (h : FragS w (Bl w.heap.size) (.slice A22 hs2.length c22) hs2) => refcompleteS X y Z (.slice A22 hs2.length c22) hs2 w h64.1 h64.2.1 h64.2.2 h (by omega) hd2)
            have hra : FragS wr (Bl wr.heap.size) va Ls := (HVA6.out.keep (w' := wr) (fun b hb => hkp b (by have h1 : b < gt := hb; exact ⟨by omega, by omega⟩))).mono (fun b hb => by have h1 : b < gt := hb; show b < _; omega)
            have hrb : FragS wr (Bl wr.heap.size) vb Ls := (HVB6.out.keep (w' := wr) (fun b hb => hkp b (by have h1 : b < gt := hb; exact ⟨by omega, by omega⟩))).mono (fun b hb => by have h1 : b < gt := hb; show b < _; omega)
            obtain ⟨E2, hE2⟩ : ∃ E2, E2 = comE (X : Int) (y : Int) (Z : Int) hs2 := ⟨_, rfl⟩
            obtain ⟨L2, hL2⟩ : ∃ L2, L2 = comL (X : Int) (y : Int) (Z : Int) hs2 := ⟨_, rfl⟩
            rw [← hE2, ← hL2] at HC3 HC4
            have HFS := Lib.hid hfs
            have HRA := Lib.hid hra
            have HRB := Lib.hid hrb
            obtain ⟨N2, hN2⟩ : ∃ N2, N2 = hs2.length := ⟨_, rfl⟩
            rw [← hN2] at HC3 HC4 HFS ⊢
            clear hfs hd2 h64 hra hrb hE2 hL2 hN2 hO hTp hkp
            go_wp2_with fail
            refine HC3.out.mono ?_
            rintro e W7 ⟨vc, rfl, hvc, hb7⟩
            have hC4 := HC4.out W7 (HFS.out.below hb7)
            have HC5 := Lib.hid hC4
            have HVC := Lib.hid hvc
            have HRA7 := Lib.hid (HRA.out.below hb7)
            have HRB7 := Lib.hid (HRB.out.below hb7)
            have hbw7 := hbr.trans (hb7.mono hbr.size)
            clear hvc hb7 hC4 HC3 HC4 HRA HRB
            go_wp2_with fail
            refine HC5.out.mono ?_
            rintro e W8 ⟨vd, rfl, hvd, hb8⟩
            have HVC8 := Lib.hid (HVC.out.below hb8)
            have HVD8 := Lib.hid hvd
            have HRA8 := Lib.hid (HRA7.out.below hb8)
            have HRB8 := Lib.hid (HRB7.out.below hb8)
            have hbw8 := hbw7.trans (hb8.mono hbw7.size)
            clear hvd hb8 HC5 HRA7 HRB7 HVC
            go_wp2_with fail
            refine (HA.out _).mono ?_
            rintro e W9 ⟨rfl, hb9⟩
            have HVC9 := Lib.hid (HVC8.out.below hb9)
            have HVD9 := Lib.hid (HVD8.out.below hb9)
            have HS1 := Lib.hid (samerows_any _ _ Ls W9 _ (HRA8.out.below hb9) (HRB8.out.below hb9))
            have hbw9 := hbw8.trans (hb9.mono hbw8.size)
            clear hb9 HVC8 HVD8 HRA8 HRB8
            go_wp2_with fail
            refine HS1.out.mono ?_
            rintro e W10 ⟨rfl, hb10⟩
            have HS2 := Lib.hid (samerows_any _ _ L2 W10 _ (HVC9.out.below hb10) (HVD9.out.below hb10))
            have hbw10 := hbw9.trans (hb10.mono hbw9.size)
            clear hb10 HVC9 HVD9
            go_wp2_with fail
            refine HS2.out.mono ?_
            rintro e W11 ⟨rfl, hb11⟩
            have hbw11 := hbw10.trans (hb11.mono hbw10.size)
            clear hb11
            go_wp2
            go_ret
            exact ⟨rfl, hbw11⟩
end Go.Proofs.Ytkpfndhocgmgjaa
