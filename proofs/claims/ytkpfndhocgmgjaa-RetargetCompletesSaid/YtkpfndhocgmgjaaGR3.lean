/- The reference's Complete, walked. -/
import Derived.Test.YtkpfndhocgmgjaaGR2
import Derived.Test.YtkpfndhocgmgjaaGE4
namespace Go.Proofs.Ytkpfndhocgmgjaa
open Go.RowKit
set_option linter.unusedVariables false
set_option linter.unusedSimpArgs false
theorem comD_dec (K M : Nat) (hs : List Frg) : comD K M hs = decD K hs := wordT_take K (K + M) (rowLen hs) (decD K hs) (decD_length K hs) (decD_wide K hs) (by omega)
set_option maxRecDepth 100000 in
set_option maxHeartbeats 1600000 in
theorem refcomplete_any (k m1 m2 : Int) (vh : Value) (hs : List Frg) (w : World) (hk : I64 k) (hm1 : I64 m1) (hm2 : I64 m2) (hh : FragS w (Bl w.heap.size) vh hs) (hl : hs.length ≤ 65536) (hd : ∀ h ∈ hs, h.data.length ≤ 65536) :
    Calls Try.prog 7 #[.int .i64 k, .int .i64 m1, .int .i64 m2, vh] w fun e w' => ∃ v, e = .returned (.tuple #[v, .int .i64 (comE k m1 m2 hs)]) ∧ (comE k m1 m2 hs = 0 → OwnFg w' w.heap.size v (comH k.toNat m1.toNat m2.toNat hs)) ∧ (comE k m1 m2 hs ≠ 0 → v = .slice none 0 0) ∧ Below w.heap.size w w' := by
  obtain ⟨Ah, ch, hvh, -, -⟩ := hh.form
  have HC1 := Lib.hid (r38code_any k m1 · hk hm1)
  have HC2 := Lib.hid (r38code_any k m2 · hk hm2)
  have HD := Lib.hid (refdecode_any k m1 vh hs w hk hm1 hh hl hd)
  subst hvh
  cases h1 : codeB k m1 with
  | false =>
    have hE : comE k m1 m2 hs = 1 := by unfold comE; rw [if_pos (Or.inl h1)]
    rw [h1] at HC1
    rw [hE]
    clear hE h1 hh
    go_enter Try.func7, Try.ntmps7
    go_wp2_with fail
    refine (HC1.out _).mono ?_
    rintro e w' ⟨rfl, rfl⟩
    go_wp2
    go_ret2
    exact ⟨_, rfl, (fun h => by cases h), fun _ => rfl, Below.refl _ _⟩
  | true =>
    rw [h1] at HC1
    cases h2 : codeB k m2 with
    | false =>
      have hE : comE k m1 m2 hs = 1 := by unfold comE; rw [if_pos (Or.inr (Or.inl h2))]
      rw [h2] at HC2
      rw [hE]
      clear hE h1 h2 hh
      go_enter Try.func7, Try.ntmps7
      go_wp2_with fail
      refine (HC1.out _).mono ?_
      rintro e w' ⟨rfl, rfl⟩
      go_wp2_with fail
      refine (HC2.out _).mono ?_
      rintro e w' ⟨rfl, rfl⟩
      go_wp2
      go_ret2
      exact ⟨_, rfl, (fun h => by cases h), fun _ => rfl, Below.refl _ _⟩
    | true =>
      rw [h2] at HC2
      by_cases hlt : m2 < m1
      · have hE : comE k m1 m2 hs = 1 := by unfold comE; rw [if_pos (Or.inr (Or.inr hlt))]
        rw [hE]
        clear hE h1 h2 hh
        go_enter Try.func7, Try.ntmps7
        go_wp2_with fail
        refine (HC1.out _).mono ?_
        rintro e w' ⟨rfl, rfl⟩
        go_wp2_with fail
        refine (HC2.out _).mono ?_
        rintro e w' ⟨rfl, rfl⟩
        go_wp2
        go_ret2
        exact ⟨_, rfl, (fun h => by cases h), fun _ => rfl, Below.refl _ _⟩
      · have hE : comE k m1 m2 hs = decE k m1 hs := by unfold comE; rw [if_neg (by simp [h1, h2, hlt])]
        rw [hE]
        by_cases hz : decE k m1 hs = 0
        · -- W1{
          have hg1 := (codeB_iff k m1).1 h1
          have hg2 := (codeB_iff k m2).1 h2
          obtain ⟨K, rfl⟩ : ∃ K : Nat, k = (K : Int) := ⟨k.toNat, by omega⟩
          obtain ⟨M1, rfl⟩ : ∃ M : Nat, m1 = (M : Int) := ⟨m1.toNat, by omega⟩
          obtain ⟨M2, rfl⟩ : ∃ M : Nat, m2 = (M : Int) := ⟨m2.toNat, by omega⟩
          obtain ⟨n1, hn1⟩ : ∃ n, n = K + M1 := ⟨_, rfl⟩
          obtain ⟨n2, hn2⟩ : ∃ n, n = K + M2 := ⟨_, rfl⟩
          have en1 : ((K : Int) + (M1 : Int)).toNat = K + M1 := by omega
          have ek : ((K : Int)).toNat = K := by omega
          have em1 : ((M1 : Int)).toNat = M1 := by omega
          have em2 : ((M2 : Int)).toNat = M2 := by omega
          rw [hz, ek, ← comD_dec K M1 hs] at HD
          rw [hz, ek, em1, em2]
          have hlen : (comD K M1 hs).length = K := by unfold comD; rw [List.length_take, wordT_length]; omega
          have hwid : Wide (comD K M1 hs) (rowLen hs) := fun r hr => wordT_wide _ _ _ _ r (List.mem_of_mem_take hr)
          have hrl : rowLen hs ≤ 65536 := by
            unfold rowLen
            rw [List.getD_eq_getElem?_getD]
            cases e : (datas hs)[0]? with
            | none => simp
            | some r =>
              have hm := List.mem_of_getElem? e
              simp only [datas, List.mem_map] at hm
              obtain ⟨h, hh1, rfl⟩ := hm
              exact hd h hh1
          have HE := Lib.hid (fun (v : Value) (w : World) h => refencode_any K M2 (rowLen hs) v (comD K M1 hs) w h2 hlen h hwid hrl)
          have hTl : (wordT K (K + M2) (comD K M1 hs) (rowLen hs)).length = K + M2 := wordT_length _ _ _ _
          unfold comH
          generalize wordT K (K + M2) (comD K M1 hs) (rowLen hs) = T at *
          generalize comD K M1 hs = D at *
          have HTL := Lib.hid hTl
          clear hE h1 h2 hh en1 ek em1 em2 hlen hwid hrl hz hd hTl
          go_enter Try.func7, Try.ntmps7
          go_wp2_with fail
          refine (HC1.out _).mono ?_
          rintro e w' ⟨rfl, rfl⟩
          go_wp2_with fail
          refine (HC2.out _).mono ?_
          rintro e w' ⟨rfl, rfl⟩
          go_wp2_with fail
          refine HD.out.mono ?_
          rintro e w1 ⟨v, rfl, hv, -, hb1⟩
          have hv := hv (by trivial)
          have he := HE.out v w1 hv
          obtain ⟨Av, cv, rfl, -, -⟩ := hv.form
          have HE2 := Lib.hid he
          clear hv he
          generalize D.length = dl at *
          go_wp2_with fail
          refine HE2.out.mono ?_
          rintro e w2 ⟨v2, rfl, hv2, hb2⟩
          obtain ⟨A2, c2, rfl, hc2, -⟩ := hv2.form
          rw [HTL.out] at hc2 hv2 ⊢
          have hb := hb1.trans (hb2.mono hb1.size)
          have HV2 := Lib.hid hv2
          clear hv2 hb1 hb2
          go_wp2_with fail
          go_loopg [14, 15] (M2 - M1) (fun z v13 v14 wr => ∃ j : Nat, j ≤ M2 - M1 ∧ z = M2 - M1 - j ∧ v14 = .int .i64 ((K + M1 + j : Nat) : Int) ∧ OwnFg wr w2.heap.size v13 (fragsT T (K + M1) j) ∧ Below w2.heap.size w2 wr)
          case atStart => exact ⟨0, by omega, rfl, by go_num, OwnFg.nil _ _, Below.refl _ _⟩
          case round =>
            obtain ⟨j, hj, rfl, rfl, hO, hbr⟩ := hrel
            obtain ⟨A13, c13, hv13⟩ := hO.form
            rw [fragsT_length] at hv13
            subst hv13
            have hb0 := hb.trans (hbr.mono hb.size)
            by_cases hlt2 : j < M2 - M1
            · obtain ⟨b, off, va, rfl, hR, hcell, hva⟩ := HV2.out.at_ (k := K + M1 + j) (by rw [HTL.out]; omega)
              have hc3 := (hbr.cell (p := ⟨b, off + (K + M1 + j), none⟩) hR).trans hcell
              have hva3 := hva.keep (w' := wr) (kept_below hbr)
              obtain ⟨row, hrow⟩ : ∃ row, row = T[K + M1 + j]'(by rw [HTL.out]; omega) := ⟨_, rfl⟩
              have hgd : T.getD (K + M1 + j) [] = row := by rw [hrow]; exact getD_lt _ _ _
              rw [← hrow] at hva3
              obtain ⟨Ar, cr, rfl, -, -⟩ := hva3.form
              obtain ⟨⟨cs, ho, hc⟩, hk0⟩ := hO
              rw [fragsT_length] at ho
              have hsz3 := hbr.size
              have HC := Lib.hid hc
              have HVA := Lib.hid hva3
              have HGD := Lib.hid hgd
              have HK0 := Lib.hid hk0
              have hblt : b < w2.heap.size := hR
              clear hc hva3 hcell hva hgd hk0 hrow
              go_wp2_with (at_builtin; refine app_frag (.tmp 58) (.tmp 65) rfl rfl _ _ _ _ (by rfl) ho (by rfl) rfl rfl (by omega) hsz3 ?_; intro v' w4 hown4 hg4 hat)
              go_roundg (M2 - M1 - (j + 1))
              case measure => omega
              case rel =>
                refine ⟨j + 1, by omega, rfl, by go_num, ?_, hbr.grown hg4 hsz3 (fun b h => (ho.lt b h).1)⟩
                rw [fragsT_succ]
                have hlt13 := ho.lt
                refine OwnFg.push (h := ⟨((K + M1 + j : Nat) : Int), T.getD (K + M1 + j) []⟩) HK0.out HC.out (by rw [fragsT_length]; exact ho) (by show I64 ((K + M1 + j : Nat) : Int); unfold I64; omega) ?_ (by rw [fragsT_length]; exact hown4) hg4 hat
                show ByS _ _ _ (T.getD (K + M1 + j) [])
                rw [HGD.out]
                exact HVA.out.mono (fun b hb => ⟨Nat.lt_of_lt_of_le hb hsz3, fun e => by have h1 := (hlt13 b e).1; have h2 : b < w2.heap.size := hb; omega⟩)
            · have hje : j = M2 - M1 := by omega
              have HJE := Lib.hid hje
              have HO := Lib.hid hO
              clear hO hje
              go_wp2
              go_ret2
              rw [← HJE.out]
              exact ⟨_, rfl, fun _ => HO.out.base hb.size, (fun h => absurd rfl h), hb0⟩
          -- }W1
        · -- W2{
          have hE2 := hz
          have HE := Lib.hid hE2
          generalize decE k m1 hs = E at *
          have hne : ((E : Int) != 0) = true := by simp [hE2]
          clear hE h1 h2 hh hz hE2
          go_enter Try.func7, Try.ntmps7
          go_wp2_with fail
          refine (HC1.out _).mono ?_
          rintro e w' ⟨rfl, rfl⟩
          go_wp2_with fail
          refine (HC2.out _).mono ?_
          rintro e w' ⟨rfl, rfl⟩
          go_wp2_with fail
          refine HD.out.mono ?_
          rintro e w' ⟨v, rfl, -, hv, hb⟩
          obtain rfl := hv HE.out
          go_wp2
          go_ret2
          exact ⟨_, rfl, (fun h => absurd h HE.out), fun _ => rfl, hb⟩
          -- }W2
end Go.Proofs.Ytkpfndhocgmgjaa
