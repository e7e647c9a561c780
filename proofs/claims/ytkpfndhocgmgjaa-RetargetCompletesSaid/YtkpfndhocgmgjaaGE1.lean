/- Encode of a good code, and Decode. -/
import Derived.Test.YtkpfndhocgmgjaaGD4
import Derived.Test.YtkpfndhocgmgjaaGD5
namespace Go.Proofs.Ytkpfndhocgmgjaa
open Go.RowKit
set_option linter.unusedVariables false
set_option linter.unusedSimpArgs false

set_option maxRecDepth 100000 in
set_option maxHeartbeats 1600000 in
theorem encode_any (k m n : Nat) (vd : Value) (d : Mat) (w : World) (hc : codeB k m = true) (hk : d.length = k) (hd : MatS w (Bl w.heap.size) vd d) (hw : Wide d n) (hn : n ≤ 65536) :
    Calls Try.prog 13 #[.int .i64 (k : Int), .int .i64 (m : Int), vd] w fun e w' => ∃ v, e = .returned (.tuple #[v, .int .i64 0]) ∧ MatS w' (Bl w'.heap.size) v (wordT k (k + m) d n) ∧ Below w.heap.size w w' := by
  have hck := (codeB_iff k m).1 hc
  obtain ⟨hK1, hK6, -, hM4, hn8⟩ := hck
  have HC := Lib.hid (ecode_any (k : Int) (m : Int) · (by unfold I64; omega) (by unfold I64; omega))
  rw [hc] at HC
  have HL := Lib.hid (level_any vd d w hd)
  rw [levelB_yes hw] at HL
  have HW := Lib.hid (word_any k m vd d n w hk (by omega) (by omega) (by omega) hd hw hn)
  obtain ⟨Ad, cd, rfl, -, -⟩ := hd.form
  have HK := Lib.hid hk
  have hkk : (d.length : Int) = (k : Int) := by rw [hk]
  clear hc hk hd hw
  generalize d.length = dl at *
  go_enter Try.func13, Try.ntmps13
  go_wp2_with fail
  refine (HC.out _).mono ?_
  rintro e w' ⟨rfl, rfl⟩
  go_wp2_with fail
  refine HL.out.mono ?_
  rintro e w' ⟨rfl, rfl⟩
  go_wp2_with fail
  refine HW.out.mono ?_
  rintro e w' ⟨v, rfl, hv, hb⟩
  go_wp2
  go_ret2
  exact ⟨_, rfl, hv, hb⟩
/-- The first rows of a table. -/
theorem MatS.take {w : World} {R : Nat → Prop} {A : Option Addr} {n c : Nat} {t : Mat} (h : MatS w R (.slice A n c) t) (k : Nat) (hk : k ≤ t.length) : MatS w R (.slice A k k) (t.take k) := by
  obtain ⟨A', c', e, h1, h2, h3⟩ := h
  have htl : (t.take k).length = k := by rw [List.length_take]; omega
  refine ⟨A, k, by rw [htl], by omega, by omega, fun h0 => ?_⟩
  obtain ⟨b, off, e2, hb, hc⟩ := h3 (by omega)
  injection e with e
  exact ⟨b, off, e.trans e2, hb, fun j r hj => hc j r (by
    have hj' : j < k := by have := (List.getElem?_eq_some_iff.1 hj).1; omega
    rwa [List.getElem?_take_of_lt hj'] at hj)⟩
set_option maxRecDepth 100000 in
set_option maxHeartbeats 1600000 in
theorem decode_any (k m : Int) (vh : Value) (hs : List Frg) (w : World) (hk : I64 k) (hm : I64 m) (hh : FragS w (Bl w.heap.size) vh hs) (hl : hs.length ≤ 65536) (hd : ∀ h ∈ hs, h.data.length ≤ 65536) :
    Calls Try.prog 14 #[.int .i64 k, .int .i64 m, vh] w fun e w' => ∃ v, e = .returned (.tuple #[v, .int .i64 (decE k m hs)]) ∧ (decE k m hs = 0 → MatS w' (Bl w'.heap.size) v ((wordT k.toNat (k + m).toNat (decD k.toNat hs) (rowLen hs)).take k.toNat)) ∧ (decE k m hs ≠ 0 → v = .slice none 0 0) ∧ Below w.heap.size w w' := by
  have HW := Lib.hid (whole_any k m vh hs w hk hm hh hl hd)
  obtain ⟨Ah, ch, rfl, hch, -⟩ := hh.form
  by_cases hz : decE k m hs = 0
  · have hcb : codeB k m = true := by
      cases h : codeB k m with
      | true => rfl
      | false => rw [decE_code h] at hz; cases hz
    have hck := (codeB_iff k m).1 hcb
    obtain ⟨K, rfl⟩ : ∃ K : Nat, k = (K : Int) := ⟨k.toNat, by omega⟩
    obtain ⟨M, rfl⟩ : ∃ M : Nat, m = (M : Int) := ⟨m.toNat, by omega⟩
    obtain ⟨n, hn⟩ : ∃ n, n = K + M := ⟨_, rfl⟩
    have enm : ((K : Int) + (M : Int)).toNat = n := by omega
    have ek : ((K : Int)).toNat = K := by omega
    rw [hz, enm, ek] at HW
    rw [hz, enm, ek]
    obtain ⟨T, hT⟩ : ∃ T, T = wordT K n (decD K hs) (rowLen hs) := ⟨_, rfl⟩
    have htl : T.length = n := by rw [hT, wordT_length]
    rw [← hT] at HW ⊢
    have HTL := Lib.hid htl
    clear hz hcb hh hT htl enm ek
    go_enter Try.func14, Try.ntmps14
    go_wp2_with fail
    refine HW.out.mono ?_
    rintro e w' ⟨v, rfl, hv, -, hb⟩
    have hv := hv (by trivial)
    obtain ⟨At, ct, rfl, hct, hmt⟩ := hv.form
    rw [HTL.out] at hct hmt hv ⊢
    have h1 : (K : Int) ≤ (ct : Int) := by omega
    have hcc := hv.take K (by rw [HTL.out]; omega)
    have HCC := Lib.hid hcc
    clear hv hcc
    go_wp2
    go_ret2
    exact ⟨_, rfl, fun _ => HCC.out, fun h => absurd rfl h, hb⟩
  · have hE := hz
    have HE := Lib.hid hE
    generalize decE k m hs = E at *
    have hne : ((E : Int) != 0) = true := by simp [hE]
    clear hz hE hh
    go_enter Try.func14, Try.ntmps14
    go_wp2_with fail
    refine HW.out.mono ?_
    rintro e w' ⟨v, rfl, -, hv, hb⟩
    obtain rfl := hv HE.out
    go_wp2
    go_ret2
    exact ⟨_, rfl, (fun h => absurd h HE.out), fun _ => rfl, hb⟩
end Go.Proofs.Ytkpfndhocgmgjaa
