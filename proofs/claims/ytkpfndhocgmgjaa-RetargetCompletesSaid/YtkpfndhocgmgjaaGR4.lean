/- The reference's Encode in new blocks alone; collected fragments of new blocks alone. -/
import Derived.Test.YtkpfndhocgmgjaaGR3
import Derived.Test.YtkpfndhocgmgjaaGD5
namespace Go.Proofs.Ytkpfndhocgmgjaa
open Go.RowKit
set_option linter.unusedVariables false
set_option linter.unusedSimpArgs false
theorem OwnF.below {w w2 : World} {base : Nat} {v : Value} {t : Mat} (h : OwnF w base v t) (hb : Below w.heap.size w w2) : OwnF w2 base v t := by
  obtain ⟨xs, ho, hc⟩ := h
  exact ⟨xs, own_below ho hb, fun j hj => ((hc j hj).keep (fun b hbb => hb.block b hbb.2.1)).mono (fun b hbb => ⟨hbb.1, Nat.lt_of_lt_of_le hbb.2.1 hb.size, hbb.2.2⟩)⟩
set_option maxRecDepth 100000 in
set_option maxHeartbeats 1600000 in
theorem refencodeF_any (k m n : Nat) (vd : Value) (d : Mat) (w : World) (hc : codeB k m = true) (hk : d.length = k) (hd : MatS w (Bl w.heap.size) vd d) (hw : Wide d n) (hn : n ≤ 65536) :
    Calls Try.prog 9 #[.int .i64 (k : Int), .int .i64 (m : Int), vd] w fun e w' => ∃ v, e = .returned (.tuple #[v, .int .i64 0]) ∧ MatS w' (Fr w.heap.size w'.heap.size) v (wordT k (k + m) d n) ∧ Below w.heap.size w w' := by
  have hck := (codeB_iff k m).1 hc
  obtain ⟨hK1, hK6, -, hM4, hn8⟩ := hck
  have HC := Lib.hid (r07code_any (k : Int) (m : Int) · (by unfold I64; omega) (by unfold I64; omega))
  rw [hc] at HC
  obtain ⟨Ad, cd, rfl, -, -⟩ := hd.form
  have hkk : ((d.length : Int) != (k : Int)) = false := by rw [hk]; simp
  have HK := Lib.hid hk
  clear hc
  generalize hdl : d.length = dl at *
  have HDL := Lib.hid hdl
  clear hk hdl
  go_enter Try.func9, Try.ntmps9
  go_wp2_with fail
  refine (HC.out _).mono ?_
  rintro e w' ⟨rfl, rfl⟩
  go_wp2_with fail
  clear HC hkk
  go_loopg [8, 9] (k + m) (fun z v8 v9 wr => ∃ a : Nat, a ≤ k + m ∧ z = k + m - a ∧ v9 = .int .i64 (a : Int) ∧ OwnF wr w.heap.size v8 (wordT k a d n) ∧ Below w.heap.size w wr)
  case atStart => exact ⟨0, by omega, rfl, rfl, OwnF.nil _ _, Below.refl _ _⟩
  case round =>
    obtain ⟨a, ha, rfl, rfl, hO, hb⟩ := hrel
    have hsz := hb.size
    obtain ⟨A7, c7, hv7⟩ := hO.form
    rw [wordT_length] at hv7
    subst hv7
    by_cases hlt : a < k + m
    · have hlt2 : (a : Int) < (k : Int) + (m : Int) := by omega
      go_wp2_with fail
      refine (factors_any k a wr (by omega) (by omega)).mono ?_
      rintro e w2 ⟨vc, rfl, hvc, hb2⟩
      have hd2 := (hd.below hb).below hb2
      obtain ⟨Ac, cc, hvc2, -, -⟩ := hvc.form
      rw [coefR_length] at hvc2
      subst hvc2
      have hcb := refcombine_any _ _ _ _ n w2 (hvc.mono Fr.bl) hd2 (by rw [coefR_length, HDL.out, HK.out]) (by rw [HDL.out, HK.out]; omega) (by rw [HDL.out, HK.out]; omega) hw hn
      have HCB := Lib.hid hcb
      clear hcb hd2 hvc
      go_wp2_with fail
      refine HCB.out.mono ?_
      rintro e w3 ⟨v3, rfl, hv3, hb3⟩
      have hO3 := (hO.below hb2).below hb3
      have hb13 := hb2.trans (hb3.mono hb2.size)
      obtain ⟨A3, c3, hv32, -, -⟩ := hv3.form
      rw [combT_length] at hv32
      subst hv32
      obtain ⟨xs, ho3, hc3⟩ := hO3
      obtain ⟨xs0, ho0, -⟩ := hO
      have hown0 := ho0.lt
      have hsz3 := Nat.le_trans hsz hb13.size
      rw [wordT_length] at ho3
      have hone : (Value.slice A3 n c3).oneCell' = true := rfl
      clear ho0 xs0
      go_wp2_with (at_builtin; refine app_row (.tmp 40) (.tmp 42) rfl rfl _ _ _ _ (by rfl) ho3 (by rfl) hone (by omega) hsz3 ?_; intro v' w4 hown' hg hat)
      go_roundg (k + m - (a + 1))
      case measure => omega
      case rel =>
        refine ⟨a + 1, by omega, rfl, by go_num, ?_, (hb.trans (hb13.mono hsz)).grown hg hsz3 (fun b h => (ho3.lt b h).1)⟩
        rw [wordT_succ]
        refine OwnF.push (by rw [wordT_length]; exact ho3) hc3 (hv3.mono (fun b hb => ⟨Nat.le_trans hsz (Nat.le_trans hb2.size hb.1), hb.2, Fr.sub (w := w3) hb (fun q hq => Nat.lt_of_lt_of_le (hown0 q hq).2 hb2.size)⟩)) (by rw [wordT_length]; exact hown') hg hat
    · have haI : Hid (a = k + m) := (by omega : a = k + m)
      have hlt2 : ¬ (a : Int) < (k : Int) + (m : Int) := by omega
      go_wp2
      go_ret2
      have h := hO.matS
      rw [haI.out] at h
      exact ⟨_, rfl, by rw [haI.out]; exact h, hb⟩
def FgN (w : World) (base : Nat) (v : Value) (hs : List Frg) (cs : List Value) : Prop :=
  ∀ k h, hs[k]? = some h → ∃ va, cs[k * 2]? = some (.int .i64 h.idx) ∧ cs[k * 2 + 1]? = some va ∧ ByS w (fun b => base ≤ b ∧ b < w.heap.size ∧ v.ownBlock ≠ some b) va h.data
/-- A []Fragment that the call has built of new blocks alone. -/
def OwnN (w : World) (low base : Nat) (v : Value) (hs : List Frg) : Prop :=
  (∃ cs, w.ownsRow base 27 2 v hs.length cs ∧ FgN w low v hs cs) ∧ ∀ h ∈ hs, I64 h.idx
theorem OwnN.nil (w : World) (low base : Nat) : OwnN w low base (.slice none 0 0) [] := ⟨⟨[], World.ownsRow_nil _ _ _ _, fun k r h => by simp at h⟩, fun r h => by cases h⟩
theorem OwnN.form {w : World} {low base : Nat} {v : Value} {hs : List Frg} (h : OwnN w low base v hs) : ∃ A c, v = .slice A hs.length c := by
  obtain ⟨⟨cs, ho, -⟩, -⟩ := h
  exact own_form ho
theorem OwnN.own {w : World} {low base : Nat} {v : Value} {hs : List Frg} (h : OwnN w low base v hs) : OwnFg w base v hs := by
  obtain ⟨⟨cs, ho, hc⟩, hk⟩ := h
  refine ⟨⟨cs, ho, fun k x hx => ?_⟩, hk⟩
  obtain ⟨va, h1, h2, h3⟩ := hc k x hx
  exact ⟨va, h1, h2, h3.mono (fun b hb => ⟨hb.2.1, hb.2.2⟩)⟩
theorem OwnN.grown {w w2 : World} {low base g : Nat} {v : Value} {hs : List Frg} (h : OwnN w low base v hs) (hg : w.grownBy w2 (some g)) (hgb : g < low) (hlb : low ≤ base) : OwnN w2 low base v hs := by
  obtain ⟨⟨cs, ho, hc⟩, hk⟩ := h
  refine ⟨⟨cs, ho.kept hg ?_, fun k x hx => ?_⟩, hk⟩
  · cases hv : v.ownBlock with
    | none => exact .inl rfl
    | some q => exact .inr (fun e => by injection e with e; have := (ho.lt q hv).1; omega)
  · obtain ⟨va, h1, h2, h3⟩ := hc k x hx
    exact ⟨va, h1, h2, (h3.keep (fun b hbb => hg.block b hbb.2.1 (fun e => by injection e with e; omega))).mono (fun b hbb => ⟨hbb.1, Nat.lt_of_lt_of_le hbb.2.1 hg.size, hbb.2.2⟩)⟩
theorem OwnN.push {w w' : World} {low base : Nat} {v v' va : Value} {hs : List Frg} {cs : List Value} {h : Frg} (hk : ∀ h ∈ hs, I64 h.idx)
    (hc : FgN w low v hs cs) (ho : w.ownsRow base 27 2 v hs.length cs) (hr : I64 h.idx) (ha : ByS w (fun b => low ≤ b ∧ b < w.heap.size ∧ v.ownBlock ≠ some b) va h.data)
    (ho' : w'.ownsRow base 27 2 v' (hs.length + 1) (cs ++ [.int .i64 h.idx, va])) (hg : w.grownBy w' v.ownBlock) (hat : v'.ownBlock = v.ownBlock ∨ v'.ownBlock = some (w.heap.size + 1)) : OwnN w' low base v' (hs ++ [h]) := by
  have hR : ∀ b, (low ≤ b ∧ b < w.heap.size ∧ v.ownBlock ≠ some b) → (low ≤ b ∧ b < w'.heap.size ∧ v'.ownBlock ≠ some b) := fun b hb => ⟨hb.1, Nat.lt_of_lt_of_le hb.2.1 hg.size, by
    rcases hat with e | e
    · rw [e]; exact hb.2.2
    · rw [e]; intro e2; injection e2 with e2; have := hb.2.1; omega⟩
  have hkp : Kept (fun b => low ≤ b ∧ b < w.heap.size ∧ v.ownBlock ≠ some b) w w' := fun b hb => hg.block b hb.2.1 (fun e => hb.2.2 e.symm)
  have hl : cs.length = hs.length * 2 := ho.1
  refine ⟨⟨_, by rw [List.length_append]; exact ho', fun k x hx => ?_⟩, fun x hx => ?_⟩
  · rcases Nat.lt_or_ge k hs.length with hlt | hge
    · rw [List.getElem?_append_left hlt] at hx
      obtain ⟨vb, h1, h2, h3⟩ := hc k x hx
      exact ⟨vb, by rw [List.getElem?_append_left (by omega)]; exact h1, by rw [List.getElem?_append_left (by omega)]; exact h2, (h3.keep hkp).mono hR⟩
    · rw [List.getElem?_append_right hge] at hx
      have hk0 : k - hs.length = 0 := by
        rcases Nat.eq_zero_or_pos (k - hs.length) with h0 | h0
        · exact h0
        · rw [List.getElem?_eq_none (by simp; omega)] at hx; cases hx
      rw [hk0] at hx
      simp at hx
      subst hx
      have hke : k = hs.length := by omega
      subst hke
      exact ⟨va, by rw [List.getElem?_append_right (by omega), hl]; simp, by rw [List.getElem?_append_right (by omega), hl]; simp, (ha.keep hkp).mono hR⟩
  · rcases List.mem_append.1 hx with h | h
    · exact hk x h
    · rw [List.mem_singleton.1 h]; exact hr
end Go.Proofs.Ytkpfndhocgmgjaa
