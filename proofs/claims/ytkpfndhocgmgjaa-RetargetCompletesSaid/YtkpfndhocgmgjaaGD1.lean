/- Codes, words and fragments: the model, and the small functions. -/
import Derived.Test.YtkpfndhocgmgjaaGRO
namespace Go.Proofs.Ytkpfndhocgmgjaa
open Go.RowKit
set_option linter.unusedVariables false
set_option linter.unusedSimpArgs false
def codeB (k m : Int) : Bool := decide (1 ≤ k) && decide (k ≤ 6) && decide (0 ≤ m) && decide (m ≤ 4) && decide (k + m ≤ 8)
theorem codeB_iff (k m : Int) : codeB k m = true ↔ 1 ≤ k ∧ k ≤ 6 ∧ 0 ≤ m ∧ m ≤ 4 ∧ k + m ≤ 8 := by simp [codeB]; omega
theorem codeB_no {k m : Int} (h : ¬ (1 ≤ k ∧ k ≤ 6 ∧ 0 ≤ m ∧ m ≤ 4 ∧ k + m ≤ 8)) : codeB k m = false := by
  cases e : codeB k m with
  | false => rfl
  | true => exact absurd ((codeB_iff k m).1 e) h
theorem codeB_yes {k m : Int} (h : 1 ≤ k ∧ k ≤ 6 ∧ 0 ≤ m ∧ m ≤ 4 ∧ k + m ≤ 8) : codeB k m = true := (codeB_iff k m).2 h

set_option maxHeartbeats 800000 in
theorem rcode_any (k m : Int) (w : World) (hk : I64 k) (hm : I64 m) :
    Calls Try.prog 15 #[.int .i64 k, .int .i64 m] w fun e w' => e = .returned (.bool (codeB k m)) ∧ w = w' := by
  obtain ⟨k0, k1⟩ := hk
  obtain ⟨m0, m1⟩ := hm
  by_cases h1 : 1 ≤ k
  · by_cases h2 : k ≤ 6
    · by_cases h3 : 0 ≤ m
      · by_cases h4 : m ≤ 4
        · by_cases h5 : k + m ≤ 8
          · rw [codeB_yes ⟨h1, h2, h3, h4, h5⟩]
            go_enter Try.func15, Try.ntmps15
            go_wp2
            go_ret
            exact ⟨rfl, rfl⟩
          · rw [codeB_no (fun h => h5 h.2.2.2.2)]
            go_enter Try.func15, Try.ntmps15
            go_wp2
            go_ret
            exact ⟨rfl, rfl⟩
        · rw [codeB_no (fun h => h4 h.2.2.2.1)]
          go_enter Try.func15, Try.ntmps15
          go_wp2
          go_ret
          exact ⟨rfl, rfl⟩
      · rw [codeB_no (fun h => h3 h.2.2.1)]
        go_enter Try.func15, Try.ntmps15
        go_wp2
        go_ret
        exact ⟨rfl, rfl⟩
    · rw [codeB_no (fun h => h2 h.2.1)]
      go_enter Try.func15, Try.ntmps15
      go_wp2
      go_ret
      exact ⟨rfl, rfl⟩
  · rw [codeB_no (fun h => h1 h.1)]
    go_enter Try.func15, Try.ntmps15
    go_wp2
    go_ret
    exact ⟨rfl, rfl⟩

set_option maxHeartbeats 800000 in
theorem r38code_any (k m : Int) (w : World) (hk : I64 k) (hm : I64 m) :
    Calls Try.prog 16 #[.int .i64 k, .int .i64 m] w fun e w' => e = .returned (.bool (codeB k m)) ∧ w = w' := by
  obtain ⟨k0, k1⟩ := hk
  obtain ⟨m0, m1⟩ := hm
  by_cases h1 : 1 ≤ k
  · by_cases h2 : k ≤ 6
    · by_cases h3 : 0 ≤ m
      · by_cases h4 : m ≤ 4
        · by_cases h5 : k + m ≤ 8
          · rw [codeB_yes ⟨h1, h2, h3, h4, h5⟩]
            go_enter Try.func16, Try.ntmps16
            go_wp2
            go_ret
            exact ⟨rfl, rfl⟩
          · rw [codeB_no (fun h => h5 h.2.2.2.2)]
            go_enter Try.func16, Try.ntmps16
            go_wp2
            go_ret
            exact ⟨rfl, rfl⟩
        · rw [codeB_no (fun h => h4 h.2.2.2.1)]
          go_enter Try.func16, Try.ntmps16
          go_wp2
          go_ret
          exact ⟨rfl, rfl⟩
      · rw [codeB_no (fun h => h3 h.2.2.1)]
        go_enter Try.func16, Try.ntmps16
        go_wp2
        go_ret
        exact ⟨rfl, rfl⟩
    · rw [codeB_no (fun h => h2 h.2.1)]
      go_enter Try.func16, Try.ntmps16
      go_wp2
      go_ret
      exact ⟨rfl, rfl⟩
  · rw [codeB_no (fun h => h1 h.1)]
    go_enter Try.func16, Try.ntmps16
    go_wp2
    go_ret
    exact ⟨rfl, rfl⟩

set_option maxHeartbeats 800000 in
theorem ecode_any (k m : Int) (w : World) (hk : I64 k) (hm : I64 m) :
    Calls Try.prog 21 #[.int .i64 k, .int .i64 m] w fun e w' => e = .returned (.bool (codeB k m)) ∧ w = w' := by
  obtain ⟨k0, k1⟩ := hk
  obtain ⟨m0, m1⟩ := hm
  by_cases h1 : 1 ≤ k
  · by_cases h2 : k ≤ 6
    · by_cases h3 : 0 ≤ m
      · by_cases h4 : m ≤ 4
        · by_cases h5 : k + m ≤ 8
          · rw [codeB_yes ⟨h1, h2, h3, h4, h5⟩]
            go_enter Try.func21, Try.ntmps21
            go_wp2
            go_ret
            exact ⟨rfl, rfl⟩
          · rw [codeB_no (fun h => h5 h.2.2.2.2)]
            go_enter Try.func21, Try.ntmps21
            go_wp2
            go_ret
            exact ⟨rfl, rfl⟩
        · rw [codeB_no (fun h => h4 h.2.2.2.1)]
          go_enter Try.func21, Try.ntmps21
          go_wp2
          go_ret
          exact ⟨rfl, rfl⟩
      · rw [codeB_no (fun h => h3 h.2.2.1)]
        go_enter Try.func21, Try.ntmps21
        go_wp2
        go_ret
        exact ⟨rfl, rfl⟩
    · rw [codeB_no (fun h => h2 h.2.1)]
      go_enter Try.func21, Try.ntmps21
      go_wp2
      go_ret
      exact ⟨rfl, rfl⟩
  · rw [codeB_no (fun h => h1 h.1)]
    go_enter Try.func21, Try.ntmps21
    go_wp2
    go_ret
    exact ⟨rfl, rfl⟩

set_option maxHeartbeats 800000 in
theorem r07code_any (k m : Int) (w : World) (hk : I64 k) (hm : I64 m) :
    Calls Try.prog 18 #[.int .i64 k, .int .i64 m] w fun e w' => e = .returned (.bool (codeB k m)) ∧ w = w' := by
  obtain ⟨k0, k1⟩ := hk
  obtain ⟨m0, m1⟩ := hm
  by_cases h1 : 1 ≤ k
  · by_cases h2 : k ≤ 6
    · by_cases h3 : 0 ≤ m
      · by_cases h4 : m ≤ 4
        · by_cases h5 : k + m ≤ 8
          · rw [codeB_yes ⟨h1, h2, h3, h4, h5⟩]
            go_enter Try.func18, Try.ntmps18
            go_wp2
            go_ret
            exact ⟨rfl, rfl⟩
          · rw [codeB_no (fun h => h5 h.2.2.2.2)]
            go_enter Try.func18, Try.ntmps18
            go_wp2
            go_ret
            exact ⟨rfl, rfl⟩
        · rw [codeB_no (fun h => h4 h.2.2.2.1)]
          go_enter Try.func18, Try.ntmps18
          go_wp2
          go_ret
          exact ⟨rfl, rfl⟩
      · rw [codeB_no (fun h => h3 h.2.2.1)]
        go_enter Try.func18, Try.ntmps18
        go_wp2
        go_ret
        exact ⟨rfl, rfl⟩
    · rw [codeB_no (fun h => h2 h.2.1)]
      go_enter Try.func18, Try.ntmps18
      go_wp2
      go_ret
      exact ⟨rfl, rfl⟩
  · rw [codeB_no (fun h => h1 h.1)]
    go_enter Try.func18, Try.ntmps18
    go_wp2
    go_ret
    exact ⟨rfl, rfl⟩

/-- Are all rows of one length? -/
def levelB (t : Mat) : Bool := t.all fun r => r.length == (t.getD 0 []).length
theorem levelB_yes {t : Mat} {m : Nat} (h : Wide t m) : levelB t = true := by
  unfold levelB
  rw [List.all_eq_true]
  intro r hr
  have h1 := h r hr
  have h0 : 0 < t.length := List.length_pos_of_mem hr
  have h2 : (t.getD 0 []).length = m := h.getD h0
  rw [h1, h2]; simp
theorem levelB_wide {t : Mat} (h : levelB t = true) : Wide t (t.getD 0 []).length := by
  unfold levelB at h
  rw [List.all_eq_true] at h
  intro r hr
  simpa using h r hr
set_option maxHeartbeats 800000 in
theorem level_any (vt : Value) (t : Mat) (w : World) (ht : MatS w (Bl w.heap.size) vt t) :
    Calls Try.prog 22 #[vt] w fun e w' => e = .returned (.bool (levelB t)) ∧ w = w' := by
  obtain ⟨At, ct, rfl, hct, hmt⟩ := ht.form
  unfold maxLen at hmt
  go_enter Try.func22, Try.ntmps22
  go_wp2
  go_loop [7] (fun v7 => ∃ j : Nat, j ≤ t.length ∧ v7 = .int .i64 (j : Int) ∧ Hid (∀ i (h : i < t.length), i < j → t[i].length = (t.getD 0 []).length)) (fun v7 => t.length - (intOf v7).toNat)
  case atStart => exact ⟨0, by omega, rfl, fun i _ h => by omega⟩
  case round =>
    obtain ⟨j, hj, rfl, HQ⟩ := hrel
    by_cases hlt : j < t.length
    · obtain ⟨b, o, va, rfl, hR, c1, hva⟩ := ht.at_ hlt
      obtain ⟨b0, o0, v0, hA0, hR0, c0, hv0⟩ := ht.at_ (k := 0) (by omega)
      obtain ⟨rfl, rfl⟩ : b = b0 ∧ o = o0 := by injection hA0 with h; injection h with h1 h2; exact ⟨h1, h2⟩
      obtain ⟨A1, c1', rfl, -, hm1⟩ := hva.form
      obtain ⟨A2, c2', rfl, -, hm2⟩ := hv0.form
      unfold maxLen at hm1 hm2
      have h0 := congrArg List.length (getD_lt t [] (i := 0) (by omega))
      rw [Nat.add_zero] at c0
      obtain ⟨q, hq⟩ : ∃ q, q = t[j].length := ⟨_, rfl⟩
      obtain ⟨p, hp⟩ : ∃ p, p = (t[0]'(by omega)).length := ⟨_, rfl⟩
      rw [← hq] at c1 hm1
      rw [← hp] at c0 hm2 h0
      have HP := Lib.hid h0
      have HQJ := Lib.hid hq
      clear hA0 h0 hq hp hva hv0
      by_cases hqp : q = p
      · have e1 : ((q : Int) != (p : Int)) = false := by simp [hqp]
        have HE := Lib.hid hqp
        clear hqp
        go_wp2
        exact ⟨⟨j + 1, by omega, by go_num, fun i hi h => by
          by_cases e : i = j
          · subst e; rw [HP.out, ← HQJ.out, HE.out]
          · exact HQ.out i hi (by omega)⟩, by simp [intOf]; omega⟩
      · have e1 : ((q : Int) != (p : Int)) = true := by simp; omega
        have hno : levelB t = false := by
          cases e : levelB t with
          | false => rfl
          | true =>
            have h := levelB_wide e _ (List.getElem_mem hlt)
            rw [HP.out, ← HQJ.out] at h
            exact absurd h hqp
        have HNO := Lib.hid hno
        clear hqp hno
        go_wp2
        go_ret
        rw [HNO.out]
        exact ⟨rfl, rfl⟩
    · have hyes : levelB t = true := levelB_yes (m := (t.getD 0 []).length) fun r hr => by
        obtain ⟨i, hi, rfl⟩ := List.getElem_of_mem hr
        exact HQ.out i hi (by omega)
      have HY := Lib.hid hyes
      clear hyes
      go_wp2
      go_ret
      rw [HY.out]
      exact ⟨rfl, rfl⟩
/-- All rows of a code word: n of them. -/
def wordT (k n : Nat) (d : Mat) (m : Nat) : Mat := (List.range n).map fun a => combT (coefR k a) d m
theorem wordT_length (k n : Nat) (d : Mat) (m : Nat) : (wordT k n d m).length = n := by simp [wordT]
theorem wordT_wide (k n : Nat) (d : Mat) (m : Nat) : Wide (wordT k n d m) m := by
  intro r hr
  simp only [wordT, List.mem_map] at hr
  obtain ⟨a, -, rfl⟩ := hr
  exact combT_length _ _ _
theorem wordT_getD (k n : Nat) (d : Mat) (m a : Nat) (h : a < n) : (wordT k n d m).getD a [] = combT (coefR k a) d m := by
  rw [getD_lt _ _ (by rw [wordT_length]; exact h)]; simp [wordT]
/-- A [][]byte that the call has built, what it holds lying below or in blocks of the call. -/
def OwnM (w : World) (base : Nat) (v : Value) (t : Mat) : Prop := ∃ xs, w.ownsRow base 25 1 v t.length xs ∧ ∀ j, j < t.length → ByS w (fun b => b < w.heap.size ∧ v.ownBlock ≠ some b) (xs.getD j undef) (t.getD j [])
theorem OwnM.nil (w : World) (base : Nat) : OwnM w base (.slice none 0 0) [] := ⟨[], World.ownsRow_nil _ _ _ _, fun j hj => by cases hj⟩
theorem OwnM.form {w : World} {base : Nat} {v : Value} {t : Mat} (h : OwnM w base v t) : ∃ A c, v = .slice A t.length c := by
  obtain ⟨xs, ho, -⟩ := h
  exact own_form ho
theorem OwnM.below {w w2 : World} {base : Nat} {v : Value} {t : Mat} (h : OwnM w base v t) (hb : Below w.heap.size w w2) : OwnM w2 base v t := by
  obtain ⟨xs, ho, hc⟩ := h
  exact ⟨xs, own_below ho hb, fun j hj => ((hc j hj).keep (fun b hbb => hb.block b hbb.1)).mono (fun b hbb => ⟨Nat.lt_of_lt_of_le hbb.1 hb.size, hbb.2⟩)⟩
theorem OwnM.matS {w : World} {base : Nat} {v : Value} {t : Mat} (h : OwnM w base v t) : MatS w (Bl w.heap.size) v t := by
  obtain ⟨xs, ho, hc⟩ := h
  have hxl : xs.length = t.length := by have := ho.1; omega
  rcases ho.2 with ⟨rfl, h0⟩ | ⟨g, cap, cur, rfl, hg0, hg1, h2, h3, hg2⟩
  · unfold MatS; rw [h0]; exact Row.nil _ _ _
  · have ho' : w.ownsRow base 25 1 (rowC g t.length cap) t.length xs := ho
    refine ⟨_, cap, rfl, h2, Nat.le_trans h2 h3, fun _ => ⟨g, 0, rfl, (own_lt ho').2, fun k r hk => ?_⟩⟩
    have hj : k < t.length := (List.getElem?_eq_some_iff.1 hk).1
    have hx : t[k] = r := (List.getElem?_eq_some_iff.1 hk).2
    have h1 := hc k hj
    rw [getD_lt t [] hj, hx] at h1
    refine ⟨xs.getD k undef, ?_, h1.mono (fun b hb => hb.1)⟩
    rw [Nat.zero_add, ho.cellAt k (by omega), List.getElem?_eq_getElem (by omega), getD_lt _ _ (by omega)]
/-- A row more. -/
theorem OwnM.push {w w' : World} {base : Nat} {v v' va : Value} {t : Mat} {r : List UInt8} {xs : List Value} (ho : w.ownsRow base 25 1 v t.length xs) (hc : ∀ j, j < t.length → ByS w (fun b => b < w.heap.size ∧ v.ownBlock ≠ some b) (xs.getD j undef) (t.getD j []))
    (ha : ByS w (fun b => b < w.heap.size ∧ v.ownBlock ≠ some b) va r)
    (ho' : w'.ownsRow base 25 1 v' (t.length + 1) (xs ++ [va])) (hg : w.grownBy w' v.ownBlock) (hat : v'.ownBlock = v.ownBlock ∨ v'.ownBlock = some (w.heap.size + 1)) : OwnM w' base v' (t ++ [r]) := by
  have hxl : xs.length = t.length := by have := ho.1; omega
  have hR : ∀ b, (b < w.heap.size ∧ v.ownBlock ≠ some b) → (b < w'.heap.size ∧ v'.ownBlock ≠ some b) := fun b hb => ⟨Nat.lt_of_lt_of_le hb.1 hg.size, by
    rcases hat with e | e
    · rw [e]; exact hb.2
    · rw [e]; intro e2; injection e2 with e2; have := hb.1; omega⟩
  have hkp : Kept (fun b => b < w.heap.size ∧ v.ownBlock ≠ some b) w w' := fun b hb => hg.block b hb.1 (fun e => hb.2 e.symm)
  refine ⟨xs ++ [va], by rw [List.length_append]; exact ho', fun j hj => ?_⟩
  rw [List.length_append, List.length_singleton] at hj
  by_cases h1 : j < t.length
  · rw [getD_append_lt _ _ _ (by omega), getD_append_lt _ _ _ h1]
    exact ((hc j h1).keep hkp).mono hR
  · have h2 : j = t.length := by omega
    rw [h2, getD_last _ _ _ _ hxl, getD_last _ _ _ _ rfl]
    exact (ha.keep hkp).mono hR
end Go.Proofs.Ytkpfndhocgmgjaa
