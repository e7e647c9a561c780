import Derived.Test.YtffamkodckghgaaJW3
import Derived.Test.YtffamkodckghgaaJRec
namespace Go.Proofs.Ytffamkodckghgaa
open Go.RowKit
set_option linter.unusedVariables false
set_option linter.unusedSimpArgs false

open Classical in
/-- What a function that compares two things returns. -/
noncomputable def eqB {α : Type} (a b : α) : Bool := decide (a = b)
theorem eqB_true {α : Type} {a b : α} (h : a = b) : eqB a b = true := by simp [eqB, h]
theorem eqB_false {α : Type} {a b : α} (h : a ≠ b) : eqB a b = false := by simp [eqB, h]

set_option maxHeartbeats 800000 in
theorem sameInts_any (va vb : Value) (xs ys : List Int) (R R' : Nat → Prop) (w : World) (ha : IntS w R va xs) (hb : IntS w R' vb ys) :
    Calls Try.prog 42 #[va, vb] w fun e w' => e = .returned (.bool (eqB xs ys)) ∧ ∃ n, w' = w.drewN n := by
  obtain ⟨A, c, rfl, h1, h2⟩ := ha.form
  obtain ⟨B, d, rfl, g1, g2⟩ := hb.form
  unfold maxLen at h2 g2
  have HA := Lib.hid ha
  have HB := Lib.hid hb
  clear ha hb
  by_cases hl : xs.length = ys.length
  · have hl1 : ((xs.length : Int) != (ys.length : Int)) = false := by simp [hl]
    have HL := Lib.hid hl
    clear hl
    go_enter Try.func42, Try.ntmps42
    go_wp2
    go_loopw [5] (fun i wr => ∃ j : Nat, j ≤ xs.length ∧ i = .int .i64 j ∧ Hid (xs.take j = ys.take j) ∧ Hid (∃ n, wr = w.drewN n)) (fun i _ => xs.length - (intOf i).toNat)
    case atStart => exact ⟨0, by omega, rfl, rfl, 0, rfl⟩
    case round =>
      obtain ⟨j, hj, rfl, heq, hw⟩ := hrel
      obtain ⟨n, rfl⟩ := hw.out
      clear hw
      by_cases hlt : j < xs.length
      · have hlt2 : j < ys.length := by rw [← HL.out]; exact hlt
        obtain ⟨b, off, rfl, hR, hc, hx⟩ := HA.out.at_ hlt
        obtain ⟨b', off', rfl, hR', hc', hx'⟩ := HB.out.at_ hlt2
        by_cases he : xs[j] = ys[j]
        · have htk := Lib.hid (take_eq_succ heq.out hlt hlt2 he)
          have he1 : (xs[j] != ys[j]) = false := by simp [he]
          clear he
          generalize xs[j] = x at *
          generalize ys[j] = y at *
          go_wp2_with fail
          go_quiet (fail)
          go_wp2
          go_roundw
          case rel => exact ⟨j + 1, by omega, by go_num, htk, ⟨_, rfl⟩⟩
          case measure => simp [intOf]; omega
        · have hne := Lib.hid (ne_of_at hlt hlt2 he)
          have he1 : (xs[j] != ys[j]) = true := by simp [he]
          clear he
          generalize xs[j] = x at *
          generalize ys[j] = y at *
          go_wp2_with fail
          go_quiet (fail)
          go_wp2
          go_ret
          exact ⟨ret_bool (eqB_false hne.out).symm, drawn2 _ _ _⟩
      · obtain rfl : j = xs.length := by omega
        go_wp2
        go_ret
        have h := heq.out
        rw [List.take_length, HL.out, List.take_length] at h
        exact ⟨ret_bool (eqB_true h).symm, ⟨_, rfl⟩⟩
  · have hl1 : ((xs.length : Int) != (ys.length : Int)) = true := by simp; omega
    go_enter Try.func42, Try.ntmps42
    go_wp2
    go_ret
    exact ⟨ret_bool (eqB_false (fun e => hl (by rw [e]))).symm, 0, rfl⟩

theorem quiet_add {P : Program} {f : FuncId} {args : Array Value} {w : World} {a n : Nat} {v : Value}
    (h : Calls P f args (w.drewN (a + n)) fun e w' => e = .returned v ∧ ∃ m, w' = (w.drewN (a + n)).drewN m) :
    Calls P f args (w.drewN (a + n)) fun e w'' => e = .returned v ∧ ∃ m, w'' = w.drewN (a + m) :=
  h.mono fun _ _ ⟨he, m, hm⟩ => ⟨he, n + m, by rw [hm, World.drewN_drewN, Nat.add_assoc]⟩

theorem rec_ne {a b : Rec} (h : a.kind ≠ b.kind ∨ a.args ≠ b.args) : a ≠ b := by
  rintro rfl; rcases h with h | h <;> exact h rfl
theorem rec_eq {a b : Rec} (h : a.kind = b.kind) (h2 : a.args = b.args) : a = b := by
  cases a; cases b; simp_all

set_option maxHeartbeats 1600000 in
theorem sameRecs_any (va vb : Value) (xs ys : List Rec) (R R' : Nat → Prop) (w : World) (ha : RecS w R va xs) (hb : RecS w R' vb ys) :
    Calls Try.prog 21 #[va, vb] w fun e w' => e = .returned (.bool (eqB xs ys)) ∧ ∃ n, w' = w.drewN n := by
  obtain ⟨A, c, rfl, h1, h2⟩ := ha.form
  obtain ⟨B, d, rfl, g1, g2⟩ := hb.form
  unfold maxLen at h2 g2
  have HA := Lib.hid ha
  have HB := Lib.hid hb
  clear ha hb
  by_cases hl : xs.length = ys.length
  · have hl1 : ((xs.length : Int) != (ys.length : Int)) = false := by simp [hl]
    have HL := Lib.hid hl
    clear hl
    go_enter Try.func21, Try.ntmps21
    go_wp2
    go_loopw [5] (fun i wr => ∃ j : Nat, j ≤ xs.length ∧ i = .int .i64 j ∧ Hid (xs.take j = ys.take j) ∧ Hid (∃ n, wr = w.drewN n)) (fun i _ => xs.length - (intOf i).toNat)
    case atStart => exact ⟨0, by omega, rfl, rfl, 0, rfl⟩
    case round =>
      obtain ⟨j, hj, rfl, heq, hw⟩ := hrel
      obtain ⟨n, rfl⟩ := hw.out
      clear hw
      by_cases hlt : j < xs.length
      · have hlt2 : j < ys.length := by rw [← HL.out]; exact hlt
        obtain ⟨b, off, va, rfl, hR, hc, hcA, hva, hx⟩ := HA.out.at_ hlt
        obtain ⟨b', off', vb, rfl, hR', hc', hcA', hvb, hx'⟩ := HB.out.at_ hlt2
        by_cases he : xs[j].kind = ys[j].kind
        · have he1 : (xs[j].kind != ys[j].kind) = false := by simp [he]
          have hsame : ∀ m, Calls Try.prog 42 #[va, vb] (w.drewN m) fun e w' => e = .returned (.bool (eqB xs[j].args ys[j].args)) ∧ ∃ k, w' = (w.drewN m).drewN k := fun m => sameInts_any va vb _ _ R R' _ hva hvb
          have HS := Lib.hid hsame
          clear hsame
          by_cases he2 : xs[j].args = ys[j].args
          · have htk := Lib.hid (take_eq_succ heq.out hlt hlt2 (rec_eq he he2))
            rw [eqB_true he2] at HS
            clear he he2
            generalize xs[j].kind = x at *
            generalize ys[j].kind = y at *
            go_wp2_with fail
            go_quiet ((go_at_call 42; exact quiet_add (HS.out _)))
            go_wp2
            go_roundw
            case rel => exact ⟨j + 1, by omega, by go_num, htk, ⟨_, rfl⟩⟩
            case measure => simp [intOf]; omega
          · have hne := Lib.hid (ne_of_at hlt hlt2 (rec_ne (.inr he2)))
            rw [eqB_false he2] at HS
            clear he he2
            generalize xs[j].kind = x at *
            generalize ys[j].kind = y at *
            go_wp2_with fail
            go_quiet ((go_at_call 42; exact quiet_add (HS.out _)))
            go_wp2
            go_ret
            exact ⟨ret_bool (eqB_false hne.out).symm, by first | exact ⟨_, rfl⟩ | exact drawn2 _ _ _⟩
        · have hne := Lib.hid (ne_of_at hlt hlt2 (rec_ne (.inl he)))
          have he1 : (xs[j].kind != ys[j].kind) = true := by simp [he]
          clear he
          generalize xs[j].kind = x at *
          generalize ys[j].kind = y at *
          go_wp2_with fail
          go_quiet (fail)
          go_wp2
          go_ret
          exact ⟨ret_bool (eqB_false hne.out).symm, by first | exact ⟨_, rfl⟩ | exact drawn2 _ _ _⟩
      · obtain rfl : j = xs.length := by omega
        go_wp2
        go_ret
        have h := heq.out
        rw [List.take_length, HL.out, List.take_length] at h
        exact ⟨ret_bool (eqB_true h).symm, ⟨_, rfl⟩⟩
  · have hl1 : ((xs.length : Int) != (ys.length : Int)) = true := by simp; omega
    go_enter Try.func21, Try.ntmps21
    go_wp2
    go_ret
    exact ⟨ret_bool (eqB_false (fun e => hl (by rw [e]))).symm, 0, rfl⟩
end Go.Proofs.Ytffamkodckghgaa

