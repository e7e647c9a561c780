import Derived.Test.YtffamkodckghgaaJLogW
namespace Go.Proofs.Ytffamkodckghgaa
open Go.RowKit
set_option linter.unusedVariables false
set_option linter.unusedSimpArgs false
theorem crash_nil (k : Int) (w : World) : Calls Try.prog 28 #[.pointer none, .int .i64 k] w fun e w' => e = .returned (.tuple #[]) ∧ w = w' := by
  go_enter Try.func28, Try.ntmps28
  go_wp2
  refine bodyPost_ret (results_none rfl _ _ _) rfl ⟨rfl, rfl⟩
theorem bytes_nil (w : World) : Calls Try.prog 32 #[.pointer none] w fun e w' => e = .returned (.tuple #[.string ⟨#[]⟩, .int .i64 0]) ∧ w = w' := by
  go_enter Try.func32, Try.ntmps32
  go_wp2
  go_ret2
  exact ⟨rfl, rfl⟩
theorem fence_nil (t : Int) (w : World) : Calls Try.prog 26 #[.pointer none, .int .i64 t] w fun e w' => e = .returned (.int .i64 110) ∧ w = w' := by
  go_enter Try.func26, Try.ntmps26
  go_wp2
  go_ret
  exact ⟨rfl, rfl⟩
theorem sync_nil (t : Int) (w : World) : Calls Try.prog 24 #[.pointer none, .int .i64 t] w fun e w' => e = .returned (.int .i64 110) ∧ w = w' := by
  go_enter Try.func24, Try.ntmps24
  go_wp2_with fail
  refine (fence_nil t w).mono ?_
  rintro e w1 ⟨rfl, rfl⟩
  go_wp2
  go_ret
  exact ⟨rfl, rfl⟩
theorem append_nil (t : Int) (x0 x1 : Value) (w : World) : Calls Try.prog 30 #[.pointer none, .int .i64 t, .agg #[x0, x1]] w fun e w' => e = .returned (.int .i64 110) ∧ Below w.heap.size w w' := by
  go_enter Try.func30, Try.ntmps30
  go_wp2
  go_ret
  exact ⟨rfl, (Below.refl _ _).alloc (Nat.le_refl _) _⟩
theorem term_nil (w : World) : Calls Try.prog 33 #[.pointer none] w fun e w' => e = .returned (.int .i64 0) ∧ w = w' := by
  go_enter Try.func33, Try.ntmps33
  go_wp2
  go_ret
  exact ⟨rfl, rfl⟩
theorem clone_nil (w : World) : Calls Try.prog 35 #[.pointer none] w fun e w' => e = .returned (.pointer none) ∧ w = w' := by
  go_enter Try.func35, Try.ntmps35
  go_wp2
  go_ret
  exact ⟨rfl, rfl⟩
theorem records_nil (w : World) : Calls Try.prog 34 #[.pointer none] w fun e w' => (∃ A c, e = .returned (.slice A 0 c)) ∧ Below w.heap.size w w' := by
  have hsc := fun W' => scan_any ⟨#[]⟩ W' (by decide)
  have e0 : scan ([] : List UInt8) = [] := scan_short (by decide)
  have HSC := Lib.hid hsc
  clear hsc
  go_enter Try.func34, Try.ntmps34
  go_wp2_with fail
  refine (bytes_nil w).mono ?_
  rintro e w1 ⟨rfl, rfl⟩
  go_wp2_with fail
  refine (HSC.out _).mono ?_
  rintro e w2 ⟨v, rfl, hv, hb2⟩
  obtain ⟨A, c, rfl, -, -⟩ := hv.form
  go_wp2
  go_ret
  refine ⟨⟨A, c, ?_⟩, hb2⟩
  show Ending.returned (.slice A (scan ([] : List UInt8)).length c) = _
  rw [e0]; rfl
end Go.Proofs.Ytffamkodckghgaa
