/- A slice of calls, opened. -/
import Derived.Test.YtffamkodckghgaaOpen2
import Derived.Test.YtffamkodckghgaaJPlays
namespace Go.Proofs.Ytffamkodckghgaa
open Go.RowKit Go.ChangeShapes Go.WideShapes Go.ChangeAt Go.Deep Go.Joins
set_option linter.unusedVariables false
set_option linter.unusedSimpArgs false
section
variable {H : Type} {enc : TypeId × Value → H} {W : World}
theorem open_ops {fuel : Nat} {v : Value} {x : DataW H × List MemPlace}
    (h : DataW.trod enc Try.prog W 0 (fun _ => true) true fuel 47 [v] = some x) : ∃ os, OpsS W (Bl W.heap.size) v os := by
  have h' := open_rows (α := OpS) (te := 54) (size := 5) (fun cs o => ∃ va, cs = [.int .i64 o.kind, .int .i64 o.term, .int .i64 o.keep, .int .i64 o.r.kind, va] ∧ IntS W (Bl W.heap.size) va o.r.args ∧ I64 o.kind ∧ I64 o.term ∧ I64 o.keep ∧ I64 o.r.kind)
    Try.underlying47 (by kernel_rfl) (by omega) ?_ h
  · obtain ⟨os, h1, h2⟩ := h'
    refine ⟨os, h1.imp (fun _ hb => hb) (fun b off hb hc => ?_), fun o ho => ?_⟩
    · intro k o ho
      obtain ⟨cs, hl, hc1, va, rfl, hi, -⟩ := hc k o ho
      exact ⟨va, hc1 0 _ rfl, hc1 1 _ rfl, hc1 2 _ rfl, hc1 3 _ rfl, hc1 4 _ rfl, hi⟩
    · obtain ⟨cs, va, -, -, h3⟩ := h2 o ho
      exact h3
  · intro n cs y ht hl
    obtain ⟨y0, y1, y2, y3, n2, _, _, t0, t1, t2, t3⟩ := trod_struct4 Try.underlying54 ht
    match cs, hl with
    | [u0, u1, u2, u3, u4], _ =>
      have t0' : DataW.trod enc Try.prog W 0 (fun _ => true) true n2 3 [u0] = some y0 := t0
      have t1' : DataW.trod enc Try.prog W 0 (fun _ => true) true n2 3 [u1] = some y1 := t1
      have t2' : DataW.trod enc Try.prog W 0 (fun _ => true) true n2 3 [u2] = some y2 := t2
      have t3' : DataW.trod enc Try.prog W 0 (fun _ => true) true n2 24 [u3, u4] = some y3 := t3
      obtain ⟨z0, z1, n3, _, _, s0, s1⟩ := trod_struct2 Try.underlying24 t3'
      have s0' : DataW.trod enc Try.prog W 0 (fun _ => true) true n3 3 [u3] = some z0 := s0
      have s1' : DataW.trod enc Try.prog W 0 (fun _ => true) true n3 22 [u4] = some z1 := s1
      obtain ⟨a0, rfl, k0⟩ := open_int1 Try.underlying3 t0'
      obtain ⟨a1, rfl, k1⟩ := open_int1 Try.underlying3 t1'
      obtain ⟨a2, rfl, k2⟩ := open_int1 Try.underlying3 t2'
      obtain ⟨a3, rfl, k3⟩ := open_int1 Try.underlying3 s0'
      obtain ⟨xs, hx⟩ := open_intS Try.underlying22 Try.underlying3 (by kernel_rfl) s1'
      exact ⟨⟨a0, a1, a2, ⟨a3, xs⟩⟩, u4, rfl, hx, k0, k1, k2, k3⟩
end
end Go.Proofs.Ytffamkodckghgaa
