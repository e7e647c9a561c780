/- A []Fragment that came in, opened. -/
import Derived.Test.YtkpfndhocgmgjaaGD3
import Derived.Test.YtkpfndhocgmgjaaOpenG
namespace Go.Proofs.Ytkpfndhocgmgjaa
open Go.RowKit Go.ChangeShapes Go.WideShapes Go.ChangeAt Go.Deep Go.Joins
set_option linter.unusedVariables false
set_option linter.unusedSimpArgs false
theorem open_frags {H : Type} {enc : TypeId × Value → H} {W : World} {v : Value} {fuel : Nat} {x : DataW H × List MemPlace} (h : DataW.trod enc Try.prog W 0 (fun _ => true) true fuel 22 [v] = some x) : ∃ hs, FragS W (Bl W.heap.size) v hs := by
  obtain ⟨hs, h1, h2⟩ := open_rows (size := 2) (fun cs (f : Frg) => ∃ va, cs = [.int .i64 f.idx, va] ∧ ByS W (Bl W.heap.size) va f.data ∧ I64 f.idx) Try.underlying22 (by kernel_rfl) (by omega) (fun n cs y hy hl => by
    obtain ⟨y0, y1, n2, _, _, t0, t1⟩ := trod_struct2 Try.underlying27 hy
    match cs, hl with
    | [u0, u1], _ =>
      obtain ⟨k, rfl, hk⟩ := open_int1 (t := 3) Try.underlying3 (by first | exact t0 | simpa using t0)
      obtain ⟨l, hl⟩ := open_byS (t := 25) Try.underlying25 Try.underlying5 (by kernel_rfl) (by first | exact t1 | simpa using t1)
      exact ⟨⟨k, l⟩, u1, rfl, hl, hk⟩) h
  refine ⟨hs, h1.imp (fun _ hb => hb) fun b off hb hc k f hf => ?_, fun f hf => ?_⟩
  · obtain ⟨cs, q1, q2, va, rfl, hv, -⟩ := hc k f hf
    exact ⟨va, by simpa using q2 0 _ rfl, by simpa using q2 1 _ rfl, hv⟩
  · obtain ⟨cs, va, -, -, hi⟩ := h2 f hf
    exact hi
end Go.Proofs.Ytkpfndhocgmgjaa
