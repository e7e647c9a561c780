/- Frames of records, as lists of bytes. -/
import Derived.Test.YtffamkodckghgaaJMath
namespace Go.Proofs.Ytffamkodckghgaa
/-- Argument i of a record; 0 behind the last. -/
def argN (r : Rec) (i : Nat) : Nat := (r.args.getD i 0).toNat
/-- The first bytes of a frame, with i of its arguments. -/
def bodyB (r : Rec) (i : Nat) : List UInt8 := [213, UInt8.ofNat r.kind.toNat] ++ (List.range i).flatMap fun j => beTo (argN r j) 5 5
theorem bodyB_succ (r : Rec) (i : Nat) : bodyB r (i + 1) = bodyB r i ++ beTo (argN r i) 5 5 := by simp [bodyB, List.range_succ]
theorem bodyB_length (r : Rec) (i : Nat) : (bodyB r i).length = 2 + 5 * i := by
  induction i with
  | zero => simp [bodyB]
  | succ i ih => rw [bodyB_succ, List.length_append, ih, beTo_length]; omega
def sealB (l : List UInt8) : List UInt8 := l ++ beTo (crc l) 4 4
def frameB (r : Rec) : List UInt8 := sealB (bodyB r 4)
theorem frameB_length (r : Rec) : (frameB r).length = 26 := by rw [frameB, sealB, List.length_append, bodyB_length, beTo_length]
theorem argN_in {r : Rec} {i : Nat} (h : i < r.args.length) (h0 : 0 ≤ r.args[i]) : r.args[i] = (argN r i : Int) := by
  unfold argN; rw [List.getD, List.getElem?_eq_getElem h]; simp only [Option.getD_some]; omega
theorem argN_out {r : Rec} {i : Nat} (h : r.args.length ≤ i) : argN r i = 0 := by
  unfold argN; rw [List.getD, List.getElem?_eq_none h]; rfl
theorem argN_le {r : Rec} (hv : validR r = true) (i : Nat) : argN r i ≤ 1099511627775 := by
  by_cases h : i < r.args.length
  · have := (validR_args hv).2.1 r.args[i] (List.getElem_mem h)
    have e := argN_in h this.1
    omega
  · rw [argN_out (by omega)]; omega
end Go.Proofs.Ytffamkodckghgaa
