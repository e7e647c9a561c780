/- Reading a record out of bytes. -/
import Derived.Test.YtffamkodckghgaaJMath2
namespace Go.Proofs.Ytffamkodckghgaa
/-- The record that 26 bytes speak of, whether or not they are its frame. -/
def kindOf (l : List UInt8) : Int := ((l.getD 1 0).toNat : Int)
def argOf (l : List UInt8) (i : Nat) : Int := (num ((l.drop (2 + i * 5)).take 5) : Int)
def argsTo (l : List UInt8) (n : Nat) : List Int := (List.range n).map (argOf l)
def recOf (l : List UInt8) : Rec := ⟨kindOf l, argsTo l (cnt (kindOf l)).toNat⟩
theorem argsTo_length (l : List UInt8) (n : Nat) : (argsTo l n).length = n := by simp [argsTo]
theorem argsTo_succ (l : List UInt8) (n : Nat) : argsTo l (n + 1) = argsTo l n ++ [argOf l n] := by simp [argsTo, List.range_succ]
theorem num5_lt (l : List UInt8) (k : Nat) (hk : k ≤ 5) (o : Nat) : num ((l.drop o).take k) < 1099511627776 := by
  refine Nat.lt_of_lt_of_le (num_lt _) ?_
  calc 256 ^ ((l.drop o).take k).length ≤ 256 ^ 5 := Nat.pow_le_pow_right (by omega) (Nat.le_trans (List.length_take_le _ _) hk)
    _ ≤ _ := by decide
theorem argOf_range (l : List UInt8) (i : Nat) : 0 ≤ argOf l i ∧ argOf l i < 1099511627776 := by
  have := num5_lt l 5 (by omega) (2 + i * 5)
  unfold argOf; omega
theorem argsTo_range (l : List UInt8) (n : Nat) : ∀ x ∈ argsTo l n, 0 ≤ x ∧ x < 1099511627776 := by
  intro x hx
  simp only [argsTo, List.mem_map] at hx
  obtain ⟨i, _, rfl⟩ := hx
  exact argOf_range l i
theorem kindOf_range (l : List UInt8) : 0 ≤ kindOf l ∧ kindOf l ≤ 255 := by
  have := (l.getD 1 0).toNat_lt
  unfold kindOf; omega
/-- Are the 26 bytes the frame of a valid record? -/
def isFrame (l : List UInt8) : Bool := validR (recOf l) && (frameB (recOf l) == l)
end Go.Proofs.Ytffamkodckghgaa
