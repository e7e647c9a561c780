/- Which records are read from bytes. -/
import Derived.Test.YtffamkodckghgaaJMath3
namespace Go.Proofs.Ytffamkodckghgaa
def scanF : Nat → List UInt8 → List Rec
  | 0, _ => []
  | n + 1, l => if 26 ≤ l.length ∧ isFrame (l.take 26) = true then recOf (l.take 26) :: scanF n (l.drop 26) else []
theorem scanF_succ (n : Nat) (l : List UInt8) : scanF (n + 1) l = if 26 ≤ l.length ∧ isFrame (l.take 26) = true then recOf (l.take 26) :: scanF n (l.drop 26) else [] := rfl
theorem scanF_more : ∀ (n : Nat) (l : List UInt8), l.length ≤ n → scanF (n + 1) l = scanF n l := by
  intro n
  induction n with
  | zero =>
    intro l h
    have : ¬ (26 ≤ l.length ∧ isFrame (l.take 26) = true) := fun hh => by omega
    rw [scanF_succ, if_neg this]; rfl
  | succ n ih =>
    intro l h
    rw [scanF_succ (n + 1) l, scanF_succ n l]
    by_cases hc : 26 ≤ l.length ∧ isFrame (l.take 26) = true
    · rw [if_pos hc, if_pos hc, ih _ (by rw [List.length_drop]; omega)]
    · rw [if_neg hc, if_neg hc]
theorem scanF_all (l : List UInt8) : ∀ n, l.length ≤ n → scanF n l = scanF l.length l := by
  intro n
  induction n with
  | zero => intro h; have : l.length = 0 := by omega
            rw [this]
  | succ n ih =>
    intro h
    rcases Nat.lt_or_ge n l.length with h1 | h1
    · have : l.length = n + 1 := by omega
      rw [this]
    · rw [scanF_more n l h1, ih h1]
/-- The records at the beginning of some bytes. -/
def scan (l : List UInt8) : List Rec := scanF l.length l
theorem scan_yes {l : List UInt8} (h : 26 ≤ l.length) (hf : isFrame (l.take 26) = true) : scan l = recOf (l.take 26) :: scan (l.drop 26) := by
  unfold scan
  obtain ⟨n, hn⟩ : ∃ n, l.length = n + 1 := ⟨l.length - 1, by omega⟩
  rw [hn, scanF_succ, if_pos ⟨by omega, hf⟩, scanF_all (l.drop 26) n (by rw [List.length_drop]; omega)]
theorem scan_no {l : List UInt8} (h : ¬ (26 ≤ l.length ∧ isFrame (l.take 26) = true)) : scan l = [] := by
  unfold scan
  cases hl : l.length with
  | zero => rfl
  | succ n => rw [scanF_succ, if_neg h]
theorem scan_le : ∀ (n : Nat) (l : List UInt8), l.length ≤ n → (scan l).length * 26 ≤ l.length := by
  intro n
  induction n with
  | zero => intro l h; rw [scan_no (fun hh => by omega)]; simp
  | succ n ih =>
    intro l h
    by_cases hc : 26 ≤ l.length ∧ isFrame (l.take 26) = true
    · rw [scan_yes hc.1 hc.2, List.length_cons]
      have := ih (l.drop 26) (by rw [List.length_drop]; omega)
      rw [List.length_drop] at this
      omega
    · rw [scan_no hc]; simp
end Go.Proofs.Ytffamkodckghgaa
