/- What is read of cut frames. -/
import Derived.Test.YtffamkodckghgaaJMath5
namespace Go.Proofs.Ytffamkodckghgaa
/-- The valid ones of some records, and their frames. -/
def goodL (rs : List Rec) : List Rec := rs.filter validR
def framesB (rs : List Rec) : List UInt8 := (goodL rs).flatMap frameB
theorem goodL_valid (rs : List Rec) : ∀ r ∈ goodL rs, validR r = true := fun _ h => (List.mem_filter.1 h).2
theorem flat_length (gs : List Rec) : (gs.flatMap frameB).length = 26 * gs.length := by
  induction gs with
  | nil => rfl
  | cons r l ih => rw [List.flatMap_cons, List.length_append, ih, frameB_length, List.length_cons]; omega
theorem scan_cut : ∀ (gs : List Rec), (∀ r ∈ gs, validR r = true) → ∀ cut, scan ((gs.flatMap frameB).take cut) = gs.take (cut / 26) := by
  intro gs
  induction gs with
  | nil => intro _ cut; simp [scan_short]
  | cons r gs ih =>
    intro h cut
    rw [List.flatMap_cons]
    have hl := frameB_length r
    by_cases hc : cut < 26
    · rw [scan_short (by rw [List.length_take]; omega), show cut / 26 = 0 from by omega]; rfl
    · rw [List.take_append, List.take_of_length_le (by omega), hl, scan_frame (h r (by simp)), ih (fun x hx => h x (by simp [hx])), show cut / 26 = (cut - 26) / 26 + 1 from by omega]; rfl
theorem goodL_of_valid {rs : List Rec} (h : ∀ r ∈ rs, validR r = true) : goodL rs = rs := List.filter_eq_self.2 h
theorem scan_good (l : List UInt8) : goodL (scan l) = scan l := goodL_of_valid (scan_valid _ l (Nat.le_refl _)).1
theorem framesB_scan (l : List UInt8) : framesB (scan l) = l.take ((scan l).length * 26) := by
  unfold framesB; rw [scan_good]; exact (scan_valid _ l (Nat.le_refl _)).2
/-- The facts of JournalCuts. -/
theorem cuts_facts (rs : List Rec) (m : Nat) (hm : m ≤ (framesB rs).length) :
    scan ((framesB rs).take m) = (goodL rs).take (scan ((framesB rs).take m)).length ∧ (scan ((framesB rs).take m)).length = m / 26 ∧ (scan ((framesB rs).take m)).length ≤ (goodL rs).length ∧ (scan ((framesB rs).take m)).length * 26 ≤ m ∧
      framesB (scan ((framesB rs).take m)) = (framesB rs).take ((scan ((framesB rs).take m)).length * 26) ∧ (framesB rs).length = 26 * (goodL rs).length := by
  have h := scan_cut (goodL rs) (goodL_valid rs) m
  have hl : (framesB rs).length = 26 * (goodL rs).length := flat_length _
  have e : (scan ((framesB rs).take m)).length = m / 26 := by
    show (scan (((goodL rs).flatMap frameB).take m)).length = _
    rw [h, List.length_take]; omega
  refine ⟨?_, e, by omega, by omega, ?_, hl⟩
  · rw [e]; exact h
  · rw [framesB_scan, List.take_take, e]
    congr 1; omega
end Go.Proofs.Ytffamkodckghgaa
