/- Matrices over the field of 256 elements: elimination, and why a code word's rows can be inverted. -/
import Derived.Test.YtkpfndhocgmgjaaGF
namespace Go.Proofs.Ytkpfndhocgmgjaa
instance : Std.Associative gmul := ⟨gmul_assoc⟩
instance : Std.Commutative gmul := ⟨gmul_comm⟩
def lsum {α : Type} (l : List α) (f : α → UInt8) : UInt8 := l.foldr (fun a s => f a ^^^ s) 0
section
variable {α β : Type}
theorem lsum_nil (f : α → UInt8) : lsum [] f = 0 := rfl
theorem lsum_cons (a : α) (l : List α) (f : α → UInt8) : lsum (a :: l) f = f a ^^^ lsum l f := rfl
theorem lsum_congr {l : List α} {f g : α → UInt8} (h : ∀ a ∈ l, f a = g a) : lsum l f = lsum l g := by
  induction l with
  | nil => rfl
  | cons a l ih => rw [lsum_cons, lsum_cons, h a (by simp), ih (fun x hx => h x (by simp [hx]))]
theorem lsum_zero {l : List α} {f : α → UInt8} (h : ∀ a ∈ l, f a = 0) : lsum l f = 0 := by
  induction l with
  | nil => rfl
  | cons a l ih => rw [lsum_cons, h a (by simp), ih (fun x hx => h x (by simp [hx])), xor_zero]
theorem lsum_xor (l : List α) (f g : α → UInt8) : lsum l (fun a => f a ^^^ g a) = lsum l f ^^^ lsum l g := by
  induction l with
  | nil => exact (xor_zero 0).symm
  | cons a l ih => rw [lsum_cons, lsum_cons, lsum_cons, ih, xor4u]
theorem lsum_mul (c : UInt8) (l : List α) (f : α → UInt8) : gmul c (lsum l f) = lsum l (fun a => gmul c (f a)) := by
  induction l with
  | nil => exact gmul_zero c
  | cons a l ih => rw [lsum_cons, lsum_cons, gmul_right, ih]
theorem lsum_append (l m : List α) (f : α → UInt8) : lsum (l ++ m) f = lsum l f ^^^ lsum m f := by
  induction l with
  | nil => exact (zero_xor _).symm
  | cons a l ih => rw [List.cons_append, lsum_cons, lsum_cons, ih, UInt8.xor_assoc]
theorem lsum_map (g : α → β) (l : List α) (f : β → UInt8) : lsum (l.map g) f = lsum l (fun a => f (g a)) := by
  induction l with
  | nil => rfl
  | cons a l ih => rw [List.map_cons, lsum_cons, lsum_cons, ih]
theorem lsum_filter (p : α → Bool) (l : List α) (f : α → UInt8) (h : ∀ a ∈ l, p a = false → f a = 0) : lsum l f = lsum (l.filter p) f := by
  induction l with
  | nil => rfl
  | cons a l ih =>
    rw [lsum_cons, ih (fun x hx => h x (by simp [hx]))]
    cases hp : p a with
    | true => rw [List.filter_cons_of_pos hp, lsum_cons]
    | false => rw [List.filter_cons_of_neg (by simp [hp]), h a (by simp) hp, zero_xor]
theorem lsum_single [DecidableEq α] (l : List α) (hn : l.Nodup) (c : α) (hc : c ∈ l) (f : α → UInt8) (h : ∀ a ∈ l, a ≠ c → f a = 0) : lsum l f = f c := by
  induction l with
  | nil => cases hc
  | cons a l ih =>
    rw [lsum_cons]
    have hn2 := List.nodup_cons.1 hn
    by_cases e : a = c
    · subst e
      rw [lsum_zero (l := l) (fun x hx => h x (by simp [hx]) (fun e => hn2.1 (e ▸ hx))), xor_zero]
    · rw [h a (by simp) e, zero_xor]
      refine ih hn2.2 ?_ (fun x hx => h x (by simp [hx]))
      rcases List.mem_cons.1 hc with h2 | h2
      · exact absurd h2.symm e
      · exact h2
end
theorem ginv_ne {a : UInt8} (h : a ≠ 0) : ginv a ≠ 0 := by
  intro e
  have := gmul_inv a h
  rw [e, gmul_zero] at this
  exact absurd this (by decide)
theorem inv_gmul {a : UInt8} (h : a ≠ 0) : gmul (ginv a) a = 1 := by rw [gmul_comm]; exact gmul_inv a h
theorem inv_add {a b : UInt8} (ha : a ≠ 0) (hb : b ≠ 0) : ginv a ^^^ ginv b = gmul (a ^^^ b) (gmul (ginv a) (ginv b)) := by
  rw [gmul_left, ← gmul_assoc, gmul_inv a ha, one_gmul, gmul_comm (ginv a), ← gmul_assoc, gmul_inv b hb, one_gmul, UInt8.xor_comm]
theorem term_lemma {x y y0 v : UInt8} (h : x ^^^ y ≠ 0) : gmul (x ^^^ y0) (gmul v (ginv (x ^^^ y))) = v ^^^ gmul (gmul v (y ^^^ y0)) (ginv (x ^^^ y)) := by
  have e : x ^^^ y0 = (x ^^^ y) ^^^ (y ^^^ y0) := by rw [UInt8.xor_assoc, ← UInt8.xor_assoc y, xor_self, zero_xor]
  have e1 : gmul (x ^^^ y) (gmul v (ginv (x ^^^ y))) = v := by rw [← gmul_assoc, gmul_comm (x ^^^ y), gmul_assoc, gmul_inv _ h, gmul_one]
  have e2 : gmul (y ^^^ y0) (gmul v (ginv (x ^^^ y))) = gmul (gmul v (y ^^^ y0)) (ginv (x ^^^ y)) := by rw [← gmul_assoc, gmul_comm (y ^^^ y0)]
  rw [e, gmul_left, e1, e2]
/-- Cauchy: as many equations as unknowns have the zero alone as a solution. -/
theorem cauchy : ∀ (ps : List (UInt8 × UInt8)) (xs : List UInt8), (ps.map (·.1)).Nodup → xs.Nodup → (∀ x ∈ xs, ∀ p ∈ ps, x ≠ p.1) → ps.length ≤ xs.length →
    (∀ x ∈ xs, lsum ps (fun p => gmul p.2 (ginv (x ^^^ p.1))) = 0) → ∀ p ∈ ps, p.2 = 0 := by
  intro ps
  induction hn : ps.length generalizing ps with
  | zero =>
    intro xs _ _ _ _ _ p hp
    rw [List.eq_nil_of_length_eq_zero hn] at hp; cases hp
  | succ n ih =>
    intro xs hny hnx hxy hlen heq
    match ps, xs, hn, hlen with
    | (y0, v0) :: qs, x0 :: xs, hn, hlen =>
      rw [List.map_cons] at hny
      have hny2 := List.nodup_cons.1 hny
      have hnx2 := List.nodup_cons.1 hnx
      have hne : ∀ x ∈ x0 :: xs, ∀ p ∈ (y0, v0) :: qs, x ^^^ p.1 ≠ 0 := fun x hx p hp e => hxy x hx p hp (xor_eq_zero e)
      have hE : ∀ x ∈ x0 :: xs, v0 ^^^ (lsum qs (fun p => p.2) ^^^ lsum qs (fun p => gmul (gmul p.2 (p.1 ^^^ y0)) (ginv (x ^^^ p.1)))) = 0 := by
        intro x hx
        have h1 := congrArg (gmul (x ^^^ y0)) (heq x hx)
        rw [gmul_zero, lsum_cons, gmul_right, lsum_mul] at h1
        rw [← h1, ← lsum_xor]
        congr 1
        · show v0 = gmul (x ^^^ y0) (gmul v0 (ginv (x ^^^ y0)))
          rw [gmul_comm v0, ← gmul_assoc, gmul_inv _ (hne x hx (y0, v0) (by simp)), one_gmul]
        · exact lsum_congr fun p hp => (term_lemma (hne x hx p (by simp [hp]))).symm
      have hq : ∀ p ∈ qs, p.2 = 0 := by
        have h := ih (qs.map fun p => (p.1, gmul (gmul p.2 (p.1 ^^^ y0)) (ginv (x0 ^^^ p.1)))) (by simpa using hn) xs (by rw [List.map_map]; exact hny2.2) hnx2.2 ?_ ?_ ?_
        · intro p hp
          have := h (p.1, gmul (gmul p.2 (p.1 ^^^ y0)) (ginv (x0 ^^^ p.1))) (List.mem_map.2 ⟨p, hp, rfl⟩)
          have hy : p.1 ^^^ y0 ≠ 0 := fun e => hny2.1 (List.mem_map.2 ⟨p, hp, xor_eq_zero e⟩)
          rcases gmul_eq_zero this with h1 | h1
          · rcases gmul_eq_zero h1 with h2 | h2
            · exact h2
            · exact absurd h2 hy
          · exact absurd h1 (ginv_ne (hne x0 (by simp) p (by simp [hp])))
        · intro x hx p hp
          obtain ⟨q, hq, rfl⟩ := List.mem_map.1 hp
          exact hxy x (by simp [hx]) q (by simp [hq])
        · simp at hn hlen ⊢; omega
        · intro x hx
          have hxx : x ^^^ x0 ≠ 0 := fun e => hnx2.1 (by rw [← xor_eq_zero e]; exact hx)
          have h1 := hE x (by simp [hx])
          have h0 := hE x0 (by simp)
          have h2 : lsum qs (fun p => gmul (gmul p.2 (p.1 ^^^ y0)) (ginv (x ^^^ p.1))) ^^^ lsum qs (fun p => gmul (gmul p.2 (p.1 ^^^ y0)) (ginv (x0 ^^^ p.1))) = 0 := by
            have e : (v0 ^^^ (lsum qs (fun p => p.2) ^^^ lsum qs (fun p => gmul (gmul p.2 (p.1 ^^^ y0)) (ginv (x ^^^ p.1))))) ^^^ (v0 ^^^ (lsum qs (fun p => p.2) ^^^ lsum qs (fun p => gmul (gmul p.2 (p.1 ^^^ y0)) (ginv (x0 ^^^ p.1))))) = 0 := by rw [h1, h0, xor_self]
            rw [xor4u v0, xor_self, zero_xor, xor4u (lsum qs (fun p => p.2)), xor_self, zero_xor] at e
            exact e
          rw [← lsum_xor] at h2
          rw [lsum_map]
          have h3 : gmul (x ^^^ x0) (lsum qs (fun p => gmul (gmul (gmul p.2 (p.1 ^^^ y0)) (ginv (x0 ^^^ p.1))) (ginv (x ^^^ p.1)))) = 0 := by
            rw [lsum_mul, ← h2]
            apply lsum_congr
            intro p hp
            rw [← gmul_right, inv_add (hne x (by simp [hx]) p (by simp [hp])) (hne x0 (by simp) p (by simp [hp])), xor4u x, xor_self, xor_zero]
            ac_rfl
          rcases gmul_eq_zero h3 with h4 | h4
          · exact absurd h4 hxx
          · exact h4
      intro p hp
      rcases List.mem_cons.1 hp with rfl | hp
      · have h1 := heq x0 (by simp)
        rw [lsum_cons, lsum_zero (l := qs) (fun p hp => by rw [hq p hp, zero_gmul]), xor_zero] at h1
        rcases gmul_eq_zero h1 with h2 | h2
        · exact h2
        · exact absurd h2 (ginv_ne (hne x0 (by simp) (y0, v0) (by simp)))
      · exact hq p hp
end Go.Proofs.Ytkpfndhocgmgjaa
