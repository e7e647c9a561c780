/- A buffer of bytes made of a string. -/
import Derived.Test.YtffamkodckghgaaBase
namespace Go.Proofs.Ytffamkodckghgaa
open Go.RowKit
set_option linter.unusedVariables false
set_option linter.unusedSimpArgs false
/-- From cell 0 of block g on lie the bytes l, and they may be written. -/
def BufAt (W : World) (g : Nat) (l : List UInt8) : Prop := ∀ j x, l[j]? = some x → W.cell? ⟨g, j, none⟩ = some (.int .u8 (x.toNat : Int)) ∧ W.frozen? ⟨g, j, none⟩ = false
theorem frozen_set (W : World) (a b : Addr) (v : Value) : (W.setCell a v).frozen? b = W.frozen? b := by simp
theorem BufAt.set_ {W : World} {g i : Nat} {l : List UInt8} (h : BufAt W g l) (hi : i < l.length) (y : UInt8) : BufAt (W.setCell ⟨g, i, none⟩ (.int .u8 (y.toNat : Int))) g (l.set i y) := by
  intro j x hx
  refine ⟨?_, ?_⟩
  · by_cases hj : j = i
    · subst hj
      rw [List.getElem?_set_self hi] at hx
      injection hx with hx
      subst hx
      exact World.cell?_setCell_same W _ _ (h j _ (List.getElem?_eq_getElem hi)).1
    · rw [List.getElem?_set_ne (fun e => hj e.symm)] at hx
      rw [World.cell?_setCell_other W _ _ _ (fun e => by injection e with e1 e2; exact hj e2.symm)]
      exact (h j x hx).1
  · rw [frozen_set]
    by_cases hj : j = i
    · subst hj
      exact (h j _ (List.getElem?_eq_getElem hi)).2
    · rw [List.getElem?_set_ne (fun e => hj e.symm)] at hx
      exact (h j x hx).2
theorem BufAt.byS {W : World} {g c : Nat} {l : List UInt8} (h : BufAt W g l) (hc : l.length ≤ c) (hm : l.length ≤ maxLen) {R : Nat → Prop} (hR : R g) : ByS W R (.slice (some ⟨g, 0, none⟩) l.length c) l :=
  ⟨_, c, rfl, hc, hm, fun _ => ⟨g, 0, rfl, hR, fun k x hk => by rw [Nat.zero_add]; exact (h k x hk).1⟩⟩
/-- '[]byte(s)'. -/
theorem run_bytes_ex {P : Program} (W : World) (src dst e : TypeId) (l : List UInt8) (hs : P.underlying src = some .string) (hd : P.underlying dst = some (.slice e)) (he : P.underlying e = some (.int .u8)) :
    ∃ W' cap, (convert src dst (.string ⟨l.toArray⟩)).run P W = .ok (.slice (some ⟨W.heap.size, 0, none⟩) l.length cap) W' ∧ Below W.heap.size W W' ∧ W.heap.size < W'.heap.size ∧ l.length ≤ cap ∧ BufAt W' W.heap.size l := by
  have hsz : (⟨l.toArray⟩ : ByteArray).size = l.length := by show l.toArray.size = _; simp
  have hr := run_bytes_of_string (P := P) W src dst e ⟨l.toArray⟩ hs hd he
  rw [hsz] at hr
  refine ⟨_, _, hr, ((Below.refl _ _).drew).alloc (Nat.le_refl _) _, by simp, grownCap_ge W l.length 0 e, fun j x hx => ?_⟩
  have hj : j < l.length := (List.getElem?_eq_some_iff.1 hx).1
  have hxl : l[j] = x := (List.getElem?_eq_some_iff.1 hx).2
  refine ⟨?_, ?_⟩
  · have h1 := World.cell?_alloc_mark W.drew (bytesRow ⟨l.toArray⟩ (grownCap W l.length 0 e)) e ((bytesRow ⟨l.toArray⟩ (grownCap W l.length 0 e)).size, (bytesRow ⟨l.toArray⟩ (grownCap W l.length 0 e)).size + 1) j
    have h2 := bytesRow_at ⟨l.toArray⟩ (grownCap W l.length 0 e) j (by simpa using hj)
    rw [h2] at h1
    simpa [hxl] using h1
  · have h1 := World.frozen?_alloc_mark W.drew (bytesRow ⟨l.toArray⟩ (grownCap W l.length 0 e)) e (bytesRow ⟨l.toArray⟩ (grownCap W l.length 0 e)).size ((bytesRow ⟨l.toArray⟩ (grownCap W l.length 0 e)).size + 1) j
    have h3 : j < (bytesRow ⟨l.toArray⟩ (grownCap W l.length 0 e)).size := by
      unfold bytesRow
      simp; omega
    have h4 : decide ((bytesRow ⟨l.toArray⟩ (grownCap W l.length 0 e)).size ≤ j) = false := by simp; omega
    rw [h4] at h1
    exact h1
/-- A byte that is the exclusive or of two. -/
theorem u8_of_xor (a b : Int) (ha : 0 ≤ a ∧ a ≤ 255) (hb : 0 ≤ b ∧ b ≤ 255) : ∃ y : UInt8, bits .xor .u8 a b = (y.toNat : Int) := by
  rw [u8_xor a b ha.1 (by omega) hb.1 (by omega)]
  have h : a.toNat ^^^ b.toNat < 256 := Nat.xor_lt_two_pow (n := 8) (by omega) (by omega)
  exact ⟨UInt8.ofNat (a.toNat ^^^ b.toNat), by rw [UInt8.toNat_ofNat', Nat.mod_eq_of_lt (by simpa using h)]⟩
end Go.Proofs.Ytffamkodckghgaa
