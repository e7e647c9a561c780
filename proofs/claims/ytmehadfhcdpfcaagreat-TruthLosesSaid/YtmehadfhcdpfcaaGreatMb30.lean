/- The sanity check of layer 42, walked. -/
import Derived.Test.YtmehadfhcdpfcaaGreatMb11
import Derived.Test.YtmehadfhcdpfcaaGreatMb29
import Derived.Test.YtmehadfhcdpfcaaGreatMb01
import Derived.ProofKit
import Derived.OpenShut
import Derived.Lib.SmallJoins
import Derived.Deep.Slices
import Derived.Deep.Fields
import Derived.ChangeSame
namespace Go.Proofs.YtmehadfhcdpfcaaGreat
open Go.RowKit
set_option linter.unusedVariables false
set_option linter.unusedSimpArgs false
def awP : Pc := ⟨1, 2, 0, 9, 5, [48, 49, 50, 51, 52, 53, 54, 55, 56, 57, 97, 98, 99, 100, 101, 102]⟩
def awR (s : ByteArray) : Re := ⟨[[], [s]], [false, false], [⟨1, 0, 5, 0⟩]⟩
theorem aw_valid : validP awP = true := by decide
theorem aw_len : (encB awP).length = 36 := by kernel_rfl
theorem aw_good1 : goodI (awR ⟨(encB awP).toArray⟩) 1 2 0 = [1] := by kernel_rfl
theorem aw_good2 : goodI (awR ⟨(encB awP).toArray⟩) 1 1 0 = [] := by kernel_rfl
theorem aw_int1 : intI (awR ⟨(encB awP).toArray⟩) 1 0 false = [2] := by kernel_rfl
theorem aw_int2 : intI (awR ⟨(encB awP).toArray⟩) 1 0 true = [] := by kernel_rfl
theorem aw_one {α : Type} {x y : α} {k : Nat} (h : [x][k]? = some y) : k = 0 ∧ y = x := by
 match k with
 | 0 => simp at h; exact ⟨rfl, h.symm⟩
 | k + 1 => simp at h
theorem aw_two {α : Type} {x1 x2 y : α} {k : Nat} (h : [x1, x2][k]? = some y) : (k = 0 ∧ y = x1) ∨ (k = 1 ∧ y = x2) := by
 match k with
 | 0 => simp at h; exact .inl ⟨rfl, h.symm⟩
 | 1 => simp at h; exact .inr ⟨rfl, h.symm⟩
 | k + 2 => simp at h
theorem aw_four {α : Type} {x1 x2 x3 x4 y : α} {k : Nat} (h : [x1, x2, x3, x4][k]? = some y) : (k = 0 ∧ y = x1) ∨ (k = 1 ∧ y = x2) ∨ (k = 2 ∧ y = x3) ∨ (k = 3 ∧ y = x4) := by
 match k with
 | 0 => simp at h; exact .inl ⟨rfl, h.symm⟩
 | 1 => simp at h; exact .inr (.inl ⟨rfl, h.symm⟩)
 | 2 => simp at h; exact .inr (.inr (.inl ⟨rfl, h.symm⟩))
 | 3 => simp at h; exact .inr (.inr (.inr ⟨rfl, h.symm⟩))
 | k + 4 => simp at h
theorem aw_re (W : World) (s : ByteArray) (n1 n2 n3 n4 : Nat) (hs : s.size = 36) (h1 : W.cell? ⟨n1, 0, none⟩ = some (.string s)) (h20 : W.cell? ⟨n2, 0, none⟩ = some (.slice none 0 0)) (h21 : W.cell? ⟨n2, 1, none⟩ = some (.slice (some ⟨n1, 0, none⟩) 1 1))
  (h30 : W.cell? ⟨n3, 0, none⟩ = some (.bool false)) (h31 : W.cell? ⟨n3, 1, none⟩ = some (.bool false)) (h40 : W.cell? ⟨n4, 0, none⟩ = some (.int .i64 1)) (h41 : W.cell? ⟨n4, 1, none⟩ = some (.int .i64 0)) (h42 : W.cell? ⟨n4, 2, none⟩ = some (.int .i64 5)) (h43 : W.cell? ⟨n4, 3, none⟩ = some (.int .i64 0)) :
  ReS W (Bl W.heap.size) (.slice (some ⟨n2, 0, none⟩) 2 2) (.slice (some ⟨n3, 0, none⟩) 2 2) (.slice (some ⟨n4, 0, none⟩) 1 1) (awR s) := by
 refine ⟨⟨_, 2, rfl, Nat.le_refl _, by unfold maxLen; simp [awR], fun _ => ⟨n2, 0, rfl, block_lt_of_cell h20, fun k a hk => ?_⟩⟩, ⟨_, 2, rfl, Nat.le_refl _, by unfold maxLen; simp [awR], fun _ => ⟨n3, 0, rfl, block_lt_of_cell h30, fun k a hk => ?_⟩⟩, ⟨_, 1, rfl, Nat.le_refl _, by unfold maxLen; simp [awR], fun _ => ⟨n4, 0, rfl, block_lt_of_cell h40, fun k a hk => ?_⟩⟩⟩
 ·rcases aw_two hk with ⟨rfl, rfl⟩ | ⟨rfl, rfl⟩
  ·exact ⟨[_], rfl, fun i c hc => by obtain ⟨rfl, rfl⟩ := aw_one hc; exact h20, _, rfl, Row.nil _ _ _⟩
  ·refine ⟨[_], rfl, fun i c hc => by obtain ⟨rfl, rfl⟩ := aw_one hc; exact h21, _, rfl, _, 1, rfl, Nat.le_refl _, by unfold maxLen; simp, fun _ => ⟨n1, 0, rfl, block_lt_of_cell h1, fun k a hk => ?_⟩⟩
   obtain ⟨rfl, rfl⟩ := aw_one hk
   exact ⟨[_], rfl, fun i c hc => by obtain ⟨rfl, rfl⟩ := aw_one hc; exact h1, rfl, by rw [hs]; unfold maxLen; decide⟩
 ·rcases aw_two hk with ⟨rfl, rfl⟩ | ⟨rfl, rfl⟩
  ·exact ⟨[_], rfl, fun i c hc => by obtain ⟨rfl, rfl⟩ := aw_one hc; exact h30, rfl⟩
  ·exact ⟨[_], rfl, fun i c hc => by obtain ⟨rfl, rfl⟩ := aw_one hc; exact h31, rfl⟩
 ·obtain ⟨rfl, rfl⟩ := aw_one hk
  refine ⟨[_, _, _, _], rfl, fun i c hc => ?_, rfl, by unfold I64; decide, by unfold I64; decide, by unfold I64; decide, by unfold I64; decide⟩
  rcases aw_four hc with ⟨rfl, rfl⟩ | ⟨rfl, rfl⟩ | ⟨rfl, rfl⟩ | ⟨rfl, rfl⟩
  ·exact h40
  ·exact h41
  ·exact h42
  ·exact h43
theorem aw_new (w : World) (cs : Array Value) (t : TypeId) (b i : Nat) (h : b = w.heap.size) : (w.alloc (.cells cs t)).cell? ⟨b, i, none⟩ = cs[i]? := by
 subst h
 exact cell_of_row _ _ _ _ _ _ (heap_alloc_new w (.cells cs t))
theorem aw_old (w : World) (o : Obj) (b i : Nat) (h : b < w.heap.size) : (w.alloc o).cell? ⟨b, i, none⟩ = w.cell? ⟨b, i, none⟩ := World.cell?_of_block (w := w) (Below.heap_alloc w o b h)
theorem aw_lit {w : World} {g : Nat} {x : Int} (h : w.cell? ⟨g, 0, none⟩ = some (.int .i64 x)) (hx : I64 x) : IntS w (Bl w.heap.size) (.slice (some ⟨g, 0, none⟩) 1 1) [x] :=
 ⟨⟨_, 1, rfl, Nat.le_refl _, by unfold maxLen; simp, fun _ => ⟨g, 0, rfl, block_lt_of_cell h, fun k a hk => by obtain ⟨rfl, rfl⟩ := aw_one hk; exact h⟩⟩, fun y hy => by rw [List.mem_singleton.1 hy]; exact hx⟩
set_option maxRecDepth 100000 in
set_option maxHeartbeats 1600000 in
theorem awake_any (w : World) : Calls Tryz.prog 10 #[] w fun e w' => e = .returned (.bool true) ∧ Below w.heap.size w w' := by
 have henc := fun w => refsenc_any awP w (by unfold PcI I64 maxLen; decide) (by decide)
 rw [show encS awP = encB awP by unfold encS; rw [if_pos aw_valid], show encE awP = 0 by unfold encE; rw [if_pos aw_valid]] at henc
 have hsz : (⟨(encB awP).toArray⟩ : ByteArray).size = 36 := by rw [size_of]; exact aw_len
 have hg1 := aw_good1
 have hg2 := aw_good2
 have hi1 := aw_int1
 have hi2 := aw_int2
 obtain ⟨X, hX⟩ : ∃ X : ByteArray, X = ⟨(encB awP).toArray⟩ := ⟨_, rfl⟩
 rw [← hX] at henc hsz hg1 hg2 hi1 hi2
 have HEN := Lib.hid henc
 have HSZ := Lib.hid hsz
 have HG1 := Lib.hid hg1
 have HG2 := Lib.hid hg2
 have HI1 := Lib.hid hi1
 have HI2 := Lib.hid hi2
 clear henc hsz hg1 hg2 hi1 hi2 hX
 go_enter Tryz.func10, Tryz.ntmps10
 go_wp2_with fail
 refine (HEN.out _).mono ?_
 rintro e w1 ⟨rfl, hb1⟩
 go_wp2_with fail
 obtain ⟨n, hn⟩ : ∃ n, n = w1.heap.size := ⟨_, rfl⟩
 rw [← hn]
 obtain ⟨W, hW⟩ : ∃ W, W = (((((w1.alloc (.cells #[.string X] 9)).alloc (.cells #[.slice none 0 0, .slice (some ⟨n, 0, none⟩) 1 1] 50)).alloc (.cells #[.bool false, .bool false] 4)).alloc (.cells #[.int .i64 1, .int .i64 0, .int .i64 5, .int .i64 0] 53)).alloc (.cells #[.slice (some ⟨n + 1, 0, none⟩) 2 2, .slice (some ⟨n + 1 + 1, 0, none⟩) 2 2, .slice (some ⟨n + 1 + 1 + 1, 0, none⟩) 1 1] 27)) := ⟨_, rfl⟩
 rw [← hW]
 have hre := aw_re W X n (n + 1) (n + 1 + 1) (n + 1 + 1 + 1) HSZ.out (by rw [hW, hn]; rw [aw_old _ _ _ _ (by first | (simp; done) | (simp; omega)), aw_old _ _ _ _ (by first | (simp; done) | (simp; omega)), aw_old _ _ _ _ (by first | (simp; done) | (simp; omega)), aw_old _ _ _ _ (by first | (simp; done) | (simp; omega)), aw_new _ _ _ _ _ (by simp)]; rfl) (by rw [hW, hn]; rw [aw_old _ _ _ _ (by first | (simp; done) | (simp; omega)), aw_old _ _ _ _ (by first | (simp; done) | (simp; omega)), aw_old _ _ _ _ (by first | (simp; done) | (simp; omega)), aw_new _ _ _ _ _ (by simp)]; rfl) (by rw [hW, hn]; rw [aw_old _ _ _ _ (by first | (simp; done) | (simp; omega)), aw_old _ _ _ _ (by first | (simp; done) | (simp; omega)), aw_old _ _ _ _ (by first | (simp; done) | (simp; omega)), aw_new _ _ _ _ _ (by simp)]; rfl) (by rw [hW, hn]; rw [aw_old _ _ _ _ (by first | (simp; done) | (simp; omega)), aw_old _ _ _ _ (by first | (simp; done) | (simp; omega)), aw_new _ _ _ _ _ (by simp)]; rfl) (by rw [hW, hn]; rw [aw_old _ _ _ _ (by first | (simp; done) | (simp; omega)), aw_old _ _ _ _ (by first | (simp; done) | (simp; omega)), aw_new _ _ _ _ _ (by simp)]; rfl) (by rw [hW, hn]; rw [aw_old _ _ _ _ (by first | (simp; done) | (simp; omega)), aw_new _ _ _ _ _ (by simp)]; rfl) (by rw [hW, hn]; rw [aw_old _ _ _ _ (by first | (simp; done) | (simp; omega)), aw_new _ _ _ _ _ (by simp)]; rfl) (by rw [hW, hn]; rw [aw_old _ _ _ _ (by first | (simp; done) | (simp; omega)), aw_new _ _ _ _ _ (by simp)]; rfl) (by rw [hW, hn]; rw [aw_old _ _ _ _ (by first | (simp; done) | (simp; omega)), aw_new _ _ _ _ _ (by simp)]; rfl)
 have hbW : Below w1.heap.size w1 W := by rw [hW]; exact (((((Below.refl _ _).alloc (Nat.le_refl _) _).alloc (by simp) _).alloc (by simp; omega) _).alloc (by simp; omega) _).alloc (by simp; omega) _
 obtain ⟨q, hq⟩ : ∃ q, q = n + 1 + 1 + 1 + 1 := ⟨_, rfl⟩
 rw [← hq]
 have c0 : W.cell? ⟨q, 0, none⟩ = some (.slice (some ⟨n + 1, 0, none⟩) 2 2) := by rw [hW, hq, hn]; rw [aw_new _ _ _ _ _ (by simp)]; rfl
 have c1 : W.cell? ⟨q, 1, none⟩ = some (.slice (some ⟨n + 1 + 1, 0, none⟩) 2 2) := by rw [hW, hq, hn]; rw [aw_new _ _ _ _ _ (by simp)]; rfl
 have c2 : W.cell? ⟨q, 2, none⟩ = some (.slice (some ⟨n + 1 + 1 + 1, 0, none⟩) 1 1) := by rw [hW, hq, hn]; rw [aw_new _ _ _ _ _ (by simp)]; rfl
 obtain ⟨v1, hv1⟩ : ∃ v, v = Value.slice (some ⟨n + 1, 0, none⟩) 2 2 := ⟨_, rfl⟩
 obtain ⟨v2, hv2⟩ : ∃ v, v = Value.slice (some ⟨n + 1 + 1, 0, none⟩) 2 2 := ⟨_, rfl⟩
 obtain ⟨v3, hv3⟩ : ∃ v, v = Value.slice (some ⟨n + 1 + 1 + 1, 0, none⟩) 1 1 := ⟨_, rfl⟩
 have hs1 := block_lt_of_cell c0
 have HH := Lib.hid (show HeldR W q _ _ _ W from ⟨c0, c1, c2, Below.refl _ _⟩)
 rw [← hv1, ← hv2, ← hv3] at hre HH ⊢
 rw [← hv1] at c0
 rw [← hv2] at c1
 rw [← hv3] at c2
 have HRE := Lib.hid hre
 have HB := Lib.hid (hb1.trans (hbW.mono hb1.size))
 have HQ := Lib.hid hs1
 clear hW hbW hb1 hn hq hv1 hv2 hv3 hre hs1
 refine (good_any v1 v2 v3 (awR X) 1 2 0 W HRE.out (by simp [awR]) (by simp [awR]) (by simp [awR]) (by unfold I64; decide) (by unfold I64; decide)).mono ?_
 rintro e w2 ⟨u, rfl, hO, hb2⟩
 have HH2 := Lib.hid (HH.out.below hb2 HQ.out)
 rw [HG1.out] at hO
 have hx2 := hO.intS (by simp [I64])
 obtain ⟨A2, c2', rfl⟩ := hO.form
 have HX2 := Lib.hid hx2
 clear hO hx2 hb2 c0 c1 c2
 obtain ⟨W2, hW2⟩ : ∃ x, x = w2.alloc (.cells #[.int .i64 1] 3) := ⟨_, rfl⟩
 have hl2 := aw_lit (w := W2) (g := w2.heap.size) (x := 1) (by rw [hW2]; simp) (by unfold I64; decide)
 have hk2 : Below w2.heap.size w2 W2 := by rw [hW2]; exact (Below.refl _ _).alloc (Nat.le_refl _) _
 have hx2' := HX2.out.keep (w' := W2) (fun b hb => hk2.block b hb.2)
 have HSI := Lib.hid (sameints_any _ _ _ _ _ W2 hx2' hl2)
 have HH3 := Lib.hid (HH2.out.below hk2 HQ.out)
 clear hl2 hk2 hx2'
 go_wp2_with fail
 rw [← hW2]
 clear hW2
 refine HSI.out.mono ?_
 rintro e w3 ⟨rfl, k, rfl⟩
 have HH4 := Lib.hid (HH3.out.below (Below.drewN' (Below.refl _ _) k) HQ.out)
 obtain ⟨W4, hW4⟩ : ∃ x, x = W2.drewN k := ⟨_, rfl⟩
 rw [← hW4] at HH4 ⊢
 clear hW4
 obtain ⟨d0, d1, d2, hb4⟩ := HH4.out
 have HRE4 := Lib.hid (HRE.out.below hb4)
 clear hb4
 go_wp2_with fail
 refine (Intact_any v1 v2 v3 (awR X) 1 0 false W4 HRE4.out (by simp [awR]) (by simp [awR]) (by simp [awR]) (by unfold I64; decide) (by unfold I64; decide)).mono ?_
 rintro e w5 ⟨u, rfl, hO, hb5⟩
 have HH5 := Lib.hid (HH4.out.below hb5 HQ.out)
 rw [HI1.out] at hO
 have hx5 := hO.intS (by simp [I64])
 obtain ⟨A5, c5', rfl⟩ := hO.form
 have HX5 := Lib.hid hx5
 clear hO hx5 hb5 d0 d1 d2
 obtain ⟨W5, hW5⟩ : ∃ x, x = w5.alloc (.cells #[.int .i64 2] 3) := ⟨_, rfl⟩
 have hl2 := aw_lit (w := W5) (g := w5.heap.size) (x := 2) (by rw [hW5]; simp) (by unfold I64; decide)
 have hk2 : Below w5.heap.size w5 W5 := by rw [hW5]; exact (Below.refl _ _).alloc (Nat.le_refl _) _
 have hx2' := HX5.out.keep (w' := W5) (fun b hb => hk2.block b hb.2)
 have HSI2 := Lib.hid (sameints_any _ _ _ _ _ W5 hx2' hl2)
 have HH6 := Lib.hid (HH5.out.below hk2 HQ.out)
 clear hl2 hk2 hx2'
 go_wp2_with fail
 rw [← hW5]
 clear hW5
 refine HSI2.out.mono ?_
 rintro e w6 ⟨rfl, k6, rfl⟩
 have HH7 := Lib.hid (HH6.out.below (Below.drewN' (Below.refl _ _) k6) HQ.out)
 obtain ⟨W7, hW7⟩ : ∃ x, x = W5.drewN k6 := ⟨_, rfl⟩
 rw [← hW7] at HH7 ⊢
 clear hW7
 obtain ⟨d0, d1, d2, hb7⟩ := HH7.out
 have HRE7 := Lib.hid (HRE.out.below hb7)
 clear hb7
 go_wp2_with fail
 refine (Intact_any v1 v2 v3 (awR X) 1 0 true W7 HRE7.out (by simp [awR]) (by simp [awR]) (by simp [awR]) (by unfold I64; decide) (by unfold I64; decide)).mono ?_
 rintro e w8 ⟨u, rfl, hO, hb8⟩
 have HH8 := Lib.hid (HH7.out.below hb8 HQ.out)
 rw [HI2.out] at hO
 obtain ⟨A8, c8', rfl⟩ := hO.form
 clear hO hb8 d0 d1 d2
 obtain ⟨d0, d1, d2, hb8⟩ := HH8.out
 have HRE8 := Lib.hid (HRE.out.below hb8)
 clear hb8
 go_wp2_with fail
 refine (good_any v1 v2 v3 (awR X) 1 1 0 w8 HRE8.out (by simp [awR]) (by simp [awR]) (by simp [awR]) (by unfold I64; decide) (by unfold I64; decide)).mono ?_
 rintro e w9 ⟨u, rfl, hO, hb9⟩
 rw [HG2.out] at hO
 obtain ⟨A9, c9', rfl⟩ := hO.form
 have HB9 := Lib.hid (HH8.out.bl.trans (hb9.mono HH8.out.bl.size))
 clear hO hb9 d0 d1 d2
 go_wp2_with fail
 go_ret
 exact ⟨rfl, HB.out.trans (HB9.out.mono HB.out.size)⟩
end Go.Proofs.YtmehadfhcdpfcaaGreat

namespace Go.Proofs.YtmehadfhcdpfcaaGreat
open Go.RowKit
set_option linter.unusedVariables false
set_option linter.unusedSimpArgs false
def HeldL (W0 : World) (g p q : Nat) (a b c d e f h y0 y1 y2 z0 z1 z2 : Value) (w' : World) : Prop :=
 w'.cell? ⟨g, 0, none⟩ = some a ∧ w'.cell? ⟨g, 1, none⟩ = some b ∧ w'.cell? ⟨g, 2, none⟩ = some c ∧ w'.cell? ⟨g, 3, none⟩ = some d ∧ w'.cell? ⟨g, 4, none⟩ = some e ∧ w'.cell? ⟨g, 5, none⟩ = some f ∧ w'.cell? ⟨g, 6, none⟩ = some h ∧
 w'.cell? ⟨p, 0, none⟩ = some y0 ∧ w'.cell? ⟨p, 1, none⟩ = some y1 ∧ w'.cell? ⟨p, 2, none⟩ = some y2 ∧ w'.cell? ⟨q, 0, none⟩ = some z0 ∧ w'.cell? ⟨q, 1, none⟩ = some z1 ∧ w'.cell? ⟨q, 2, none⟩ = some z2 ∧ Below W0.heap.size W0 w'
theorem HeldL.bl {W0 wc : World} {g p q : Nat} {a b c d e f h y0 y1 y2 z0 z1 z2 : Value} (k : HeldL W0 g p q a b c d e f h y0 y1 y2 z0 z1 z2 wc) : Below W0.heap.size W0 wc := k.2.2.2.2.2.2.2.2.2.2.2.2.2
theorem HeldL.below {W0 wc w2 : World} {g p q : Nat} {a b c d e f h y0 y1 y2 z0 z1 z2 : Value} (k : HeldL W0 g p q a b c d e f h y0 y1 y2 z0 z1 z2 wc) (hb : Below wc.heap.size wc w2) (hg : g < W0.heap.size) (hp : p < W0.heap.size) (hq : q < W0.heap.size) : HeldL W0 g p q a b c d e f h y0 y1 y2 z0 z1 z2 w2 := by
 have hs := k.bl.size
 have hB := k.bl
 obtain ⟨c0, c1, c2, c3, c4, c5, c6, d0, d1, d2, e0, e1, e2, -⟩ := k
 have m : ∀ b, b < W0.heap.size → ∀ i x, wc.cell? ⟨b, i, none⟩ = some x → w2.cell? ⟨b, i, none⟩ = some x := fun b h1 i x hx => (hb.cell (p := ⟨b, i, none⟩) (Nat.lt_of_lt_of_le h1 hs)).trans hx
 exact ⟨m g hg _ _ c0, m g hg _ _ c1, m g hg _ _ c2, m g hg _ _ c3, m g hg _ _ c4, m g hg _ _ c5, m g hg _ _ c6, m p hp _ _ d0, m p hp _ _ d1, m p hp _ _ d2, m q hq _ _ e0, m q hq _ _ e1, m q hq _ _ e2, hB.trans (hb.mono hs)⟩
set_option maxRecDepth 100000 in
set_option maxHeartbeats 6400000 in
theorem loses_any (HMade : ∀ (vt : Value) (xs : List Int) (w : World) (R : Nat → Prop), IntS w R vt xs → (∀ b, R b → b < w.heap.size) → Calls Tryz.prog 11 #[vt] w (MadePost w)) (vl vp vo va : Value) (xs : List Int) (raw : Re) (w : World) (hl : IntS w (Bl w.heap.size) vl xs) (hr : ReS w (Bl w.heap.size) vp vo va raw) :
  Calls Tryz.prog 3 #[vl, .agg #[vp, vo, va]] w fun e w' => e = .returned (.bool true) ∧ Below w.heap.size w w' := by
 have HLI := Lib.hid (fun w1 h1 => light_any vp vo va raw w1 h1)
 have HAW := Lib.hid (fun w1 => awake_any w1)
 have HMD := Lib.hid HMade
 obtain ⟨Al, nl, cl, rfl⟩ := hl.form3
 obtain ⟨W0, hW0⟩ : ∃ W0, W0 = w.alloc (.cells #[vp, vo, va] 27) := ⟨_, rfl⟩
 obtain ⟨q, hq⟩ : ∃ q, q = w.heap.size := ⟨_, rfl⟩
 have c0 : W0.cell? ⟨q, 0, none⟩ = some vp := by rw [hW0, hq]; simp
 have c1 : W0.cell? ⟨q, 1, none⟩ = some vo := by rw [hW0, hq]; simp
 have c2 : W0.cell? ⟨q, 2, none⟩ = some va := by rw [hW0, hq]; simp
 have hb0 : Below w.heap.size w W0 := by rw [hW0]; exact (Below.refl _ _).alloc (Nat.le_refl _) _
 have hq0 : q < W0.heap.size := by rw [hW0, hq]; simp
 have HQ0 := Lib.hid hq0
 have HQ1 := Lib.hid hq
 have HW0 := Lib.hid hW0
 have HB0 := Lib.hid hb0
 have HR0 := Lib.hid (hr.below hb0)
 have HL0 := Lib.hid ((hl.keep (kept_below hb0)).mono (Bl.mono hb0.size))
 have HQC := Lib.hid (And.intro c0 (And.intro c1 c2))
 clear hl hr hW0 hq hb0 hq0 HMade
 go_enter Tryz.func3, Tryz.ntmps3
 go_wp2_with fail
 rw [← HW0.out, ← HQ1.out]
 refine (HLI.out _ HR0.out).mono ?_
 rintro e w1 ⟨rfl, hb1⟩
 cases hlb : lightB raw with
 | false =>
  go_wp2_with fail
  refine (HAW.out _).mono ?_
  rintro e w2 ⟨rfl, hb2⟩
  have HBB := Lib.hid ((HB0.out.trans (hb1.mono HB0.out.size)).trans (hb2.mono (Nat.le_trans HB0.out.size hb1.size)))
  clear hb1 hb2 c0 c1 c2
  go_wp2_with fail
  go_ret
  exact ⟨rfl, HBB.out⟩
 | true =>
  have HLB := Lib.hid ((lightB_iff raw).1 hlb)
  clear hlb
  have HL1 := Lib.hid ((HL0.out.keep (kept_below hb1)).mono (Bl.mono hb1.size))
  have HR1 := Lib.hid (HR0.out.below hb1)
  have HB1 := Lib.hid (HB0.out.trans (hb1.mono HB0.out.size))
  have HB01 := Lib.hid hb1
  clear hb1 c0 c1 c2
  go_wp2_with fail
  refine (HMD.out _ xs w1 _ HL1.out (fun b h => h)).mono ?_
  rintro e w2 ⟨fl, fm, fd, fv, fp, fo, F, zp, zo, za, r, gM, n, f, st, rfl, hfs, hok, hre, hmo, hmp, hdo, hgM, hb2⟩
  obtain ⟨A1, c1, hf1, -⟩ := SlS.form hfs.1
  obtain ⟨A2, c2, hf2, -⟩ := SlS.form hfs.2.1
  obtain ⟨A3, c3, hf3, -⟩ := SlS.form hfs.2.2.1
  obtain ⟨A4, c4, hf4, -⟩ := SlS.form hfs.2.2.2.1
  obtain ⟨A5, c5, hf5, -⟩ := SlS.form hfs.2.2.2.2.1
  obtain ⟨A6, c6, hf6, -⟩ := SlS.form hfs.2.2.2.2.2
  obtain ⟨B1, d1, hz1, -⟩ := SlS.form hre.1
  obtain ⟨B2, d2, hz2, -⟩ := SlS.form hre.2.1
  obtain ⟨B3, d3, hz3, -⟩ := SlS.form hre.2.2
  obtain ⟨n1, hn1⟩ : ∃ n, n = F.laws.length := ⟨_, rfl⟩
  obtain ⟨n2, hn2⟩ : ∃ n, n = F.models.length := ⟨_, rfl⟩
  obtain ⟨n3, hn3⟩ : ∃ n, n = F.doms.length := ⟨_, rfl⟩
  obtain ⟨n4, hn4⟩ : ∃ n, n = F.dves.length := ⟨_, rfl⟩
  obtain ⟨n5, hn5⟩ : ∃ n, n = F.pols.length := ⟨_, rfl⟩
  obtain ⟨n6, hn6⟩ : ∃ n, n = F.vols.length := ⟨_, rfl⟩
  obtain ⟨m1, hm1⟩ : ∃ n, n = r.plat.length := ⟨_, rfl⟩
  obtain ⟨m2, hm2⟩ : ∃ n, n = r.on.length := ⟨_, rfl⟩
  obtain ⟨m3, hm3⟩ : ∃ n, n = r.acks.length := ⟨_, rfl⟩
  rw [← hn1] at hf1
  rw [← hn2] at hf2
  rw [← hn3] at hf3
  rw [← hn4] at hf4
  rw [← hn5] at hf5
  rw [← hn6] at hf6
  rw [← hm1] at hz1
  rw [← hm2] at hz2
  rw [← hm3] at hz3
  have HFS2 := Lib.hid (hfs.mono Fr.bl)
  have HOK := Lib.hid hok
  have HRE := Lib.hid (hre.mono Fr.bl)
  have HPL := Lib.hid (show r.plat.length ≤ 9 from by rw [hmo.plat]; have := hok.dveN; omega)
  have HLEN := Lib.hid hmo.len
  have hak : r.acks.length ≤ 1000000 := by
   have h1 := congrArg List.length hmo.keys
   rw [List.length_map] at h1
   have h2 := keysTo_le F.ext.toNat F.vols.length 0 (by have := hok.ext; omega) hok.volN (by omega)
   rw [hmo.acks, List.length_map]; omega
  have HAK := Lib.hid hak
  have HB2 := Lib.hid hb2
  obtain ⟨EX, hEX⟩ : ∃ e, e = F.ext := ⟨_, rfl⟩
  rw [← hEX]
  have HEX := Lib.hid hEX
  clear hfs hok hre hmo hmp hdo hgM hb2 hEX hak hn1 hn2 hn3 hn4 hn5 hn6 hm1 hm2 hm3
  rw [hf1, hf2, hf3, hf4, hf5, hf6, hz1, hz2, hz3]
  have HEF := Lib.hid (And.intro hf1 (And.intro hf2 (And.intro hf3 (And.intro hf4 (And.intro hf5 hf6)))))
  have HEZ := Lib.hid (And.intro hz1 (And.intro hz2 hz3))
  clear hf1 hf2 hf3 hf4 hf5 hf6 hz1 hz2 hz3
  go_upto_region 4 with fail
  rw [← HEF.out.1, ← HEF.out.2.1, ← HEF.out.2.2.1, ← HEF.out.2.2.2.1, ← HEF.out.2.2.2.2.1, ← HEF.out.2.2.2.2.2, ← HEZ.out.1, ← HEZ.out.2.1, ← HEZ.out.2.2]
  clear HEF HEZ
  obtain ⟨g, hg⟩ : ∃ g, g = w2.heap.size := ⟨_, rfl⟩
  obtain ⟨p, hp⟩ : ∃ p, p = w2.heap.size + 1 := ⟨_, rfl⟩
  obtain ⟨W4, hW4⟩ : ∃ x, x = ((w2.alloc (.cells #[.int .i64 EX, fl, fm, fd, fv, fp, fo] 37)).alloc (.cells #[zp, zo, za] 27)) := ⟨_, rfl⟩
  rw [← hW4, ← hp, ← hg]
  have hsz4 : W4.heap.size = w2.heap.size + 1 + 1 := by rw [hW4]; simp
  have hb4 : Below w2.heap.size w2 W4 := by rw [hW4]; exact ((Below.refl _ _).alloc (Nat.le_refl _) _).alloc (by simp) _
  have hbR : W4.heap[p]? = some (.cells #[zp, zo, za] 27 (0, 0)) := by
   rw [hW4]; exact heap_alloc_at _ _ _ (by rw [hp]; simp)
  have hbF : W4.heap[g]? = some (.cells #[.int .i64 EX, fl, fm, fd, fv, fp, fo] 37 (0, 0)) := by
   rw [hW4, hg]; exact (Below.heap_alloc _ _ _ (by simp)).trans (heap_alloc_new w2 _)
  obtain ⟨k0, k1, k2, k3, k4, k5, k6⟩ := cells7 hbF
  obtain ⟨z0, z1, z2, -⟩ := cells3 hbR
  have hb04 : Below W0.heap.size W0 W4 := HB01.out.trans ((HB2.out.trans (hb4.mono HB2.out.size)).mono HB01.out.size)
  have mq : ∀ i x, W0.cell? ⟨q, i, none⟩ = some x → W4.drew.cell? ⟨q, i, none⟩ = some x := fun i x hx => (hb04.cell (p := ⟨q, i, none⟩) HQ0.out).trans hx
  have HS4 := Lib.hid (show HeldL W4 g p q (.int .i64 EX) fl fm fd fv fp fo zp zo za vp vo va W4.drew from ⟨k0, k1, k2, k3, k4, k5, k6, z0, z1, z2, mq _ _ HQC.out.1, mq _ _ HQC.out.2.1, mq _ _ HQC.out.2.2, (Below.refl _ _).drew⟩)
  have HQ4 := Lib.hid (show g < W4.heap.size ∧ p < W4.heap.size ∧ q < W4.heap.size from ⟨by omega, by omega, Nat.lt_of_lt_of_le HQ0.out hb04.size⟩)
  have HB4 := Lib.hid (HB0.out.trans (hb04.mono HB0.out.size))
  have HFS := Lib.hid (HFS2.out.below hb4)
  have HM4 := Lib.hid (HRE.out.below hb4)
  have HR4 := Lib.hid ((HR1.out.below HB2.out).below hb4)
  have hp9 : r.plat.length ≤ 1000 := by have := HPL.out; omega
  have hr9 : raw.plat.length ≤ 1000 := by have := HLB.out.1; omega
  have hrl : ∀ l ∈ raw.plat, l.length ≤ 1000 := fun l h => by have := HLB.out.2.2.2 l h; omega
  have hra : raw.acks.length ≤ 1000000 := by have := HLB.out.2.2.1; omega
  have hEX := HEX.out
  have HP1 := Lib.hid (fun W (hb : Below W4.heap.size W4 W) => lost_any 2 (by omega) fl fm fd fv fp fo zp zo za F r W (HFS.out.below hb) HOK.out (HM4.out.below hb) hp9 HLEN.out HAK.out)
  rw [← hEX] at HP1
  have HP2 := Lib.hid (fun W (hb : Below W4.heap.size W4 W) => rlost_any 2 (by omega) fl fm fd fv fp fo zp zo za F r W (HFS.out.below hb) HOK.out (HM4.out.below hb) hp9 HLEN.out)
  rw [← hEX] at HP2
  have HP3 := Lib.hid (fun W (hb : Below W4.heap.size W4 W) => unav_any 2 (by omega) fl fm fd fv fp fo zp zo za F r W (HFS.out.below hb) HOK.out (HM4.out.below hb) hp9 HLEN.out HAK.out)
  rw [← hEX] at HP3
  have HP4 := Lib.hid (fun W (hb : Below W4.heap.size W4 W) => runav_any 2 (by omega) fl fm fd fv fp fo zp zo za F r W (HFS.out.below hb) HOK.out (HM4.out.below hb) hp9 HLEN.out)
  rw [← hEX] at HP4
  have HP5 := Lib.hid (fun W (hb : Below W4.heap.size W4 W) => lost_any 2 (by omega) fl fm fd fv fp fo vp vo va F raw W (HFS.out.below hb) HOK.out (HR4.out.below hb) hr9 hrl hra)
  rw [← hEX] at HP5
  have HP6 := Lib.hid (fun W (hb : Below W4.heap.size W4 W) => rlost_any 2 (by omega) fl fm fd fv fp fo vp vo va F raw W (HFS.out.below hb) HOK.out (HR4.out.below hb) hr9 hrl)
  rw [← hEX] at HP6
  have HP7 := Lib.hid (fun W (hb : Below W4.heap.size W4 W) => unav_any 2 (by omega) fl fm fd fv fp fo vp vo va F raw W (HFS.out.below hb) HOK.out (HR4.out.below hb) hr9 hrl hra)
  rw [← hEX] at HP7
  have HP8 := Lib.hid (fun W (hb : Below W4.heap.size W4 W) => runav_any 2 (by omega) fl fm fd fv fp fo vp vo va F raw W (HFS.out.below hb) HOK.out (HR4.out.below hb) hr9 hrl)
  rw [← hEX] at HP8
  have HP9 := Lib.hid (fun W (hb : Below W4.heap.size W4 W) => lost_empty zp zo za W)
  have HP0 := Lib.hid (fun W (hb : Below W4.heap.size W4 W) => unav_empty zp zo za W)
  clear hW4 hg hp hsz4 hb4 hbR hbF k0 k1 k2 k3 k4 k5 k6 z0 z1 z2 hb04 mq hp9 hr9 hrl hra hEX
  refine region_tail (S := (fun w' => w'.cell? ⟨g, 0, none⟩ = some (.int .i64 EX) ∧ w'.cell? ⟨g, 1, none⟩ = some fl ∧ w'.cell? ⟨g, 2, none⟩ = some fm ∧ w'.cell? ⟨g, 3, none⟩ = some fd ∧ w'.cell? ⟨g, 4, none⟩ = some fv ∧ w'.cell? ⟨g, 5, none⟩ = some fp ∧ w'.cell? ⟨g, 6, none⟩ = some fo ∧ w'.cell? ⟨p, 0, none⟩ = some zp ∧ w'.cell? ⟨p, 1, none⟩ = some zo ∧ w'.cell? ⟨p, 2, none⟩ = some za ∧ w'.cell? ⟨q, 0, none⟩ = some vp ∧ w'.cell? ⟨q, 1, none⟩ = some vo ∧ w'.cell? ⟨q, 2, none⟩ = some va ∧ Below W4.heap.size W4 w')) [] (by kernel_rfl) HS4.out (fun hHeld => ?_)
  refine readyT (rs := [0]) (by kernel_rfl) (by simp) ?_
  refine AllReadyT.cons rfl (fun K hK => ?_) ?_
  ·go_simp
   (go_at_call 10; refine (awake_any _).mono ?_; rintro e w0 ⟨rfl, hb0⟩)
   go_wp2_with fail
   refine hK.out _ _ ?_ (fun hHeld => ?_)
   ·(first | exact HeldL.below (by assumption) hb47 HQ4.out.1 HQ4.out.2.1 HQ4.out.2.2 | exact HeldL.below (by assumption) hb40 HQ4.out.1 HQ4.out.2.1 HQ4.out.2.2 | exact HeldL.below (by assumption) hb35 HQ4.out.1 HQ4.out.2.1 HQ4.out.2.2 | exact HeldL.below (by assumption) hb34 HQ4.out.1 HQ4.out.2.1 HQ4.out.2.2 | exact HeldL.below (by assumption) hb31 HQ4.out.1 HQ4.out.2.1 HQ4.out.2.2 | exact HeldL.below (by assumption) hb26 HQ4.out.1 HQ4.out.2.1 HQ4.out.2.2 | exact HeldL.below (by assumption) hb25 HQ4.out.1 HQ4.out.2.1 HQ4.out.2.2 | exact HeldL.below (by assumption) hb22 HQ4.out.1 HQ4.out.2.1 HQ4.out.2.2 | exact HeldL.below (by assumption) hb17 HQ4.out.1 HQ4.out.2.1 HQ4.out.2.2 | exact HeldL.below (by assumption) hb16 HQ4.out.1 HQ4.out.2.1 HQ4.out.2.2 | exact HeldL.below (by assumption) hb13 HQ4.out.1 HQ4.out.2.1 HQ4.out.2.2 | exact HeldL.below (by assumption) hb8 HQ4.out.1 HQ4.out.2.1 HQ4.out.2.2 | exact HeldL.below (by assumption) hb7 HQ4.out.1 HQ4.out.2.1 HQ4.out.2.2 | exact HeldL.below (by assumption) hb4 HQ4.out.1 HQ4.out.2.1 HQ4.out.2.2 | exact HeldL.below (by assumption) hb0 HQ4.out.1 HQ4.out.2.1 HQ4.out.2.2)
   clear hK K
   (try simp only [Act.put, List.setIfInBounds_toArray, List.set_cons_zero, List.set_cons_succ])
   refine tk 1 19 ?_
   refine tk 2 20 ?_
   refine tk 3 21 ?_
   refine tk 5 23 ?_
   refine tk 6 24 ?_
   refine readyT (rs := [4]) (by kernel_rfl) (by simp) ?_
   refine AllReadyT.cons rfl (fun K hK => ?_) ?_
   ·go_simp
    (go_at_call 13; refine (HP1.out _ (HeldL.bl (by assumption))).mono ?_; rintro e w4 ⟨u4, rfl, hO4, hb4⟩)
    go_wp2_with fail
    refine hK.out _ _ ?_ (fun hHeld => ?_)
    ·(first | exact HeldL.below (by assumption) hb47 HQ4.out.1 HQ4.out.2.1 HQ4.out.2.2 | exact HeldL.below (by assumption) hb40 HQ4.out.1 HQ4.out.2.1 HQ4.out.2.2 | exact HeldL.below (by assumption) hb35 HQ4.out.1 HQ4.out.2.1 HQ4.out.2.2 | exact HeldL.below (by assumption) hb34 HQ4.out.1 HQ4.out.2.1 HQ4.out.2.2 | exact HeldL.below (by assumption) hb31 HQ4.out.1 HQ4.out.2.1 HQ4.out.2.2 | exact HeldL.below (by assumption) hb26 HQ4.out.1 HQ4.out.2.1 HQ4.out.2.2 | exact HeldL.below (by assumption) hb25 HQ4.out.1 HQ4.out.2.1 HQ4.out.2.2 | exact HeldL.below (by assumption) hb22 HQ4.out.1 HQ4.out.2.1 HQ4.out.2.2 | exact HeldL.below (by assumption) hb17 HQ4.out.1 HQ4.out.2.1 HQ4.out.2.2 | exact HeldL.below (by assumption) hb16 HQ4.out.1 HQ4.out.2.1 HQ4.out.2.2 | exact HeldL.below (by assumption) hb13 HQ4.out.1 HQ4.out.2.1 HQ4.out.2.2 | exact HeldL.below (by assumption) hb8 HQ4.out.1 HQ4.out.2.1 HQ4.out.2.2 | exact HeldL.below (by assumption) hb7 HQ4.out.1 HQ4.out.2.1 HQ4.out.2.2 | exact HeldL.below (by assumption) hb4 HQ4.out.1 HQ4.out.2.1 HQ4.out.2.2 | exact HeldL.below (by assumption) hb0 HQ4.out.1 HQ4.out.2.1 HQ4.out.2.2)
    clear hK K
    (try simp only [Act.put, List.setIfInBounds_toArray, List.set_cons_zero, List.set_cons_succ])
    refine readyT (rs := [7]) (by kernel_rfl) (by simp) ?_
    refine AllReadyT.cons rfl (fun K hK => ?_) ?_
    ·go_simp
     (go_at_call 14; refine (HP2.out _ (HeldL.bl (by assumption))).mono ?_; rintro e w7 ⟨u7, rfl, hO7, hb7⟩)
     go_wp2_with fail
     refine hK.out _ _ ?_ (fun hHeld => ?_)
     ·(first | exact HeldL.below (by assumption) hb47 HQ4.out.1 HQ4.out.2.1 HQ4.out.2.2 | exact HeldL.below (by assumption) hb40 HQ4.out.1 HQ4.out.2.1 HQ4.out.2.2 | exact HeldL.below (by assumption) hb35 HQ4.out.1 HQ4.out.2.1 HQ4.out.2.2 | exact HeldL.below (by assumption) hb34 HQ4.out.1 HQ4.out.2.1 HQ4.out.2.2 | exact HeldL.below (by assumption) hb31 HQ4.out.1 HQ4.out.2.1 HQ4.out.2.2 | exact HeldL.below (by assumption) hb26 HQ4.out.1 HQ4.out.2.1 HQ4.out.2.2 | exact HeldL.below (by assumption) hb25 HQ4.out.1 HQ4.out.2.1 HQ4.out.2.2 | exact HeldL.below (by assumption) hb22 HQ4.out.1 HQ4.out.2.1 HQ4.out.2.2 | exact HeldL.below (by assumption) hb17 HQ4.out.1 HQ4.out.2.1 HQ4.out.2.2 | exact HeldL.below (by assumption) hb16 HQ4.out.1 HQ4.out.2.1 HQ4.out.2.2 | exact HeldL.below (by assumption) hb13 HQ4.out.1 HQ4.out.2.1 HQ4.out.2.2 | exact HeldL.below (by assumption) hb8 HQ4.out.1 HQ4.out.2.1 HQ4.out.2.2 | exact HeldL.below (by assumption) hb7 HQ4.out.1 HQ4.out.2.1 HQ4.out.2.2 | exact HeldL.below (by assumption) hb4 HQ4.out.1 HQ4.out.2.1 HQ4.out.2.2 | exact HeldL.below (by assumption) hb0 HQ4.out.1 HQ4.out.2.1 HQ4.out.2.2)
     clear hK K
     (try simp only [Act.put, List.setIfInBounds_toArray, List.set_cons_zero, List.set_cons_succ])
     refine readyT (rs := [8]) (by kernel_rfl) (by simp) ?_
     refine AllReadyT.cons rfl (fun K hK => ?_) ?_
     ·have hx := (hO4.below hb7).slS
      have hy := hO7.slS
      go_simp
      (go_at_call 12; refine (samekeys_any _ _ _ _ _ _ hx hy).mono ?_; rintro e w8 ⟨rfl, k8, rfl⟩)
      go_wp2_with fail
      have hb8 := Below.drewN' (Below.refl w7.heap.size w7) k8
      clear hx hy
      refine hK.out _ _ ?_ (fun hHeld => ?_)
      ·(first | exact HeldL.below (by assumption) hb47 HQ4.out.1 HQ4.out.2.1 HQ4.out.2.2 | exact HeldL.below (by assumption) hb40 HQ4.out.1 HQ4.out.2.1 HQ4.out.2.2 | exact HeldL.below (by assumption) hb35 HQ4.out.1 HQ4.out.2.1 HQ4.out.2.2 | exact HeldL.below (by assumption) hb34 HQ4.out.1 HQ4.out.2.1 HQ4.out.2.2 | exact HeldL.below (by assumption) hb31 HQ4.out.1 HQ4.out.2.1 HQ4.out.2.2 | exact HeldL.below (by assumption) hb26 HQ4.out.1 HQ4.out.2.1 HQ4.out.2.2 | exact HeldL.below (by assumption) hb25 HQ4.out.1 HQ4.out.2.1 HQ4.out.2.2 | exact HeldL.below (by assumption) hb22 HQ4.out.1 HQ4.out.2.1 HQ4.out.2.2 | exact HeldL.below (by assumption) hb17 HQ4.out.1 HQ4.out.2.1 HQ4.out.2.2 | exact HeldL.below (by assumption) hb16 HQ4.out.1 HQ4.out.2.1 HQ4.out.2.2 | exact HeldL.below (by assumption) hb13 HQ4.out.1 HQ4.out.2.1 HQ4.out.2.2 | exact HeldL.below (by assumption) hb8 HQ4.out.1 HQ4.out.2.1 HQ4.out.2.2 | exact HeldL.below (by assumption) hb7 HQ4.out.1 HQ4.out.2.1 HQ4.out.2.2 | exact HeldL.below (by assumption) hb4 HQ4.out.1 HQ4.out.2.1 HQ4.out.2.2 | exact HeldL.below (by assumption) hb0 HQ4.out.1 HQ4.out.2.1 HQ4.out.2.2)
      clear hK K
      (try simp only [Act.put, List.setIfInBounds_toArray, List.set_cons_zero, List.set_cons_succ])
      refine tk 9 27 ?_
      refine tk 10 28 ?_
      refine tk 11 29 ?_
      refine tk 12 30 ?_
      refine tk 14 32 ?_
      refine tk 15 33 ?_
      refine readyT (rs := [13]) (by kernel_rfl) (by simp) ?_
      refine AllReadyT.cons rfl (fun K hK => ?_) ?_
      ·go_simp
       (go_at_call 15; refine (HP3.out _ (HeldL.bl (by assumption))).mono ?_; rintro e w13 ⟨u13, rfl, hO13, hb13⟩)
       go_wp2_with fail
       refine hK.out _ _ ?_ (fun hHeld => ?_)
       ·(first | exact HeldL.below (by assumption) hb47 HQ4.out.1 HQ4.out.2.1 HQ4.out.2.2 | exact HeldL.below (by assumption) hb40 HQ4.out.1 HQ4.out.2.1 HQ4.out.2.2 | exact HeldL.below (by assumption) hb35 HQ4.out.1 HQ4.out.2.1 HQ4.out.2.2 | exact HeldL.below (by assumption) hb34 HQ4.out.1 HQ4.out.2.1 HQ4.out.2.2 | exact HeldL.below (by assumption) hb31 HQ4.out.1 HQ4.out.2.1 HQ4.out.2.2 | exact HeldL.below (by assumption) hb26 HQ4.out.1 HQ4.out.2.1 HQ4.out.2.2 | exact HeldL.below (by assumption) hb25 HQ4.out.1 HQ4.out.2.1 HQ4.out.2.2 | exact HeldL.below (by assumption) hb22 HQ4.out.1 HQ4.out.2.1 HQ4.out.2.2 | exact HeldL.below (by assumption) hb17 HQ4.out.1 HQ4.out.2.1 HQ4.out.2.2 | exact HeldL.below (by assumption) hb16 HQ4.out.1 HQ4.out.2.1 HQ4.out.2.2 | exact HeldL.below (by assumption) hb13 HQ4.out.1 HQ4.out.2.1 HQ4.out.2.2 | exact HeldL.below (by assumption) hb8 HQ4.out.1 HQ4.out.2.1 HQ4.out.2.2 | exact HeldL.below (by assumption) hb7 HQ4.out.1 HQ4.out.2.1 HQ4.out.2.2 | exact HeldL.below (by assumption) hb4 HQ4.out.1 HQ4.out.2.1 HQ4.out.2.2 | exact HeldL.below (by assumption) hb0 HQ4.out.1 HQ4.out.2.1 HQ4.out.2.2)
       clear hK K
       (try simp only [Act.put, List.setIfInBounds_toArray, List.set_cons_zero, List.set_cons_succ])
       refine readyT (rs := [16]) (by kernel_rfl) (by simp) ?_
       refine AllReadyT.cons rfl (fun K hK => ?_) ?_
       ·go_simp
        (go_at_call 16; refine (HP4.out _ (HeldL.bl (by assumption))).mono ?_; rintro e w16 ⟨u16, rfl, hO16, hb16⟩)
        go_wp2_with fail
        refine hK.out _ _ ?_ (fun hHeld => ?_)
        ·(first | exact HeldL.below (by assumption) hb47 HQ4.out.1 HQ4.out.2.1 HQ4.out.2.2 | exact HeldL.below (by assumption) hb40 HQ4.out.1 HQ4.out.2.1 HQ4.out.2.2 | exact HeldL.below (by assumption) hb35 HQ4.out.1 HQ4.out.2.1 HQ4.out.2.2 | exact HeldL.below (by assumption) hb34 HQ4.out.1 HQ4.out.2.1 HQ4.out.2.2 | exact HeldL.below (by assumption) hb31 HQ4.out.1 HQ4.out.2.1 HQ4.out.2.2 | exact HeldL.below (by assumption) hb26 HQ4.out.1 HQ4.out.2.1 HQ4.out.2.2 | exact HeldL.below (by assumption) hb25 HQ4.out.1 HQ4.out.2.1 HQ4.out.2.2 | exact HeldL.below (by assumption) hb22 HQ4.out.1 HQ4.out.2.1 HQ4.out.2.2 | exact HeldL.below (by assumption) hb17 HQ4.out.1 HQ4.out.2.1 HQ4.out.2.2 | exact HeldL.below (by assumption) hb16 HQ4.out.1 HQ4.out.2.1 HQ4.out.2.2 | exact HeldL.below (by assumption) hb13 HQ4.out.1 HQ4.out.2.1 HQ4.out.2.2 | exact HeldL.below (by assumption) hb8 HQ4.out.1 HQ4.out.2.1 HQ4.out.2.2 | exact HeldL.below (by assumption) hb7 HQ4.out.1 HQ4.out.2.1 HQ4.out.2.2 | exact HeldL.below (by assumption) hb4 HQ4.out.1 HQ4.out.2.1 HQ4.out.2.2 | exact HeldL.below (by assumption) hb0 HQ4.out.1 HQ4.out.2.1 HQ4.out.2.2)
        clear hK K
        (try simp only [Act.put, List.setIfInBounds_toArray, List.set_cons_zero, List.set_cons_succ])
        refine readyT (rs := [17]) (by kernel_rfl) (by simp) ?_
        refine AllReadyT.cons rfl (fun K hK => ?_) ?_
        ·have hx := (hO13.below hb16).slS
         have hy := hO16.slS
         go_simp
         (go_at_call 12; refine (samekeys_any _ _ _ _ _ _ hx hy).mono ?_; rintro e w17 ⟨rfl, k17, rfl⟩)
         go_wp2_with fail
         have hb17 := Below.drewN' (Below.refl w16.heap.size w16) k17
         clear hx hy
         refine hK.out _ _ ?_ (fun hHeld => ?_)
         ·(first | exact HeldL.below (by assumption) hb47 HQ4.out.1 HQ4.out.2.1 HQ4.out.2.2 | exact HeldL.below (by assumption) hb40 HQ4.out.1 HQ4.out.2.1 HQ4.out.2.2 | exact HeldL.below (by assumption) hb35 HQ4.out.1 HQ4.out.2.1 HQ4.out.2.2 | exact HeldL.below (by assumption) hb34 HQ4.out.1 HQ4.out.2.1 HQ4.out.2.2 | exact HeldL.below (by assumption) hb31 HQ4.out.1 HQ4.out.2.1 HQ4.out.2.2 | exact HeldL.below (by assumption) hb26 HQ4.out.1 HQ4.out.2.1 HQ4.out.2.2 | exact HeldL.below (by assumption) hb25 HQ4.out.1 HQ4.out.2.1 HQ4.out.2.2 | exact HeldL.below (by assumption) hb22 HQ4.out.1 HQ4.out.2.1 HQ4.out.2.2 | exact HeldL.below (by assumption) hb17 HQ4.out.1 HQ4.out.2.1 HQ4.out.2.2 | exact HeldL.below (by assumption) hb16 HQ4.out.1 HQ4.out.2.1 HQ4.out.2.2 | exact HeldL.below (by assumption) hb13 HQ4.out.1 HQ4.out.2.1 HQ4.out.2.2 | exact HeldL.below (by assumption) hb8 HQ4.out.1 HQ4.out.2.1 HQ4.out.2.2 | exact HeldL.below (by assumption) hb7 HQ4.out.1 HQ4.out.2.1 HQ4.out.2.2 | exact HeldL.below (by assumption) hb4 HQ4.out.1 HQ4.out.2.1 HQ4.out.2.2 | exact HeldL.below (by assumption) hb0 HQ4.out.1 HQ4.out.2.1 HQ4.out.2.2)
         clear hK K
         (try simp only [Act.put, List.setIfInBounds_toArray, List.set_cons_zero, List.set_cons_succ])
         refine tk 18 36 ?_
         refine tk 19 37 ?_
         refine tk 20 38 ?_
         refine tk 21 39 ?_
         refine tk 23 41 ?_
         refine tk 24 42 ?_
         refine readyT (rs := [22]) (by kernel_rfl) (by simp) ?_
         refine AllReadyT.cons rfl (fun K hK => ?_) ?_
         ·go_simp
          (go_at_call 13; refine (HP5.out _ (HeldL.bl (by assumption))).mono ?_; rintro e w22 ⟨u22, rfl, hO22, hb22⟩)
          go_wp2_with fail
          refine hK.out _ _ ?_ (fun hHeld => ?_)
          ·(first | exact HeldL.below (by assumption) hb47 HQ4.out.1 HQ4.out.2.1 HQ4.out.2.2 | exact HeldL.below (by assumption) hb40 HQ4.out.1 HQ4.out.2.1 HQ4.out.2.2 | exact HeldL.below (by assumption) hb35 HQ4.out.1 HQ4.out.2.1 HQ4.out.2.2 | exact HeldL.below (by assumption) hb34 HQ4.out.1 HQ4.out.2.1 HQ4.out.2.2 | exact HeldL.below (by assumption) hb31 HQ4.out.1 HQ4.out.2.1 HQ4.out.2.2 | exact HeldL.below (by assumption) hb26 HQ4.out.1 HQ4.out.2.1 HQ4.out.2.2 | exact HeldL.below (by assumption) hb25 HQ4.out.1 HQ4.out.2.1 HQ4.out.2.2 | exact HeldL.below (by assumption) hb22 HQ4.out.1 HQ4.out.2.1 HQ4.out.2.2 | exact HeldL.below (by assumption) hb17 HQ4.out.1 HQ4.out.2.1 HQ4.out.2.2 | exact HeldL.below (by assumption) hb16 HQ4.out.1 HQ4.out.2.1 HQ4.out.2.2 | exact HeldL.below (by assumption) hb13 HQ4.out.1 HQ4.out.2.1 HQ4.out.2.2 | exact HeldL.below (by assumption) hb8 HQ4.out.1 HQ4.out.2.1 HQ4.out.2.2 | exact HeldL.below (by assumption) hb7 HQ4.out.1 HQ4.out.2.1 HQ4.out.2.2 | exact HeldL.below (by assumption) hb4 HQ4.out.1 HQ4.out.2.1 HQ4.out.2.2 | exact HeldL.below (by assumption) hb0 HQ4.out.1 HQ4.out.2.1 HQ4.out.2.2)
          clear hK K
          (try simp only [Act.put, List.setIfInBounds_toArray, List.set_cons_zero, List.set_cons_succ])
          refine readyT (rs := [25]) (by kernel_rfl) (by simp) ?_
          refine AllReadyT.cons rfl (fun K hK => ?_) ?_
          ·go_simp
           (go_at_call 14; refine (HP6.out _ (HeldL.bl (by assumption))).mono ?_; rintro e w25 ⟨u25, rfl, hO25, hb25⟩)
           go_wp2_with fail
           refine hK.out _ _ ?_ (fun hHeld => ?_)
           ·(first | exact HeldL.below (by assumption) hb47 HQ4.out.1 HQ4.out.2.1 HQ4.out.2.2 | exact HeldL.below (by assumption) hb40 HQ4.out.1 HQ4.out.2.1 HQ4.out.2.2 | exact HeldL.below (by assumption) hb35 HQ4.out.1 HQ4.out.2.1 HQ4.out.2.2 | exact HeldL.below (by assumption) hb34 HQ4.out.1 HQ4.out.2.1 HQ4.out.2.2 | exact HeldL.below (by assumption) hb31 HQ4.out.1 HQ4.out.2.1 HQ4.out.2.2 | exact HeldL.below (by assumption) hb26 HQ4.out.1 HQ4.out.2.1 HQ4.out.2.2 | exact HeldL.below (by assumption) hb25 HQ4.out.1 HQ4.out.2.1 HQ4.out.2.2 | exact HeldL.below (by assumption) hb22 HQ4.out.1 HQ4.out.2.1 HQ4.out.2.2 | exact HeldL.below (by assumption) hb17 HQ4.out.1 HQ4.out.2.1 HQ4.out.2.2 | exact HeldL.below (by assumption) hb16 HQ4.out.1 HQ4.out.2.1 HQ4.out.2.2 | exact HeldL.below (by assumption) hb13 HQ4.out.1 HQ4.out.2.1 HQ4.out.2.2 | exact HeldL.below (by assumption) hb8 HQ4.out.1 HQ4.out.2.1 HQ4.out.2.2 | exact HeldL.below (by assumption) hb7 HQ4.out.1 HQ4.out.2.1 HQ4.out.2.2 | exact HeldL.below (by assumption) hb4 HQ4.out.1 HQ4.out.2.1 HQ4.out.2.2 | exact HeldL.below (by assumption) hb0 HQ4.out.1 HQ4.out.2.1 HQ4.out.2.2)
           clear hK K
           (try simp only [Act.put, List.setIfInBounds_toArray, List.set_cons_zero, List.set_cons_succ])
           refine readyT (rs := [26]) (by kernel_rfl) (by simp) ?_
           refine AllReadyT.cons rfl (fun K hK => ?_) ?_
           ·have hx := (hO22.below hb25).slS
            have hy := hO25.slS
            go_simp
            (go_at_call 12; refine (samekeys_any _ _ _ _ _ _ hx hy).mono ?_; rintro e w26 ⟨rfl, k26, rfl⟩)
            go_wp2_with fail
            have hb26 := Below.drewN' (Below.refl w25.heap.size w25) k26
            clear hx hy
            refine hK.out _ _ ?_ (fun hHeld => ?_)
            ·(first | exact HeldL.below (by assumption) hb47 HQ4.out.1 HQ4.out.2.1 HQ4.out.2.2 | exact HeldL.below (by assumption) hb40 HQ4.out.1 HQ4.out.2.1 HQ4.out.2.2 | exact HeldL.below (by assumption) hb35 HQ4.out.1 HQ4.out.2.1 HQ4.out.2.2 | exact HeldL.below (by assumption) hb34 HQ4.out.1 HQ4.out.2.1 HQ4.out.2.2 | exact HeldL.below (by assumption) hb31 HQ4.out.1 HQ4.out.2.1 HQ4.out.2.2 | exact HeldL.below (by assumption) hb26 HQ4.out.1 HQ4.out.2.1 HQ4.out.2.2 | exact HeldL.below (by assumption) hb25 HQ4.out.1 HQ4.out.2.1 HQ4.out.2.2 | exact HeldL.below (by assumption) hb22 HQ4.out.1 HQ4.out.2.1 HQ4.out.2.2 | exact HeldL.below (by assumption) hb17 HQ4.out.1 HQ4.out.2.1 HQ4.out.2.2 | exact HeldL.below (by assumption) hb16 HQ4.out.1 HQ4.out.2.1 HQ4.out.2.2 | exact HeldL.below (by assumption) hb13 HQ4.out.1 HQ4.out.2.1 HQ4.out.2.2 | exact HeldL.below (by assumption) hb8 HQ4.out.1 HQ4.out.2.1 HQ4.out.2.2 | exact HeldL.below (by assumption) hb7 HQ4.out.1 HQ4.out.2.1 HQ4.out.2.2 | exact HeldL.below (by assumption) hb4 HQ4.out.1 HQ4.out.2.1 HQ4.out.2.2 | exact HeldL.below (by assumption) hb0 HQ4.out.1 HQ4.out.2.1 HQ4.out.2.2)
            clear hK K
            (try simp only [Act.put, List.setIfInBounds_toArray, List.set_cons_zero, List.set_cons_succ])
            refine tk 27 45 ?_
            refine tk 28 46 ?_
            refine tk 29 47 ?_
            refine tk 30 48 ?_
            refine tk 32 50 ?_
            refine tk 33 51 ?_
            refine readyT (rs := [31]) (by kernel_rfl) (by simp) ?_
            refine AllReadyT.cons rfl (fun K hK => ?_) ?_
            ·go_simp
             (go_at_call 15; refine (HP7.out _ (HeldL.bl (by assumption))).mono ?_; rintro e w31 ⟨u31, rfl, hO31, hb31⟩)
             go_wp2_with fail
             refine hK.out _ _ ?_ (fun hHeld => ?_)
             ·(first | exact HeldL.below (by assumption) hb47 HQ4.out.1 HQ4.out.2.1 HQ4.out.2.2 | exact HeldL.below (by assumption) hb40 HQ4.out.1 HQ4.out.2.1 HQ4.out.2.2 | exact HeldL.below (by assumption) hb35 HQ4.out.1 HQ4.out.2.1 HQ4.out.2.2 | exact HeldL.below (by assumption) hb34 HQ4.out.1 HQ4.out.2.1 HQ4.out.2.2 | exact HeldL.below (by assumption) hb31 HQ4.out.1 HQ4.out.2.1 HQ4.out.2.2 | exact HeldL.below (by assumption) hb26 HQ4.out.1 HQ4.out.2.1 HQ4.out.2.2 | exact HeldL.below (by assumption) hb25 HQ4.out.1 HQ4.out.2.1 HQ4.out.2.2 | exact HeldL.below (by assumption) hb22 HQ4.out.1 HQ4.out.2.1 HQ4.out.2.2 | exact HeldL.below (by assumption) hb17 HQ4.out.1 HQ4.out.2.1 HQ4.out.2.2 | exact HeldL.below (by assumption) hb16 HQ4.out.1 HQ4.out.2.1 HQ4.out.2.2 | exact HeldL.below (by assumption) hb13 HQ4.out.1 HQ4.out.2.1 HQ4.out.2.2 | exact HeldL.below (by assumption) hb8 HQ4.out.1 HQ4.out.2.1 HQ4.out.2.2 | exact HeldL.below (by assumption) hb7 HQ4.out.1 HQ4.out.2.1 HQ4.out.2.2 | exact HeldL.below (by assumption) hb4 HQ4.out.1 HQ4.out.2.1 HQ4.out.2.2 | exact HeldL.below (by assumption) hb0 HQ4.out.1 HQ4.out.2.1 HQ4.out.2.2)
             clear hK K
             (try simp only [Act.put, List.setIfInBounds_toArray, List.set_cons_zero, List.set_cons_succ])
             refine readyT (rs := [34]) (by kernel_rfl) (by simp) ?_
             refine AllReadyT.cons rfl (fun K hK => ?_) ?_
             ·go_simp
              (go_at_call 16; refine (HP8.out _ (HeldL.bl (by assumption))).mono ?_; rintro e w34 ⟨u34, rfl, hO34, hb34⟩)
              go_wp2_with fail
              refine hK.out _ _ ?_ (fun hHeld => ?_)
              ·(first | exact HeldL.below (by assumption) hb47 HQ4.out.1 HQ4.out.2.1 HQ4.out.2.2 | exact HeldL.below (by assumption) hb40 HQ4.out.1 HQ4.out.2.1 HQ4.out.2.2 | exact HeldL.below (by assumption) hb35 HQ4.out.1 HQ4.out.2.1 HQ4.out.2.2 | exact HeldL.below (by assumption) hb34 HQ4.out.1 HQ4.out.2.1 HQ4.out.2.2 | exact HeldL.below (by assumption) hb31 HQ4.out.1 HQ4.out.2.1 HQ4.out.2.2 | exact HeldL.below (by assumption) hb26 HQ4.out.1 HQ4.out.2.1 HQ4.out.2.2 | exact HeldL.below (by assumption) hb25 HQ4.out.1 HQ4.out.2.1 HQ4.out.2.2 | exact HeldL.below (by assumption) hb22 HQ4.out.1 HQ4.out.2.1 HQ4.out.2.2 | exact HeldL.below (by assumption) hb17 HQ4.out.1 HQ4.out.2.1 HQ4.out.2.2 | exact HeldL.below (by assumption) hb16 HQ4.out.1 HQ4.out.2.1 HQ4.out.2.2 | exact HeldL.below (by assumption) hb13 HQ4.out.1 HQ4.out.2.1 HQ4.out.2.2 | exact HeldL.below (by assumption) hb8 HQ4.out.1 HQ4.out.2.1 HQ4.out.2.2 | exact HeldL.below (by assumption) hb7 HQ4.out.1 HQ4.out.2.1 HQ4.out.2.2 | exact HeldL.below (by assumption) hb4 HQ4.out.1 HQ4.out.2.1 HQ4.out.2.2 | exact HeldL.below (by assumption) hb0 HQ4.out.1 HQ4.out.2.1 HQ4.out.2.2)
              clear hK K
              (try simp only [Act.put, List.setIfInBounds_toArray, List.set_cons_zero, List.set_cons_succ])
              refine readyT (rs := [35]) (by kernel_rfl) (by simp) ?_
              refine AllReadyT.cons rfl (fun K hK => ?_) ?_
              ·have hx := (hO31.below hb34).slS
               have hy := hO34.slS
               go_simp
               (go_at_call 12; refine (samekeys_any _ _ _ _ _ _ hx hy).mono ?_; rintro e w35 ⟨rfl, k35, rfl⟩)
               go_wp2_with fail
               have hb35 := Below.drewN' (Below.refl w34.heap.size w34) k35
               clear hx hy
               refine hK.out _ _ ?_ (fun hHeld => ?_)
               ·(first | exact HeldL.below (by assumption) hb47 HQ4.out.1 HQ4.out.2.1 HQ4.out.2.2 | exact HeldL.below (by assumption) hb40 HQ4.out.1 HQ4.out.2.1 HQ4.out.2.2 | exact HeldL.below (by assumption) hb35 HQ4.out.1 HQ4.out.2.1 HQ4.out.2.2 | exact HeldL.below (by assumption) hb34 HQ4.out.1 HQ4.out.2.1 HQ4.out.2.2 | exact HeldL.below (by assumption) hb31 HQ4.out.1 HQ4.out.2.1 HQ4.out.2.2 | exact HeldL.below (by assumption) hb26 HQ4.out.1 HQ4.out.2.1 HQ4.out.2.2 | exact HeldL.below (by assumption) hb25 HQ4.out.1 HQ4.out.2.1 HQ4.out.2.2 | exact HeldL.below (by assumption) hb22 HQ4.out.1 HQ4.out.2.1 HQ4.out.2.2 | exact HeldL.below (by assumption) hb17 HQ4.out.1 HQ4.out.2.1 HQ4.out.2.2 | exact HeldL.below (by assumption) hb16 HQ4.out.1 HQ4.out.2.1 HQ4.out.2.2 | exact HeldL.below (by assumption) hb13 HQ4.out.1 HQ4.out.2.1 HQ4.out.2.2 | exact HeldL.below (by assumption) hb8 HQ4.out.1 HQ4.out.2.1 HQ4.out.2.2 | exact HeldL.below (by assumption) hb7 HQ4.out.1 HQ4.out.2.1 HQ4.out.2.2 | exact HeldL.below (by assumption) hb4 HQ4.out.1 HQ4.out.2.1 HQ4.out.2.2 | exact HeldL.below (by assumption) hb0 HQ4.out.1 HQ4.out.2.1 HQ4.out.2.2)
               clear hK K
               (try simp only [Act.put, List.setIfInBounds_toArray, List.set_cons_zero, List.set_cons_succ])
               refine tk 36 54 ?_
               refine tk 37 55 ?_
               refine tk 38 56 ?_
               refine tk 39 57 ?_
               refine readyT (rs := [40]) (by kernel_rfl) (by simp) ?_
               refine AllReadyT.cons rfl (fun K hK => ?_) ?_
               ·go_simp
                (go_at_call 13; refine (HP9.out _ (HeldL.bl (by assumption))).mono ?_; rintro e w40 ⟨rfl, hb40⟩)
                go_wp2_with fail
                refine hK.out _ _ ?_ (fun hHeld => ?_)
                ·(first | exact HeldL.below (by assumption) hb47 HQ4.out.1 HQ4.out.2.1 HQ4.out.2.2 | exact HeldL.below (by assumption) hb40 HQ4.out.1 HQ4.out.2.1 HQ4.out.2.2 | exact HeldL.below (by assumption) hb35 HQ4.out.1 HQ4.out.2.1 HQ4.out.2.2 | exact HeldL.below (by assumption) hb34 HQ4.out.1 HQ4.out.2.1 HQ4.out.2.2 | exact HeldL.below (by assumption) hb31 HQ4.out.1 HQ4.out.2.1 HQ4.out.2.2 | exact HeldL.below (by assumption) hb26 HQ4.out.1 HQ4.out.2.1 HQ4.out.2.2 | exact HeldL.below (by assumption) hb25 HQ4.out.1 HQ4.out.2.1 HQ4.out.2.2 | exact HeldL.below (by assumption) hb22 HQ4.out.1 HQ4.out.2.1 HQ4.out.2.2 | exact HeldL.below (by assumption) hb17 HQ4.out.1 HQ4.out.2.1 HQ4.out.2.2 | exact HeldL.below (by assumption) hb16 HQ4.out.1 HQ4.out.2.1 HQ4.out.2.2 | exact HeldL.below (by assumption) hb13 HQ4.out.1 HQ4.out.2.1 HQ4.out.2.2 | exact HeldL.below (by assumption) hb8 HQ4.out.1 HQ4.out.2.1 HQ4.out.2.2 | exact HeldL.below (by assumption) hb7 HQ4.out.1 HQ4.out.2.1 HQ4.out.2.2 | exact HeldL.below (by assumption) hb4 HQ4.out.1 HQ4.out.2.1 HQ4.out.2.2 | exact HeldL.below (by assumption) hb0 HQ4.out.1 HQ4.out.2.1 HQ4.out.2.2)
                clear hK K
                (try simp only [Act.put, List.setIfInBounds_toArray, List.set_cons_zero, List.set_cons_succ])
                refine tk 41 59 ?_
                refine tk 42 60 ?_
                refine tk 43 61 ?_
                refine tk 44 62 ?_
                refine tk 45 63 ?_
                refine tk 46 64 ?_
                refine readyT (rs := [47]) (by kernel_rfl) (by simp) ?_
                refine AllReadyT.cons rfl (fun K hK => ?_) ?_
                ·go_simp
                 (go_at_call 15; refine (HP0.out _ (HeldL.bl (by assumption))).mono ?_; rintro e w47 ⟨rfl, hb47⟩)
                 go_wp2_with fail
                 refine hK.out _ _ ?_ (fun hHeld => ?_)
                 ·(first | exact HeldL.below (by assumption) hb47 HQ4.out.1 HQ4.out.2.1 HQ4.out.2.2 | exact HeldL.below (by assumption) hb40 HQ4.out.1 HQ4.out.2.1 HQ4.out.2.2 | exact HeldL.below (by assumption) hb35 HQ4.out.1 HQ4.out.2.1 HQ4.out.2.2 | exact HeldL.below (by assumption) hb34 HQ4.out.1 HQ4.out.2.1 HQ4.out.2.2 | exact HeldL.below (by assumption) hb31 HQ4.out.1 HQ4.out.2.1 HQ4.out.2.2 | exact HeldL.below (by assumption) hb26 HQ4.out.1 HQ4.out.2.1 HQ4.out.2.2 | exact HeldL.below (by assumption) hb25 HQ4.out.1 HQ4.out.2.1 HQ4.out.2.2 | exact HeldL.below (by assumption) hb22 HQ4.out.1 HQ4.out.2.1 HQ4.out.2.2 | exact HeldL.below (by assumption) hb17 HQ4.out.1 HQ4.out.2.1 HQ4.out.2.2 | exact HeldL.below (by assumption) hb16 HQ4.out.1 HQ4.out.2.1 HQ4.out.2.2 | exact HeldL.below (by assumption) hb13 HQ4.out.1 HQ4.out.2.1 HQ4.out.2.2 | exact HeldL.below (by assumption) hb8 HQ4.out.1 HQ4.out.2.1 HQ4.out.2.2 | exact HeldL.below (by assumption) hb7 HQ4.out.1 HQ4.out.2.1 HQ4.out.2.2 | exact HeldL.below (by assumption) hb4 HQ4.out.1 HQ4.out.2.1 HQ4.out.2.2 | exact HeldL.below (by assumption) hb0 HQ4.out.1 HQ4.out.2.1 HQ4.out.2.2)
                 clear hK K
                 (try simp only [Act.put, List.setIfInBounds_toArray, List.set_cons_zero, List.set_cons_succ])
                 refine tk 48 66 ?_
                 refine tk 49 67 ?_
                 refine tk 50 68 ?_
                 refine tk 51 4 ?_
                 refine doneT (by kernel_rfl) ?_ _
                 have hbz := HeldL.bl hHeld
                 go_wp2_with fail
                 go_ret
                 exact ⟨rfl, HB4.out.trans (hbz.mono HB4.out.size)⟩
                exact AllReadyT.nil
               exact AllReadyT.nil
              exact AllReadyT.nil
             exact AllReadyT.nil
            exact AllReadyT.nil
           exact AllReadyT.nil
          exact AllReadyT.nil
         exact AllReadyT.nil
        exact AllReadyT.nil
       exact AllReadyT.nil
      exact AllReadyT.nil
     exact AllReadyT.nil
    exact AllReadyT.nil
   exact AllReadyT.nil
  exact AllReadyT.nil
end Go.Proofs.YtmehadfhcdpfcaaGreat

namespace Go.Proofs.YtmehadfhcdpfcaaGreat
open Go.RowKit Go.ChangeShapes Go.WideShapes Go.ChangeAt Go.Deep Go.Joins
set_option linter.unusedVariables false
set_option linter.unusedSimpArgs false
theorem wf_i64 {x : Int} (h : (Lit.int .i64 x).wf = true) : I64 x := by
 simpa [Lit.wf, IntKind.min, IntKind.max, IntKind.signed, IntKind.bits, I64] using h
def RowsAt {α : Type} (w : World) (size : Nat) (K : List Value → α → Prop) (els : List α) (b off : Nat) : Prop :=
 ∀ k a, els[k]? = some a → ∃ cs, cs.length = size ∧ (∀ i v, cs[i]? = some v → w.cell? ⟨b, off + k * size + i, none⟩ = some v) ∧ K cs a
section
variable {H : Type} {enc : TypeId × Value → H} {P : Program} {W : World}
theorem open_intS {t e : TypeId} {spare : Nat → Bool} {held : Bool} {base fuel : Nat} {v : Value} {x : DataW H × List MemPlace} (ht : P.underlying t = some (.slice e)) (he : P.underlying e = some (.int .i64)) (hc : P.cellsOf e = 1)
  (h : DataW.trod enc P W base spare held fuel t [v] = some x) : ∃ xs, IntS W (Bl W.heap.size) v xs := by
 rcases open_ints ht he hc h with ⟨hcs, _⟩ | ⟨a, len, cap, zs, hcs, _, hl, hm, hz, _, hcell, hwz⟩
 ·simp at hcs; subst hcs
  exact ⟨[], IntS.nil _ _ _⟩
 ·simp at hcs; subst hcs
  have hzl : len ≤ zs.length := by rw [hz]; split <;> omega
  have hxl : (zs.take len).length = len := by rw [List.length_take]; omega
  refine ⟨zs.take len, ⟨some a, cap, by rw [hxl], by rw [hxl]; exact hl, by rw [hxl]; omega, fun hn => ?_⟩, fun y hy => wf_i64 (hwz y (List.mem_of_mem_take hy))⟩
  rw [hxl] at hn
  obtain ⟨b, off, spot⟩ := a
  have g0 := hcell 0 (by omega)
  have hspot : spot = none := by simpa [Addr.add] using World.cell?_spot g0
  subst hspot
  have hb := block_lt_of_cell g0
  refine ⟨b, off, rfl, by simpa [Addr.add, Bl] using hb, fun k y hk => ?_⟩
  have hkl : k < (zs.take len).length := (List.getElem?_eq_some_iff.1 hk).1
  rw [hxl] at hkl
  have g := hcell k (by omega)
  have e1 : (⟨b, off, none⟩ : Addr).add k = ⟨b, off + k, none⟩ := by unfold Addr.add; split <;> simp_all
  rw [e1] at g
  rw [g]
  rw [List.getElem?_take_of_lt hkl] at hk
  rw [List.getD, hk]; rfl
theorem open_int1 {t : TypeId} {spare : Nat → Bool} {held : Bool} {base fuel : Nat} {v : Value} {x : DataW H × List MemPlace} (ht : P.underlying t = some (.int .i64))
  (h : DataW.trod enc P W base spare held fuel t [v] = some x) : ∃ a, v = .int .i64 a ∧ I64 a := by
 obtain ⟨a, e0, _, wa⟩ := DataW.trod_int ht h
 simp at e0
 exact ⟨a, e0, wf_i64 wa⟩
theorem open_rows {α : Type} {t te : TypeId} {size fuel : Nat} {v : Value} {x : DataW H × List MemPlace} (K : List Value → α → Prop) (ht : P.underlying t = some (.slice te)) (hC : P.cellsOf te = size) (h0 : 0 < size)
  (hel : ∀ n cs y, DataW.trod enc P W 0 (fun _ => true) true n te cs = some y → cs.length = size → ∃ a, K cs a)
  (h : DataW.trod enc P W 0 (fun _ => true) true fuel t [v] = some x) : ∃ els, Row (Bl W.heap.size) v els.length (RowsAt W size K els) ∧ ∀ a ∈ els, ∃ cs, K cs a := by
 rcases open_slice ht h with ⟨hcs1, _⟩ | ⟨a, len, cap, m, n, D, Pl, hcs1, hb, hl, hm, hmm, _, hi⟩
 ·simp at hcs1; subst hcs1
  exact ⟨[], Row.nil _ _ _, fun a ha => by cases ha⟩
 ·simp at hcs1; subst hcs1
  have hlm : len ≤ m := by rw [hmm]; split <;> omega
  have key : ∀ i, i < m → ∃ (e : α) (cs : List Value), cs.length = size ∧ (∀ j u, cs[j]? = some u → W.cell? (a.add (i * size + j)) = some u) ∧ K cs e := by
   intro i him
   obtain ⟨cs', hcell, ht'⟩ := hi i him
   rw [hC] at hcell
   obtain ⟨_, hl2, hat⟩ := World.cells?_some hcell
   obtain ⟨e, he⟩ := hel _ _ _ ht' hl2
   refine ⟨e, cs', hl2, fun j u hu => ?_, he⟩
   have hj : j < cs'.length := (List.getElem?_eq_some_iff.1 hu).1
   have g := hat j (by omega)
   have e2 : (a.add (i * size)).add j = a.add (i * size + j) := by
    unfold Addr.add
    by_cases hi0 : i * size = 0 <;> by_cases hj0 : j = 0 <;> simp [hi0, hj0, Nat.add_assoc]
   rw [e2] at g
   rw [g]
   exact hu
  have hex : ∃ els : List α, els.length = len ∧ ∀ k e, els[k]? = some e → ∃ cs : List Value, cs.length = size ∧ (∀ j u, cs[j]? = some u → W.cell? (a.add (k * size + j)) = some u) ∧ K cs e := by
   have : ∀ q, q ≤ len → ∃ els : List α, els.length = q ∧ ∀ k e, els[k]? = some e → ∃ cs : List Value, cs.length = size ∧ (∀ j u, cs[j]? = some u → W.cell? (a.add (k * size + j)) = some u) ∧ K cs e := by
    intro q
    induction q with
    | zero => intro _; exact ⟨[], rfl, fun k e he => by simp at he⟩
    | succ q ih =>
     intro hq
     obtain ⟨els, h1, h2⟩ := ih (by omega)
     obtain ⟨e, cs, h3⟩ := key q (by omega)
     refine ⟨els ++ [e], by simp [h1], fun k e' he' => ?_⟩
     rcases Nat.lt_or_ge k els.length with hk | hk
     ·rw [List.getElem?_append_left hk] at he'
      exact h2 k e' he'
     ·rw [List.getElem?_append_right hk] at he'
      have : k - els.length = 0 := by
       rcases Nat.eq_zero_or_pos (k - els.length) with h0 | h0
       ·exact h0
       ·rw [List.getElem?_eq_none (by simp; omega)] at he'; cases he'
      rw [this] at he'
      simp at he'
      subst he'
      have hkq : k = q := by omega
      subst hkq
      exact ⟨cs, h3⟩
   exact this len (Nat.le_refl _)
  obtain ⟨els, hal, has⟩ := hex
  refine ⟨els, ⟨some a, cap, by rw [hal], by rw [hal]; exact hl, by rw [hal]; omega, fun hn => ?_⟩, fun e he => ?_⟩
  ·rw [hal] at hn
   obtain ⟨b, off, spot⟩ := a
   obtain ⟨cs0, hc0, hc1, -⟩ := has 0 els[0] (List.getElem?_eq_getElem (by omega))
   have g0 := hc1 0 cs0[0] (List.getElem?_eq_getElem (by omega))
   have hspot : spot = none := by simpa [Addr.add] using World.cell?_spot g0
   subst hspot
   have hbb := block_lt_of_cell g0
   refine ⟨b, off, rfl, by simpa [Addr.add, Bl] using hbb, fun k e hk => ?_⟩
   obtain ⟨cs, q1, q2, q3⟩ := has k e hk
   refine ⟨cs, q1, fun i u hu => ?_, q3⟩
   have := q2 i u hu
   rw [← this]
   unfold Addr.add; split <;> simp_all [Nat.add_assoc]
  ·obtain ⟨k, hk, rfl⟩ := List.getElem_of_mem he
   obtain ⟨cs, _, _, q3⟩ := has k _ (List.getElem?_eq_getElem hk)
   exact ⟨cs, q3⟩
end
end Go.Proofs.YtmehadfhcdpfcaaGreat
