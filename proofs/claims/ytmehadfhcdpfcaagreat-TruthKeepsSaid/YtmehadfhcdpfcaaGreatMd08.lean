/- The reference's sectors, walked. -/
import Derived.Test.YtmehadfhcdpfcaaGreatMd07
import Derived.Deep.RegionHeld3
namespace Go.Proofs.YtmehadfhcdpfcaaGreat
open Go.RowKit
set_option linter.unusedVariables false
set_option linter.unusedSimpArgs false
def headB (p : Pc) : List UInt8 := [93, UInt8.ofNat p.vol.toNat, UInt8.ofNat p.frag.toNat, UInt8.ofNat p.stripe.toNat] ++ beTo p.gen.toNat 5 5 ++ beTo p.ver.toNat 5 5 ++ [0, 0] ++ p.data
def encB (p : Pc) : List UInt8 := sealB (headB p)
def encS (p : Pc) : List UInt8 := if validP p then encB p else []
def encE (p : Pc) : Int := if validP p then 0 else 100
theorem sealed_str (s : ByteArray) (w : World) (hl : s.size ≤ 65536) :
  Calls Tryz.prog 62 #[.string s] w fun e w' => e = .returned (.string ⟨(sealB s.data.toList).toArray⟩) ∧ Below w.heap.size w w' := by
 have h := sealed_any s.data.toList w (by rw [Array.length_toList]; exact hl)
 rwa [Array.toArray_toList] at h
def Held6 (W : World) (q : Nat) (v0 v1 v2 v3 v4 v5 : Value) (w' : World) : Prop :=
 w'.cell? ⟨q, 0, none⟩ = some v0 ∧ w'.cell? ⟨q, 1, none⟩ = some v1 ∧ w'.cell? ⟨q, 2, none⟩ = some v2 ∧ w'.cell? ⟨q, 3, none⟩ = some v3 ∧ w'.cell? ⟨q, 4, none⟩ = some v4 ∧ w'.cell? ⟨q, 5, none⟩ = some v5 ∧ Below W.heap.size W w'
theorem Held6.below {W wc w2 : World} {q : Nat} {v0 v1 v2 v3 v4 v5 : Value} (h : Held6 W q v0 v1 v2 v3 v4 v5 wc) (hb : Below wc.heap.size wc w2) (hq : q < W.heap.size) : Held6 W q v0 v1 v2 v3 v4 v5 w2 := by
 obtain ⟨h0, h1, h2, h3, h4, h5, h6⟩ := h
 have hs := h6.size
 have k : ∀ i, w2.cell? ⟨q, i, none⟩ = wc.cell? ⟨q, i, none⟩ := fun i => hb.cell (p := ⟨q, i, none⟩) (Nat.lt_of_lt_of_le hq hs)
 exact ⟨(k 0).trans h0, (k 1).trans h1, (k 2).trans h2, (k 3).trans h3, (k 4).trans h4, (k 5).trans h5, h6.trans (hb.mono hs)⟩
theorem Held6.alloc {W wc : World} {q : Nat} {v0 v1 v2 v3 v4 v5 : Value} {o : Obj} (h : Held6 W q v0 v1 v2 v3 v4 v5 wc) (hq : q < W.heap.size) : Held6 W q v0 v1 v2 v3 v4 v5 (wc.alloc o) := h.below ((Below.refl _ _).alloc (Nat.le_refl _) o) hq
theorem conv4 (a b c d : UInt8) (W : World) (q : Nat) (h0 : W.cell? ⟨q, 0, none⟩ = some (.int .u8 (a.toNat : Int))) (h1 : W.cell? ⟨q, 1, none⟩ = some (.int .u8 (b.toNat : Int))) (h2 : W.cell? ⟨q, 2, none⟩ = some (.int .u8 (c.toNat : Int))) (h3 : W.cell? ⟨q, 3, none⟩ = some (.int .u8 (d.toNat : Int))) :
  (convert 88 9 (.slice (some ⟨q, 0, none⟩) 4 4)).run Tryz.prog W = .ok (.string ⟨[a, b, c, d].toArray⟩) W := by
 refine conv_bytes (R := fun _ => True) ⟨_, 4, rfl, Nat.le_refl _, by unfold maxLen; simp, fun _ => ⟨q, 0, rfl, trivial, fun k x hx => ?_⟩⟩
 have hk : k < 4 := (List.getElem?_eq_some_iff.1 hx).1
 match k, hk with
 | 0, _ => simp at hx; subst hx; exact h0
 | 1, _ => simp at hx; subst hx; exact h1
 | 2, _ => simp at hx; subst hx; exact h2
 | 3, _ => simp at hx; subst hx; exact h3
set_option maxRecDepth 100000 in
set_option maxHeartbeats 1600000 in
theorem refsenc_any (p : Pc) (w : World) (hp : PcI p) (hd : p.data.length ≤ 60000) :
  Calls Tryz.prog 27 #[PcV p] w fun e w' => e = .returned (.tuple #[.string ⟨(encS p).toArray⟩, .int .i64 (encE p)]) ∧ Below w.heap.size w w' := by
 have HV := Lib.hid (fun w => refsvalid_any p w hp)
 unfold PcV at HV ⊢
 cases hv : validP p with
 | false =>
  have h1 : encS p = [] := by unfold encS; rw [hv]; rfl
  have h2 : encE p = 100 := by unfold encE; rw [hv]; rfl
  rw [hv] at HV
  rw [h1, h2]
  clear h1 h2 hv
  go_enter Tryz.func27, Tryz.ntmps27
  go_wp2_with fail
  refine (HV.out _).mono ?_
  rintro e w' ⟨rfl, hb⟩
  have hb2 := below_box hb
  go_wp2
  go_ret2
  exact ⟨rfl, hb2⟩
 | true =>
  have h1 : encS p = encB p := by unfold encS; rw [hv]; rfl
  have h2 : encE p = 0 := by unfold encE; rw [hv]; rfl
  obtain ⟨a0, a1, b0, b1, c0, c1, g0, g1, r0, r1, hl⟩ := validP_iff.1 hv
  rw [hv] at HV
  rw [h1, h2]
  obtain ⟨a, b, c, g, r, l⟩ := p
  simp only at *
  obtain ⟨a, rfl⟩ : ∃ n : Nat, a = (n : Int) := ⟨a.toNat, by omega⟩
  obtain ⟨b, rfl⟩ : ∃ n : Nat, b = (n : Int) := ⟨b.toNat, by omega⟩
  obtain ⟨c, rfl⟩ : ∃ n : Nat, c = (n : Int) := ⟨c.toNat, by omega⟩
  obtain ⟨g, rfl⟩ : ∃ n : Nat, g = (n : Int) := ⟨g.toNat, by omega⟩
  obtain ⟨r, rfl⟩ : ∃ n : Nat, r = (n : Int) := ⟨r.toNat, by omega⟩
  have hz := size_of l
  have hd' : (⟨l.toArray⟩ : ByteArray).data.toList = l := by simp
  have HD := Lib.hid hd'
  generalize (⟨l.toArray⟩ : ByteArray) = s at *
  have HZ := Lib.hid (hz.trans hl)
  have HB1 := Lib.hid (fun w => big_any g 5 w (by omega) (by omega))
  have HB2 := Lib.hid (fun w => big_any r 5 w (by omega) (by omega))
  have ha : ((UInt8.ofNat a).toNat : Int) = (a : Int) := by rw [UInt8.toNat_ofNat']; omega
  have hb : ((UInt8.ofNat b).toNat : Int) = (b : Int) := by rw [UInt8.toNat_ofNat']; omega
  have hc : ((UInt8.ofNat c).toNat : Int) = (c : Int) := by rw [UInt8.toNat_ofNat']; omega
  have hcv := fun W q => conv4 93 (UInt8.ofNat a) (UInt8.ofNat b) (UInt8.ofNat c) W q
  rw [ha, hb, hc] at hcv
  have HCV := Lib.hid hcv
  clear h1 h2 hv hp hd hz hl hd' ha hb hc hcv
  go_enter Tryz.func27, Tryz.ntmps27
  go_wp2_with fail
  refine (HV.out _).mono ?_
  rintro e w1 ⟨rfl, hbv⟩
  obtain ⟨q, hq⟩ : ∃ q, q = w.heap.size := ⟨_, rfl⟩
  have hbw := below_box hbv
  obtain ⟨hc0, hf0⟩ := bcell hbv
  have k0 : w1.cell? ⟨q, 0, none⟩ = some (.int .i64 (a : Int)) := by rw [hq, hc0 _ _ (by simp)]; simp
  have k1 : w1.cell? ⟨q, 1, none⟩ = some (.int .i64 (b : Int)) := by rw [hq, hc0 _ _ (by simp)]; simp
  have k2 : w1.cell? ⟨q, 2, none⟩ = some (.int .i64 (c : Int)) := by rw [hq, hc0 _ _ (by simp)]; simp
  have k3 : w1.cell? ⟨q, 3, none⟩ = some (.int .i64 (g : Int)) := by rw [hq, hc0 _ _ (by simp)]; simp
  have k4 : w1.cell? ⟨q, 4, none⟩ = some (.int .i64 (r : Int)) := by rw [hq, hc0 _ _ (by simp)]; simp
  have k5 : w1.cell? ⟨q, 5, none⟩ = some (.string s) := by rw [hq, hc0 _ _ (by simp)]; simp
  have hq1 : q < w1.heap.size := by have := hbv.size; simp at this; omega
  have hS0 : Held6 w1 q (.int .i64 (a : Int)) (.int .i64 (b : Int)) (.int .i64 (c : Int)) (.int .i64 (g : Int)) (.int .i64 (r : Int)) (.string s) w1.drew := ⟨k0, k1, k2, k3, k4, k5, (Below.refl _ _).drew⟩
  have HS0 := Lib.hid hS0
  rw [← hq]
  clear hc0 hf0 hbv hS0 k0 k1 k2 k3 k4 k5 hq
  go_wp2_with fail
  have hcv := HCV.out
  have wa : IntKind.u8.wrap (a : Int) = (a : Int) := by rw [IntKind.wrap_u8]; omega
  have wb : IntKind.u8.wrap (b : Int) = (b : Int) := by rw [IntKind.wrap_u8]; omega
  have wc : IntKind.u8.wrap (c : Int) = (c : Int) := by rw [IntKind.wrap_u8]; omega
  have wg : IntKind.u64.wrap (g : Int) = (g : Int) := by simp [IntKind.wrap, IntKind.bits, IntKind.signed]; omega
  have wr : IntKind.u64.wrap (r : Int) = (r : Int) := by simp [IntKind.wrap, IntKind.bits, IntKind.signed]; omega
  have l1 := beTo_length g 5 5
  have l2 := beTo_length r 5 5
  have hz := HZ.out
  refine wp_region_held_drew (S := (fun w' => w'.cell? ⟨q, 0, none⟩ = some (.int .i64 (a : Int)) ∧ w'.cell? ⟨q, 1, none⟩ = some (.int .i64 (b : Int)) ∧ w'.cell? ⟨q, 2, none⟩ = some (.int .i64 (c : Int)) ∧ w'.cell? ⟨q, 3, none⟩ = some (.int .i64 (g : Int)) ∧ w'.cell? ⟨q, 4, none⟩ = some (.int .i64 (r : Int)) ∧ w'.cell? ⟨q, 5, none⟩ = some (.string s) ∧ Below w1.heap.size w1 w')) (by kernel_rfl) HS0.out (fun hHeld => ?_)
  refine wpAnyH_take (i := 0) (v := ?_) rfl (by kernel_rfl) (by kernel_rfl) (by kernel_rfl) (fun _ _ _ h => h) (Or.inl ⟨by rfl, ?_⟩) (by assumption) ?_
  rotate_left
  ·(intro w hSw; (try dsimp only at hSw); go_simp; first | done | with_reducible rfl)
  (try simp only [Act.put, List.setIfInBounds_toArray, List.set_cons_zero, List.set_cons_succ])
  refine wpAnyH_take (i := 1) (v := ?_) rfl (by kernel_rfl) (by kernel_rfl) (by kernel_rfl) (fun _ _ _ h => h) (Or.inl ⟨by rfl, ?_⟩) (by assumption) ?_
  rotate_left
  ·(intro w hSw; (try dsimp only at hSw); go_simp; first | done | with_reducible rfl)
  (try simp only [Act.put, List.setIfInBounds_toArray, List.set_cons_zero, List.set_cons_succ])
  refine wpAnyH_take (i := 2) (v := ?_) rfl (by kernel_rfl) (by kernel_rfl) (by kernel_rfl) (fun _ _ _ h => h) (Or.inl ⟨by rfl, ?_⟩) (by assumption) ?_
  rotate_left
  ·(intro w hSw; (try dsimp only at hSw); go_simp; first | done | with_reducible rfl)
  (try simp only [Act.put, List.setIfInBounds_toArray, List.set_cons_zero, List.set_cons_succ])
  refine wpAnyH_take (i := 3) (v := ?_) rfl (by kernel_rfl) (by kernel_rfl) (by kernel_rfl) (fun _ _ _ h => h) (Or.inl ⟨by rfl, ?_⟩) (by assumption) ?_
  rotate_left
  ·(intro w hSw; (try dsimp only at hSw); go_simp; first | done | with_reducible rfl)
  (try simp only [Act.put, List.setIfInBounds_toArray, List.set_cons_zero, List.set_cons_succ])
  refine wpAnyH_take (i := 4) (v := ?_) rfl (by kernel_rfl) (by kernel_rfl) (by kernel_rfl) (fun _ _ _ h => h) (Or.inl ⟨by rfl, ?_⟩) (by assumption) ?_
  rotate_left
  ·(intro w hSw; (try dsimp only at hSw); go_simp; first | done | with_reducible rfl)
  (try simp only [Act.put, List.setIfInBounds_toArray, List.set_cons_zero, List.set_cons_succ])
  refine wpAnyH_take (i := 5) (v := ?_) rfl (by kernel_rfl) (by kernel_rfl) (by kernel_rfl) (fun _ _ _ h => h) (Or.inl ⟨by rfl, ?_⟩) (by assumption) ?_
  rotate_left
  ·(intro w hSw; (try dsimp only at hSw); go_simp; first | done | with_reducible rfl)
  (try simp only [Act.put, List.setIfInBounds_toArray, List.set_cons_zero, List.set_cons_succ])
  refine wpAnyH_take (i := 6) (v := ?_) rfl (by kernel_rfl) (by kernel_rfl) (by kernel_rfl) (fun _ _ _ h => h) (Or.inl ⟨by rfl, ?_⟩) (by assumption) ?_
  rotate_left
  ·(intro w hSw; (try dsimp only at hSw); go_simp; first | done | with_reducible rfl)
  (try simp only [Act.put, List.setIfInBounds_toArray, List.set_cons_zero, List.set_cons_succ])
  refine wpAnyH_take (i := 7) (v := ?_) rfl (by kernel_rfl) (by kernel_rfl) (by kernel_rfl) (fun _ _ _ h => h) (Or.inl ⟨by rfl, ?_⟩) (by assumption) ?_
  rotate_left
  ·(intro w hSw; (try dsimp only at hSw); go_simp; first | done | with_reducible rfl)
  (try simp only [Act.put, List.setIfInBounds_toArray, List.set_cons_zero, List.set_cons_succ])
  refine wpAnyH_take (i := 8) (v := ?_) rfl (by kernel_rfl) (by kernel_rfl) (by kernel_rfl) (fun _ _ _ h => h) (Or.inl ⟨by rfl, ?_⟩) (by assumption) ?_
  rotate_left
  ·(intro w hSw; (try dsimp only at hSw); go_simp; first | done | with_reducible rfl)
  (try simp only [Act.put, List.setIfInBounds_toArray, List.set_cons_zero, List.set_cons_succ])
  refine wpAnyH_take (i := 11) (v := ?_) rfl (by kernel_rfl) (by kernel_rfl) (by kernel_rfl) (fun _ _ _ h => h) (Or.inl ⟨by rfl, ?_⟩) (by assumption) ?_
  rotate_left
  ·(intro w hSw; (try dsimp only at hSw); go_simp; first | done | with_reducible rfl)
  (try simp only [Act.put, List.setIfInBounds_toArray, List.set_cons_zero, List.set_cons_succ])
  refine wpAnyH_take (i := 12) (v := ?_) rfl (by kernel_rfl) (by kernel_rfl) (by kernel_rfl) (fun _ _ _ h => h) (Or.inl ⟨by rfl, ?_⟩) (by assumption) ?_
  rotate_left
  ·(intro w hSw; (try dsimp only at hSw); go_simp; first | done | with_reducible rfl)
  (try simp only [Act.put, List.setIfInBounds_toArray, List.set_cons_zero, List.set_cons_succ])
  refine wpAnyH_take (i := 13) (v := ?_) rfl (by kernel_rfl) (by kernel_rfl) (by kernel_rfl) (fun _ _ _ h => h) (Or.inl ⟨by rfl, ?_⟩) (by assumption) ?_
  rotate_left
  ·(intro w hSw; (try dsimp only at hSw); go_simp; first | done | with_reducible rfl)
  (try simp only [Act.put, List.setIfInBounds_toArray, List.set_cons_zero, List.set_cons_succ])
  refine wpAnyH_take (i := 16) (v := ?_) rfl (by kernel_rfl) (by kernel_rfl) (by kernel_rfl) (fun _ _ _ h => h) (Or.inl ⟨by rfl, ?_⟩) (by assumption) ?_
  rotate_left
  ·(intro w hSw; (try dsimp only at hSw); go_simp; first | done | with_reducible rfl)
  (try simp only [Act.put, List.setIfInBounds_toArray, List.set_cons_zero, List.set_cons_succ])
  refine wpAnyH_take (i := 17) (v := ?_) rfl (by kernel_rfl) (by kernel_rfl) (by kernel_rfl) (fun _ _ _ h => h) (Or.inl ⟨by rfl, ?_⟩) (by assumption) ?_
  rotate_left
  ·(intro w hSw; (try dsimp only at hSw); go_simp; first | done | with_reducible rfl)
  (try simp only [Act.put, List.setIfInBounds_toArray, List.set_cons_zero, List.set_cons_succ])
  refine wpAnyH_take (i := 18) (v := ?_) rfl (by kernel_rfl) (by kernel_rfl) (by kernel_rfl) (fun _ _ _ h => h) (Or.inl ⟨by rfl, ?_⟩) (by assumption) ?_
  rotate_left
  ·(intro w hSw; (try dsimp only at hSw); go_simp; first | done | with_reducible rfl)
  (try simp only [Act.put, List.setIfInBounds_toArray, List.set_cons_zero, List.set_cons_succ])
  refine wpAnyH_take (i := 22) (v := ?_) rfl (by kernel_rfl) (by kernel_rfl) (by kernel_rfl) (fun _ _ _ h => h) (Or.inl ⟨by rfl, ?_⟩) (by assumption) ?_
  rotate_left
  ·(intro w hSw; (try dsimp only at hSw); go_simp; first | done | with_reducible rfl)
  (try simp only [Act.put, List.setIfInBounds_toArray, List.set_cons_zero, List.set_cons_succ])
  refine wpAnyH_take (i := 23) (v := ?_) rfl (by kernel_rfl) (by kernel_rfl) (by kernel_rfl) (fun _ _ _ h => h) (Or.inl ⟨by rfl, ?_⟩) (by assumption) ?_
  rotate_left
  ·(intro w hSw; (try dsimp only at hSw); go_simp; first | done | with_reducible rfl)
  (try simp only [Act.put, List.setIfInBounds_toArray, List.set_cons_zero, List.set_cons_succ])
  refine wpAnyH_ready (rs := [9, 14]) (by kernel_rfl) (by simp) ?_
  refine AllReadyH.cons rfl (fun K hK => ?_) ?_
  ·go_simp
   refine hK.out _ _ ?_ (fun hHeld => ?_)
   ·(first | assumption | exact HS0.out | exact Held6.alloc (by assumption) hq1 | exact Held6.below (by assumption) hb2 hq1 | exact Held6.below (by assumption) hb3 hq1)
   clear hK K
   (try simp only [Act.put, List.setIfInBounds_toArray, List.set_cons_zero, List.set_cons_succ])
   refine wpAnyH_ready (rs := [10, 14]) (by kernel_rfl) (by simp) ?_
   refine AllReadyH.cons rfl (fun K hK => ?_) ?_
   ·go_simp
    refine hK.out _ _ ?_ (fun hHeld => ?_)
    ·(first | assumption | exact HS0.out | exact Held6.alloc (by assumption) hq1 | exact Held6.below (by assumption) hb2 hq1 | exact Held6.below (by assumption) hb3 hq1)
    clear hK K
    (try simp only [Act.put, List.setIfInBounds_toArray, List.set_cons_zero, List.set_cons_succ])
    refine wpAnyH_ready (rs := [14]) (by kernel_rfl) (by simp) ?_
    refine AllReadyH.cons rfl (fun K hK => ?_) ?_
    ·go_simp
     (go_at_call_of 61 (Value.int .u64 (g : Int)); refine (HB1.out _).mono ?_; rintro e w2 ⟨rfl, hb2⟩; obtain ⟨hc2, hf2⟩ := bcell hb2; (try have hz2 : w1.heap.size < w2.heap.size := by have := hb2.size; simp at this; omega))
     go_wp2_with fail
     refine hK.out _ _ ?_ (fun hHeld => ?_)
     ·(first | assumption | exact HS0.out | exact Held6.alloc (by assumption) hq1 | exact Held6.below (by assumption) hb2 hq1 | exact Held6.below (by assumption) hb3 hq1)
     clear hK K
     (try simp only [Act.put, List.setIfInBounds_toArray, List.set_cons_zero, List.set_cons_succ])
     refine wpAnyH_take (i := 15) (v := ?_) rfl (by kernel_rfl) (by kernel_rfl) (by kernel_rfl) (fun _ _ _ h => h) (Or.inl ⟨by rfl, ?_⟩) (by assumption) ?_
     rotate_left
     ·(intro w hSw; (try dsimp only at hSw); go_simp; first | done | with_reducible rfl)
     (try simp only [Act.put, List.setIfInBounds_toArray, List.set_cons_zero, List.set_cons_succ])
     refine wpAnyH_ready (rs := [19]) (by kernel_rfl) (by simp) ?_
     refine AllReadyH.cons rfl (fun K hK => ?_) ?_
     ·go_simp
      (go_at_call_of 61 (Value.int .u64 (r : Int)); refine (HB2.out _).mono ?_; rintro e w3 ⟨rfl, hb3⟩; obtain ⟨hc3, hf3⟩ := bcell hb3; (try have hz3 : w1.heap.size < w3.heap.size := by have := hb3.size; simp at this; omega))
      go_wp2_with fail
      refine hK.out _ _ ?_ (fun hHeld => ?_)
      ·(first | assumption | exact HS0.out | exact Held6.alloc (by assumption) hq1 | exact Held6.below (by assumption) hb2 hq1 | exact Held6.below (by assumption) hb3 hq1)
      clear hK K
      (try simp only [Act.put, List.setIfInBounds_toArray, List.set_cons_zero, List.set_cons_succ])
      refine wpAnyH_take (i := 20) (v := ?_) rfl (by kernel_rfl) (by kernel_rfl) (by kernel_rfl) (fun _ _ _ h => h) (Or.inl ⟨by rfl, ?_⟩) (by assumption) ?_
      rotate_left
      ·(intro w hSw; (try dsimp only at hSw); go_simp; first | done | with_reducible rfl)
      (try simp only [Act.put, List.setIfInBounds_toArray, List.set_cons_zero, List.set_cons_succ])
      refine wpAnyH_take (i := 21) (v := ?_) rfl (by kernel_rfl) (by kernel_rfl) (by kernel_rfl) (fun _ _ _ h => h) (Or.inl ⟨by rfl, ?_⟩) (by assumption) ?_
      rotate_left
      ·(intro w hSw; (try dsimp only at hSw); go_simp; first | done | with_reducible rfl)
      (try simp only [Act.put, List.setIfInBounds_toArray, List.set_cons_zero, List.set_cons_succ])
      refine wpAnyH_take (i := 24) (v := ?_) rfl (by kernel_rfl) (by kernel_rfl) (by kernel_rfl) (fun _ _ _ h => h) (Or.inl ⟨by rfl, ?_⟩) (by assumption) ?_
      rotate_left
      ·(intro w hSw; (try dsimp only at hSw); go_simp; first | done | with_reducible rfl)
      (try simp only [Act.put, List.setIfInBounds_toArray, List.set_cons_zero, List.set_cons_succ])
      refine wpAnyH_take (i := 25) (v := ?_) rfl (by kernel_rfl) (by kernel_rfl) (by kernel_rfl) (fun _ _ _ h => h) (Or.inl ⟨by rfl, ?_⟩) (by assumption) ?_
      rotate_left
      ·(intro w hSw; (try dsimp only at hSw); go_simp; first | done | with_reducible rfl)
      (try simp only [Act.put, List.setIfInBounds_toArray, List.set_cons_zero, List.set_cons_succ])
      refine wpAnyH_done (by kernel_rfl) ?_ _
      have hbx : Below w.heap.size w _ := hbw.trans ((by assumption : _ ∧ _ ∧ _ ∧ _ ∧ _ ∧ _ ∧ Below w1.heap.size w1 _).2.2.2.2.2.2.mono hbw.size)
      obtain ⟨x, hx⟩ : ∃ x, x = (⟨#[93, UInt8.ofNat a, UInt8.ofNat b, UInt8.ofNat c]⟩ ++ ⟨(beTo g 5 5).toArray⟩ ++ ⟨(beTo r 5 5).toArray⟩ ++ ⟨#[0, 0]⟩ ++ s : ByteArray) := ⟨_, rfl⟩
      have hxl : x.data.toList = headB ⟨a, b, c, g, r, l⟩ := by
       rw [hx, ← HD.out]
       simp [headB]
      have hxs : x.size ≤ 65536 := by
       show x.data.size ≤ _
       rw [← Array.length_toList, hxl]
       have := HZ.out
       have h2 : l.length = 16 := by rw [← HD.out, Array.length_toList]; exact this
       simp [headB, beTo_length, h2]
      have HX := Lib.hid hxl
      rw [← hx]
      clear hx hxl wa wb wc wg wr l1 l2 hz hcv
      have HSE := Lib.hid (fun w => sealed_str x w hxs)
      rw [HX.out] at HSE
      clear hxs
      go_wp2_with fail
      refine (HSE.out _).mono ?_
      rintro e w9 ⟨rfl, hb9⟩
      have hb10 := hbx.trans (hb9.mono hbx.size)
      go_wp2
      go_ret2
      exact ⟨rfl, hb10⟩
     exact AllReadyH.nil
    exact AllReadyH.nil
   refine AllReadyH.cons rfl (fun K hK => ?_) ?_
   ·go_simp
    (go_at_call_of 61 (Value.int .u64 (g : Int)); refine (HB1.out _).mono ?_; rintro e w2 ⟨rfl, hb2⟩; obtain ⟨hc2, hf2⟩ := bcell hb2; (try have hz2 : w1.heap.size < w2.heap.size := by have := hb2.size; simp at this; omega))
    go_wp2_with fail
    refine hK.out _ _ ?_ (fun hHeld => ?_)
    ·(first | assumption | exact HS0.out | exact Held6.alloc (by assumption) hq1 | exact Held6.below (by assumption) hb2 hq1 | exact Held6.below (by assumption) hb3 hq1)
    clear hK K
    (try simp only [Act.put, List.setIfInBounds_toArray, List.set_cons_zero, List.set_cons_succ])
    refine wpAnyH_ready (rs := [10, 19]) (by kernel_rfl) (by simp) ?_
    refine AllReadyH.cons rfl (fun K hK => ?_) ?_
    ·go_simp
     refine hK.out _ _ ?_ (fun hHeld => ?_)
     ·(first | assumption | exact HS0.out | exact Held6.alloc (by assumption) hq1 | exact Held6.below (by assumption) hb2 hq1 | exact Held6.below (by assumption) hb3 hq1)
     clear hK K
     (try simp only [Act.put, List.setIfInBounds_toArray, List.set_cons_zero, List.set_cons_succ])
     refine wpAnyH_take (i := 15) (v := ?_) rfl (by kernel_rfl) (by kernel_rfl) (by kernel_rfl) (fun _ _ _ h => h) (Or.inl ⟨by rfl, ?_⟩) (by assumption) ?_
     rotate_left
     ·(intro w hSw; (try dsimp only at hSw); go_simp; first | done | with_reducible rfl)
     (try simp only [Act.put, List.setIfInBounds_toArray, List.set_cons_zero, List.set_cons_succ])
     refine wpAnyH_ready (rs := [19]) (by kernel_rfl) (by simp) ?_
     refine AllReadyH.cons rfl (fun K hK => ?_) ?_
     ·go_simp
      (go_at_call_of 61 (Value.int .u64 (r : Int)); refine (HB2.out _).mono ?_; rintro e w3 ⟨rfl, hb3⟩; obtain ⟨hc3, hf3⟩ := bcell hb3; (try have hz3 : w1.heap.size < w3.heap.size := by have := hb3.size; simp at this; omega))
      go_wp2_with fail
      refine hK.out _ _ ?_ (fun hHeld => ?_)
      ·(first | assumption | exact HS0.out | exact Held6.alloc (by assumption) hq1 | exact Held6.below (by assumption) hb2 hq1 | exact Held6.below (by assumption) hb3 hq1)
      clear hK K
      (try simp only [Act.put, List.setIfInBounds_toArray, List.set_cons_zero, List.set_cons_succ])
      refine wpAnyH_take (i := 20) (v := ?_) rfl (by kernel_rfl) (by kernel_rfl) (by kernel_rfl) (fun _ _ _ h => h) (Or.inl ⟨by rfl, ?_⟩) (by assumption) ?_
      rotate_left
      ·(intro w hSw; (try dsimp only at hSw); go_simp; first | done | with_reducible rfl)
      (try simp only [Act.put, List.setIfInBounds_toArray, List.set_cons_zero, List.set_cons_succ])
      refine wpAnyH_take (i := 21) (v := ?_) rfl (by kernel_rfl) (by kernel_rfl) (by kernel_rfl) (fun _ _ _ h => h) (Or.inl ⟨by rfl, ?_⟩) (by assumption) ?_
      rotate_left
      ·(intro w hSw; (try dsimp only at hSw); go_simp; first | done | with_reducible rfl)
      (try simp only [Act.put, List.setIfInBounds_toArray, List.set_cons_zero, List.set_cons_succ])
      refine wpAnyH_take (i := 24) (v := ?_) rfl (by kernel_rfl) (by kernel_rfl) (by kernel_rfl) (fun _ _ _ h => h) (Or.inl ⟨by rfl, ?_⟩) (by assumption) ?_
      rotate_left
      ·(intro w hSw; (try dsimp only at hSw); go_simp; first | done | with_reducible rfl)
      (try simp only [Act.put, List.setIfInBounds_toArray, List.set_cons_zero, List.set_cons_succ])
      refine wpAnyH_take (i := 25) (v := ?_) rfl (by kernel_rfl) (by kernel_rfl) (by kernel_rfl) (fun _ _ _ h => h) (Or.inl ⟨by rfl, ?_⟩) (by assumption) ?_
      rotate_left
      ·(intro w hSw; (try dsimp only at hSw); go_simp; first | done | with_reducible rfl)
      (try simp only [Act.put, List.setIfInBounds_toArray, List.set_cons_zero, List.set_cons_succ])
      refine wpAnyH_done (by kernel_rfl) ?_ _
      have hbx : Below w.heap.size w _ := hbw.trans ((by assumption : _ ∧ _ ∧ _ ∧ _ ∧ _ ∧ _ ∧ Below w1.heap.size w1 _).2.2.2.2.2.2.mono hbw.size)
      obtain ⟨x, hx⟩ : ∃ x, x = (⟨#[93, UInt8.ofNat a, UInt8.ofNat b, UInt8.ofNat c]⟩ ++ ⟨(beTo g 5 5).toArray⟩ ++ ⟨(beTo r 5 5).toArray⟩ ++ ⟨#[0, 0]⟩ ++ s : ByteArray) := ⟨_, rfl⟩
      have hxl : x.data.toList = headB ⟨a, b, c, g, r, l⟩ := by
       rw [hx, ← HD.out]
       simp [headB]
      have hxs : x.size ≤ 65536 := by
       show x.data.size ≤ _
       rw [← Array.length_toList, hxl]
       have := HZ.out
       have h2 : l.length = 16 := by rw [← HD.out, Array.length_toList]; exact this
       simp [headB, beTo_length, h2]
      have HX := Lib.hid hxl
      rw [← hx]
      clear hx hxl wa wb wc wg wr l1 l2 hz hcv
      have HSE := Lib.hid (fun w => sealed_str x w hxs)
      rw [HX.out] at HSE
      clear hxs
      go_wp2_with fail
      refine (HSE.out _).mono ?_
      rintro e w9 ⟨rfl, hb9⟩
      have hb10 := hbx.trans (hb9.mono hbx.size)
      go_wp2
      go_ret2
      exact ⟨rfl, hb10⟩
     exact AllReadyH.nil
    refine AllReadyH.cons rfl (fun K hK => ?_) ?_
    ·go_simp
     (go_at_call_of 61 (Value.int .u64 (r : Int)); refine (HB2.out _).mono ?_; rintro e w3 ⟨rfl, hb3⟩; obtain ⟨hc3, hf3⟩ := bcell hb3; (try have hz3 : w1.heap.size < w3.heap.size := by have := hb3.size; simp at this; omega))
     go_wp2_with fail
     refine hK.out _ _ ?_ (fun hHeld => ?_)
     ·(first | assumption | exact HS0.out | exact Held6.alloc (by assumption) hq1 | exact Held6.below (by assumption) hb2 hq1 | exact Held6.below (by assumption) hb3 hq1)
     clear hK K
     (try simp only [Act.put, List.setIfInBounds_toArray, List.set_cons_zero, List.set_cons_succ])
     refine wpAnyH_ready (rs := [10]) (by kernel_rfl) (by simp) ?_
     refine AllReadyH.cons rfl (fun K hK => ?_) ?_
     ·go_simp
      refine hK.out _ _ ?_ (fun hHeld => ?_)
      ·(first | assumption | exact HS0.out | exact Held6.alloc (by assumption) hq1 | exact Held6.below (by assumption) hb2 hq1 | exact Held6.below (by assumption) hb3 hq1)
      clear hK K
      (try simp only [Act.put, List.setIfInBounds_toArray, List.set_cons_zero, List.set_cons_succ])
      refine wpAnyH_take (i := 15) (v := ?_) rfl (by kernel_rfl) (by kernel_rfl) (by kernel_rfl) (fun _ _ _ h => h) (Or.inl ⟨by rfl, ?_⟩) (by assumption) ?_
      rotate_left
      ·(intro w hSw; (try dsimp only at hSw); go_simp; first | done | with_reducible rfl)
      (try simp only [Act.put, List.setIfInBounds_toArray, List.set_cons_zero, List.set_cons_succ])
      refine wpAnyH_take (i := 20) (v := ?_) rfl (by kernel_rfl) (by kernel_rfl) (by kernel_rfl) (fun _ _ _ h => h) (Or.inl ⟨by rfl, ?_⟩) (by assumption) ?_
      rotate_left
      ·(intro w hSw; (try dsimp only at hSw); go_simp; first | done | with_reducible rfl)
      (try simp only [Act.put, List.setIfInBounds_toArray, List.set_cons_zero, List.set_cons_succ])
      refine wpAnyH_take (i := 21) (v := ?_) rfl (by kernel_rfl) (by kernel_rfl) (by kernel_rfl) (fun _ _ _ h => h) (Or.inl ⟨by rfl, ?_⟩) (by assumption) ?_
      rotate_left
      ·(intro w hSw; (try dsimp only at hSw); go_simp; first | done | with_reducible rfl)
      (try simp only [Act.put, List.setIfInBounds_toArray, List.set_cons_zero, List.set_cons_succ])
      refine wpAnyH_take (i := 24) (v := ?_) rfl (by kernel_rfl) (by kernel_rfl) (by kernel_rfl) (fun _ _ _ h => h) (Or.inl ⟨by rfl, ?_⟩) (by assumption) ?_
      rotate_left
      ·(intro w hSw; (try dsimp only at hSw); go_simp; first | done | with_reducible rfl)
      (try simp only [Act.put, List.setIfInBounds_toArray, List.set_cons_zero, List.set_cons_succ])
      refine wpAnyH_take (i := 25) (v := ?_) rfl (by kernel_rfl) (by kernel_rfl) (by kernel_rfl) (fun _ _ _ h => h) (Or.inl ⟨by rfl, ?_⟩) (by assumption) ?_
      rotate_left
      ·(intro w hSw; (try dsimp only at hSw); go_simp; first | done | with_reducible rfl)
      (try simp only [Act.put, List.setIfInBounds_toArray, List.set_cons_zero, List.set_cons_succ])
      refine wpAnyH_done (by kernel_rfl) ?_ _
      have hbx : Below w.heap.size w _ := hbw.trans ((by assumption : _ ∧ _ ∧ _ ∧ _ ∧ _ ∧ _ ∧ Below w1.heap.size w1 _).2.2.2.2.2.2.mono hbw.size)
      obtain ⟨x, hx⟩ : ∃ x, x = (⟨#[93, UInt8.ofNat a, UInt8.ofNat b, UInt8.ofNat c]⟩ ++ ⟨(beTo g 5 5).toArray⟩ ++ ⟨(beTo r 5 5).toArray⟩ ++ ⟨#[0, 0]⟩ ++ s : ByteArray) := ⟨_, rfl⟩
      have hxl : x.data.toList = headB ⟨a, b, c, g, r, l⟩ := by
       rw [hx, ← HD.out]
       simp [headB]
      have hxs : x.size ≤ 65536 := by
       show x.data.size ≤ _
       rw [← Array.length_toList, hxl]
       have := HZ.out
       have h2 : l.length = 16 := by rw [← HD.out, Array.length_toList]; exact this
       simp [headB, beTo_length, h2]
      have HX := Lib.hid hxl
      rw [← hx]
      clear hx hxl wa wb wc wg wr l1 l2 hz hcv
      have HSE := Lib.hid (fun w => sealed_str x w hxs)
      rw [HX.out] at HSE
      clear hxs
      go_wp2_with fail
      refine (HSE.out _).mono ?_
      rintro e w9 ⟨rfl, hb9⟩
      have hb10 := hbx.trans (hb9.mono hbx.size)
      go_wp2
      go_ret2
      exact ⟨rfl, hb10⟩
     exact AllReadyH.nil
    exact AllReadyH.nil
   exact AllReadyH.nil
  refine AllReadyH.cons rfl (fun K hK => ?_) ?_
  ·go_simp
   (go_at_call_of 61 (Value.int .u64 (g : Int)); refine (HB1.out _).mono ?_; rintro e w2 ⟨rfl, hb2⟩; obtain ⟨hc2, hf2⟩ := bcell hb2; (try have hz2 : w1.heap.size < w2.heap.size := by have := hb2.size; simp at this; omega))
   go_wp2_with fail
   refine hK.out _ _ ?_ (fun hHeld => ?_)
   ·(first | assumption | exact HS0.out | exact Held6.alloc (by assumption) hq1 | exact Held6.below (by assumption) hb2 hq1 | exact Held6.below (by assumption) hb3 hq1)
   clear hK K
   (try simp only [Act.put, List.setIfInBounds_toArray, List.set_cons_zero, List.set_cons_succ])
   refine wpAnyH_ready (rs := [9, 19]) (by kernel_rfl) (by simp) ?_
   refine AllReadyH.cons rfl (fun K hK => ?_) ?_
   ·go_simp
    refine hK.out _ _ ?_ (fun hHeld => ?_)
    ·(first | assumption | exact HS0.out | exact Held6.alloc (by assumption) hq1 | exact Held6.below (by assumption) hb2 hq1 | exact Held6.below (by assumption) hb3 hq1)
    clear hK K
    (try simp only [Act.put, List.setIfInBounds_toArray, List.set_cons_zero, List.set_cons_succ])
    refine wpAnyH_ready (rs := [10, 19]) (by kernel_rfl) (by simp) ?_
    refine AllReadyH.cons rfl (fun K hK => ?_) ?_
    ·go_simp
     refine hK.out _ _ ?_ (fun hHeld => ?_)
     ·(first | assumption | exact HS0.out | exact Held6.alloc (by assumption) hq1 | exact Held6.below (by assumption) hb2 hq1 | exact Held6.below (by assumption) hb3 hq1)
     clear hK K
     (try simp only [Act.put, List.setIfInBounds_toArray, List.set_cons_zero, List.set_cons_succ])
     refine wpAnyH_take (i := 15) (v := ?_) rfl (by kernel_rfl) (by kernel_rfl) (by kernel_rfl) (fun _ _ _ h => h) (Or.inl ⟨by rfl, ?_⟩) (by assumption) ?_
     rotate_left
     ·(intro w hSw; (try dsimp only at hSw); go_simp; first | done | with_reducible rfl)
     (try simp only [Act.put, List.setIfInBounds_toArray, List.set_cons_zero, List.set_cons_succ])
     refine wpAnyH_ready (rs := [19]) (by kernel_rfl) (by simp) ?_
     refine AllReadyH.cons rfl (fun K hK => ?_) ?_
     ·go_simp
      (go_at_call_of 61 (Value.int .u64 (r : Int)); refine (HB2.out _).mono ?_; rintro e w3 ⟨rfl, hb3⟩; obtain ⟨hc3, hf3⟩ := bcell hb3; (try have hz3 : w1.heap.size < w3.heap.size := by have := hb3.size; simp at this; omega))
      go_wp2_with fail
      refine hK.out _ _ ?_ (fun hHeld => ?_)
      ·(first | assumption | exact HS0.out | exact Held6.alloc (by assumption) hq1 | exact Held6.below (by assumption) hb2 hq1 | exact Held6.below (by assumption) hb3 hq1)
      clear hK K
      (try simp only [Act.put, List.setIfInBounds_toArray, List.set_cons_zero, List.set_cons_succ])
      refine wpAnyH_take (i := 20) (v := ?_) rfl (by kernel_rfl) (by kernel_rfl) (by kernel_rfl) (fun _ _ _ h => h) (Or.inl ⟨by rfl, ?_⟩) (by assumption) ?_
      rotate_left
      ·(intro w hSw; (try dsimp only at hSw); go_simp; first | done | with_reducible rfl)
      (try simp only [Act.put, List.setIfInBounds_toArray, List.set_cons_zero, List.set_cons_succ])
      refine wpAnyH_take (i := 21) (v := ?_) rfl (by kernel_rfl) (by kernel_rfl) (by kernel_rfl) (fun _ _ _ h => h) (Or.inl ⟨by rfl, ?_⟩) (by assumption) ?_
      rotate_left
      ·(intro w hSw; (try dsimp only at hSw); go_simp; first | done | with_reducible rfl)
      (try simp only [Act.put, List.setIfInBounds_toArray, List.set_cons_zero, List.set_cons_succ])
      refine wpAnyH_take (i := 24) (v := ?_) rfl (by kernel_rfl) (by kernel_rfl) (by kernel_rfl) (fun _ _ _ h => h) (Or.inl ⟨by rfl, ?_⟩) (by assumption) ?_
      rotate_left
      ·(intro w hSw; (try dsimp only at hSw); go_simp; first | done | with_reducible rfl)
      (try simp only [Act.put, List.setIfInBounds_toArray, List.set_cons_zero, List.set_cons_succ])
      refine wpAnyH_take (i := 25) (v := ?_) rfl (by kernel_rfl) (by kernel_rfl) (by kernel_rfl) (fun _ _ _ h => h) (Or.inl ⟨by rfl, ?_⟩) (by assumption) ?_
      rotate_left
      ·(intro w hSw; (try dsimp only at hSw); go_simp; first | done | with_reducible rfl)
      (try simp only [Act.put, List.setIfInBounds_toArray, List.set_cons_zero, List.set_cons_succ])
      refine wpAnyH_done (by kernel_rfl) ?_ _
      have hbx : Below w.heap.size w _ := hbw.trans ((by assumption : _ ∧ _ ∧ _ ∧ _ ∧ _ ∧ _ ∧ Below w1.heap.size w1 _).2.2.2.2.2.2.mono hbw.size)
      obtain ⟨x, hx⟩ : ∃ x, x = (⟨#[93, UInt8.ofNat a, UInt8.ofNat b, UInt8.ofNat c]⟩ ++ ⟨(beTo g 5 5).toArray⟩ ++ ⟨(beTo r 5 5).toArray⟩ ++ ⟨#[0, 0]⟩ ++ s : ByteArray) := ⟨_, rfl⟩
      have hxl : x.data.toList = headB ⟨a, b, c, g, r, l⟩ := by
       rw [hx, ← HD.out]
       simp [headB]
      have hxs : x.size ≤ 65536 := by
       show x.data.size ≤ _
       rw [← Array.length_toList, hxl]
       have := HZ.out
       have h2 : l.length = 16 := by rw [← HD.out, Array.length_toList]; exact this
       simp [headB, beTo_length, h2]
      have HX := Lib.hid hxl
      rw [← hx]
      clear hx hxl wa wb wc wg wr l1 l2 hz hcv
      have HSE := Lib.hid (fun w => sealed_str x w hxs)
      rw [HX.out] at HSE
      clear hxs
      go_wp2_with fail
      refine (HSE.out _).mono ?_
      rintro e w9 ⟨rfl, hb9⟩
      have hb10 := hbx.trans (hb9.mono hbx.size)
      go_wp2
      go_ret2
      exact ⟨rfl, hb10⟩
     exact AllReadyH.nil
    refine AllReadyH.cons rfl (fun K hK => ?_) ?_
    ·go_simp
     (go_at_call_of 61 (Value.int .u64 (r : Int)); refine (HB2.out _).mono ?_; rintro e w3 ⟨rfl, hb3⟩; obtain ⟨hc3, hf3⟩ := bcell hb3; (try have hz3 : w1.heap.size < w3.heap.size := by have := hb3.size; simp at this; omega))
     go_wp2_with fail
     refine hK.out _ _ ?_ (fun hHeld => ?_)
     ·(first | assumption | exact HS0.out | exact Held6.alloc (by assumption) hq1 | exact Held6.below (by assumption) hb2 hq1 | exact Held6.below (by assumption) hb3 hq1)
     clear hK K
     (try simp only [Act.put, List.setIfInBounds_toArray, List.set_cons_zero, List.set_cons_succ])
     refine wpAnyH_ready (rs := [10]) (by kernel_rfl) (by simp) ?_
     refine AllReadyH.cons rfl (fun K hK => ?_) ?_
     ·go_simp
      refine hK.out _ _ ?_ (fun hHeld => ?_)
      ·(first | assumption | exact HS0.out | exact Held6.alloc (by assumption) hq1 | exact Held6.below (by assumption) hb2 hq1 | exact Held6.below (by assumption) hb3 hq1)
      clear hK K
      (try simp only [Act.put, List.setIfInBounds_toArray, List.set_cons_zero, List.set_cons_succ])
      refine wpAnyH_take (i := 15) (v := ?_) rfl (by kernel_rfl) (by kernel_rfl) (by kernel_rfl) (fun _ _ _ h => h) (Or.inl ⟨by rfl, ?_⟩) (by assumption) ?_
      rotate_left
      ·(intro w hSw; (try dsimp only at hSw); go_simp; first | done | with_reducible rfl)
      (try simp only [Act.put, List.setIfInBounds_toArray, List.set_cons_zero, List.set_cons_succ])
      refine wpAnyH_take (i := 20) (v := ?_) rfl (by kernel_rfl) (by kernel_rfl) (by kernel_rfl) (fun _ _ _ h => h) (Or.inl ⟨by rfl, ?_⟩) (by assumption) ?_
      rotate_left
      ·(intro w hSw; (try dsimp only at hSw); go_simp; first | done | with_reducible rfl)
      (try simp only [Act.put, List.setIfInBounds_toArray, List.set_cons_zero, List.set_cons_succ])
      refine wpAnyH_take (i := 21) (v := ?_) rfl (by kernel_rfl) (by kernel_rfl) (by kernel_rfl) (fun _ _ _ h => h) (Or.inl ⟨by rfl, ?_⟩) (by assumption) ?_
      rotate_left
      ·(intro w hSw; (try dsimp only at hSw); go_simp; first | done | with_reducible rfl)
      (try simp only [Act.put, List.setIfInBounds_toArray, List.set_cons_zero, List.set_cons_succ])
      refine wpAnyH_take (i := 24) (v := ?_) rfl (by kernel_rfl) (by kernel_rfl) (by kernel_rfl) (fun _ _ _ h => h) (Or.inl ⟨by rfl, ?_⟩) (by assumption) ?_
      rotate_left
      ·(intro w hSw; (try dsimp only at hSw); go_simp; first | done | with_reducible rfl)
      (try simp only [Act.put, List.setIfInBounds_toArray, List.set_cons_zero, List.set_cons_succ])
      refine wpAnyH_take (i := 25) (v := ?_) rfl (by kernel_rfl) (by kernel_rfl) (by kernel_rfl) (fun _ _ _ h => h) (Or.inl ⟨by rfl, ?_⟩) (by assumption) ?_
      rotate_left
      ·(intro w hSw; (try dsimp only at hSw); go_simp; first | done | with_reducible rfl)
      (try simp only [Act.put, List.setIfInBounds_toArray, List.set_cons_zero, List.set_cons_succ])
      refine wpAnyH_done (by kernel_rfl) ?_ _
      have hbx : Below w.heap.size w _ := hbw.trans ((by assumption : _ ∧ _ ∧ _ ∧ _ ∧ _ ∧ _ ∧ Below w1.heap.size w1 _).2.2.2.2.2.2.mono hbw.size)
      obtain ⟨x, hx⟩ : ∃ x, x = (⟨#[93, UInt8.ofNat a, UInt8.ofNat b, UInt8.ofNat c]⟩ ++ ⟨(beTo g 5 5).toArray⟩ ++ ⟨(beTo r 5 5).toArray⟩ ++ ⟨#[0, 0]⟩ ++ s : ByteArray) := ⟨_, rfl⟩
      have hxl : x.data.toList = headB ⟨a, b, c, g, r, l⟩ := by
       rw [hx, ← HD.out]
       simp [headB]
      have hxs : x.size ≤ 65536 := by
       show x.data.size ≤ _
       rw [← Array.length_toList, hxl]
       have := HZ.out
       have h2 : l.length = 16 := by rw [← HD.out, Array.length_toList]; exact this
       simp [headB, beTo_length, h2]
      have HX := Lib.hid hxl
      rw [← hx]
      clear hx hxl wa wb wc wg wr l1 l2 hz hcv
      have HSE := Lib.hid (fun w => sealed_str x w hxs)
      rw [HX.out] at HSE
      clear hxs
      go_wp2_with fail
      refine (HSE.out _).mono ?_
      rintro e w9 ⟨rfl, hb9⟩
      have hb10 := hbx.trans (hb9.mono hbx.size)
      go_wp2
      go_ret2
      exact ⟨rfl, hb10⟩
     exact AllReadyH.nil
    exact AllReadyH.nil
   refine AllReadyH.cons rfl (fun K hK => ?_) ?_
   ·go_simp
    (go_at_call_of 61 (Value.int .u64 (r : Int)); refine (HB2.out _).mono ?_; rintro e w3 ⟨rfl, hb3⟩; obtain ⟨hc3, hf3⟩ := bcell hb3; (try have hz3 : w1.heap.size < w3.heap.size := by have := hb3.size; simp at this; omega))
    go_wp2_with fail
    refine hK.out _ _ ?_ (fun hHeld => ?_)
    ·(first | assumption | exact HS0.out | exact Held6.alloc (by assumption) hq1 | exact Held6.below (by assumption) hb2 hq1 | exact Held6.below (by assumption) hb3 hq1)
    clear hK K
    (try simp only [Act.put, List.setIfInBounds_toArray, List.set_cons_zero, List.set_cons_succ])
    refine wpAnyH_ready (rs := [9]) (by kernel_rfl) (by simp) ?_
    refine AllReadyH.cons rfl (fun K hK => ?_) ?_
    ·go_simp
     refine hK.out _ _ ?_ (fun hHeld => ?_)
     ·(first | assumption | exact HS0.out | exact Held6.alloc (by assumption) hq1 | exact Held6.below (by assumption) hb2 hq1 | exact Held6.below (by assumption) hb3 hq1)
     clear hK K
     (try simp only [Act.put, List.setIfInBounds_toArray, List.set_cons_zero, List.set_cons_succ])
     refine wpAnyH_ready (rs := [10]) (by kernel_rfl) (by simp) ?_
     refine AllReadyH.cons rfl (fun K hK => ?_) ?_
     ·go_simp
      refine hK.out _ _ ?_ (fun hHeld => ?_)
      ·(first | assumption | exact HS0.out | exact Held6.alloc (by assumption) hq1 | exact Held6.below (by assumption) hb2 hq1 | exact Held6.below (by assumption) hb3 hq1)
      clear hK K
      (try simp only [Act.put, List.setIfInBounds_toArray, List.set_cons_zero, List.set_cons_succ])
      refine wpAnyH_take (i := 15) (v := ?_) rfl (by kernel_rfl) (by kernel_rfl) (by kernel_rfl) (fun _ _ _ h => h) (Or.inl ⟨by rfl, ?_⟩) (by assumption) ?_
      rotate_left
      ·(intro w hSw; (try dsimp only at hSw); go_simp; first | done | with_reducible rfl)
      (try simp only [Act.put, List.setIfInBounds_toArray, List.set_cons_zero, List.set_cons_succ])
      refine wpAnyH_take (i := 20) (v := ?_) rfl (by kernel_rfl) (by kernel_rfl) (by kernel_rfl) (fun _ _ _ h => h) (Or.inl ⟨by rfl, ?_⟩) (by assumption) ?_
      rotate_left
      ·(intro w hSw; (try dsimp only at hSw); go_simp; first | done | with_reducible rfl)
      (try simp only [Act.put, List.setIfInBounds_toArray, List.set_cons_zero, List.set_cons_succ])
      refine wpAnyH_take (i := 21) (v := ?_) rfl (by kernel_rfl) (by kernel_rfl) (by kernel_rfl) (fun _ _ _ h => h) (Or.inl ⟨by rfl, ?_⟩) (by assumption) ?_
      rotate_left
      ·(intro w hSw; (try dsimp only at hSw); go_simp; first | done | with_reducible rfl)
      (try simp only [Act.put, List.setIfInBounds_toArray, List.set_cons_zero, List.set_cons_succ])
      refine wpAnyH_take (i := 24) (v := ?_) rfl (by kernel_rfl) (by kernel_rfl) (by kernel_rfl) (fun _ _ _ h => h) (Or.inl ⟨by rfl, ?_⟩) (by assumption) ?_
      rotate_left
      ·(intro w hSw; (try dsimp only at hSw); go_simp; first | done | with_reducible rfl)
      (try simp only [Act.put, List.setIfInBounds_toArray, List.set_cons_zero, List.set_cons_succ])
      refine wpAnyH_take (i := 25) (v := ?_) rfl (by kernel_rfl) (by kernel_rfl) (by kernel_rfl) (fun _ _ _ h => h) (Or.inl ⟨by rfl, ?_⟩) (by assumption) ?_
      rotate_left
      ·(intro w hSw; (try dsimp only at hSw); go_simp; first | done | with_reducible rfl)
      (try simp only [Act.put, List.setIfInBounds_toArray, List.set_cons_zero, List.set_cons_succ])
      refine wpAnyH_done (by kernel_rfl) ?_ _
      have hbx : Below w.heap.size w _ := hbw.trans ((by assumption : _ ∧ _ ∧ _ ∧ _ ∧ _ ∧ _ ∧ Below w1.heap.size w1 _).2.2.2.2.2.2.mono hbw.size)
      obtain ⟨x, hx⟩ : ∃ x, x = (⟨#[93, UInt8.ofNat a, UInt8.ofNat b, UInt8.ofNat c]⟩ ++ ⟨(beTo g 5 5).toArray⟩ ++ ⟨(beTo r 5 5).toArray⟩ ++ ⟨#[0, 0]⟩ ++ s : ByteArray) := ⟨_, rfl⟩
      have hxl : x.data.toList = headB ⟨a, b, c, g, r, l⟩ := by
       rw [hx, ← HD.out]
       simp [headB]
      have hxs : x.size ≤ 65536 := by
       show x.data.size ≤ _
       rw [← Array.length_toList, hxl]
       have := HZ.out
       have h2 : l.length = 16 := by rw [← HD.out, Array.length_toList]; exact this
       simp [headB, beTo_length, h2]
      have HX := Lib.hid hxl
      rw [← hx]
      clear hx hxl wa wb wc wg wr l1 l2 hz hcv
      have HSE := Lib.hid (fun w => sealed_str x w hxs)
      rw [HX.out] at HSE
      clear hxs
      go_wp2_with fail
      refine (HSE.out _).mono ?_
      rintro e w9 ⟨rfl, hb9⟩
      have hb10 := hbx.trans (hb9.mono hbx.size)
      go_wp2
      go_ret2
      exact ⟨rfl, hb10⟩
     exact AllReadyH.nil
    exact AllReadyH.nil
   exact AllReadyH.nil
  exact AllReadyH.nil
end Go.Proofs.YtmehadfhcdpfcaaGreat
