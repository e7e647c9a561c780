/- The law TruthSees, walked. -/
import Derived.BigQuiet
import Derived.Deep.QuietTactic
import Derived.Deep.MidRow
import Derived.Test.YtflembddbbkojaaMa08
import Derived.Test.YtflembddbbkojaaMa13
import Derived.Test.YtflembddbbkojaaMa03
import Derived.Test.YtflembddbbkojaaMa17
namespace Go.Proofs.Ytflembddbbkojaa
open Go.RowKit
set_option linter.unusedVariables false
set_option linter.unusedSimpArgs false
/-- A cut of a goal at a state that is not typed: the first way that comes to it says which it is. -/
theorem pair_cut {α β γ : Type} {F : α → β → γ → Prop} {G : α → β → γ → Prop} {Goal : Prop} (main : (∀ a b c, F a b c → G a b c) → Goal) (pf : ∀ a b c, F a b c → G a b c) : Goal := main pf
/-- What the law's last region reads. -/
def HeldT (W0 : World) (q p : Nat) (y0 y1 y2 z0 z1 z2 : Value) (w' : World) : Prop :=
  w'.cell? ⟨q, 0, none⟩ = some y0 ∧ w'.cell? ⟨q, 1, none⟩ = some y1 ∧ w'.cell? ⟨q, 2, none⟩ = some y2 ∧ w'.cell? ⟨p, 0, none⟩ = some z0 ∧ w'.cell? ⟨p, 1, none⟩ = some z1 ∧ w'.cell? ⟨p, 2, none⟩ = some z2 ∧ Below W0.heap.size W0 w'
theorem HeldT.below {W0 wc w2 : World} {q p : Nat} {y0 y1 y2 z0 z1 z2 : Value} (h : HeldT W0 q p y0 y1 y2 z0 z1 z2 wc) (hb : Below wc.heap.size wc w2) (hq : q < W0.heap.size) (hp : p < W0.heap.size) : HeldT W0 q p y0 y1 y2 z0 z1 z2 w2 := by
  obtain ⟨d0, d1, d2, e0, e1, e2, hB⟩ := h
  have hs := hB.size
  have m : ∀ i, w2.cell? ⟨q, i, none⟩ = wc.cell? ⟨q, i, none⟩ := fun i => hb.cell (p := ⟨q, i, none⟩) (Nat.lt_of_lt_of_le hq hs)
  have m' : ∀ i, w2.cell? ⟨p, i, none⟩ = wc.cell? ⟨p, i, none⟩ := fun i => hb.cell (p := ⟨p, i, none⟩) (Nat.lt_of_lt_of_le hp hs)
  exact ⟨(m _).trans d0, (m _).trans d1, (m _).trans d2, (m' _).trans e0, (m' _).trans e1, (m' _).trans e2, hB.trans (hb.mono hs)⟩
theorem HeldT.re {W0 wc : World} {q p : Nat} {y0 y1 y2 z0 z1 z2 vp vo va : Value} {r : Re} (h : HeldT W0 q p y0 y1 y2 z0 z1 z2 wc) (hR : ReS W0 (Bl W0.heap.size) vp vo va r) : ReS wc (Bl wc.heap.size) vp vo va r :=
  hR.below h.2.2.2.2.2.2
theorem HeldT.bl {W0 wc : World} {q p : Nat} {y0 y1 y2 z0 z1 z2 : Value} (h : HeldT W0 q p y0 y1 y2 z0 z1 z2 wc) : Below W0.heap.size W0 wc := h.2.2.2.2.2.2
theorem goodI_in (r : Re) (v f s : Int) (hp : r.plat.length ≤ 1000) : ∀ x ∈ goodI r v f s, I64 x := fun x hx => by
  obtain ⟨y, hy, rfl⟩ := goodTo_mem v f s (pieces r) x hx
  have := pieces_drive r (by omega) y hy
  unfold I64; omega
theorem intI_in (r : Re) (v s : Int) (on : Bool) : ∀ x ∈ intI r v s on, I64 x := fun x hx => by
  unfold intI at hx
  rw [intTo_out r (pieces r) v s on 8 8 (by omega)] at hx
  have := outTo_mem x hx
  unfold I64; omega
set_option maxRecDepth 100000 in
set_option maxHeartbeats 3200000 in
theorem truth_any (HMade : ∀ (vt : Value) (xs : List Int) (w : World) (R : Nat → Prop), IntS w R vt xs → (∀ b, R b → b < w.heap.size) → Calls Try.prog 6 #[vt] w (MadePost w)) (vl vp vo va : Value) (xs : List Int) (raw : Re) (vol frag stripe : Int) (on : Bool) (w : World) (hl : IntS w (Bl w.heap.size) vl xs) (hr : ReS w (Bl w.heap.size) vp vo va raw) (hvol : I64 vol) (hfrag : I64 frag) (hstripe : I64 stripe) :
    Calls Try.prog 3 #[vl, .agg #[vp, vo, va], .int .i64 vol, .int .i64 frag, .int .i64 stripe, .bool on] w fun e w' => e = .returned (.bool true) ∧ Below w.heap.size w w' := by
  have HLI := Lib.hid (fun w1 h1 => light_any vp vo va raw w1 h1)
  have HAW := Lib.hid (fun w1 => awake_any w1)
  have HMD := Lib.hid HMade
  have HI := Lib.hid (show I64 vol ∧ I64 frag ∧ I64 stripe from ⟨hvol, hfrag, hstripe⟩)
  obtain ⟨Al, nl, cl, rfl⟩ := hl.form3
  obtain ⟨W0, hW0⟩ : ∃ W0, W0 = w.alloc (.cells #[vp, vo, va] 27) := ⟨_, rfl⟩
  obtain ⟨q, hq⟩ : ∃ q, q = w.heap.size := ⟨_, rfl⟩
  have c0 : W0.cell? ⟨q, 0, none⟩ = some vp := by rw [hW0, hq]; simp
  have c1 : W0.cell? ⟨q, 1, none⟩ = some vo := by rw [hW0, hq]; simp
  have c2 : W0.cell? ⟨q, 2, none⟩ = some va := by rw [hW0, hq]; simp
  have hb0 : Below w.heap.size w W0 := by rw [hW0]; exact (Below.refl _ _).alloc (Nat.le_refl _) _
  have hq0 : q < W0.heap.size := by rw [hW0, hq]; simp
  have HQ0 := Lib.hid hq0
  have HQ1 := Lib.hid hq
  have HW0 := Lib.hid hW0
  have HB0 := Lib.hid hb0
  have HR0 := Lib.hid (hr.below hb0)
  have HL0 := Lib.hid ((hl.keep (kept_below hb0)).mono (Bl.mono hb0.size))
  clear hl hr hW0 hq hb0 hq0 HMade hvol hfrag hstripe
  go_enter Try.func3, Try.ntmps3
  go_wp2_with fail
  rw [← HW0.out, ← HQ1.out]
  refine (HLI.out _ HR0.out).mono ?_
  rintro e w1 ⟨rfl, hb1⟩
  cases hlb : lightB raw with
  | false =>
    go_wp2_with fail
    refine (HAW.out _).mono ?_
    rintro e w2 ⟨rfl, hb2⟩
    have HBB := Lib.hid ((HB0.out.trans (hb1.mono HB0.out.size)).trans (hb2.mono (Nat.le_trans HB0.out.size hb1.size)))
    clear hb1 hb2 c0 c1 c2
    go_wp2_with fail
    go_ret
    exact ⟨rfl, HBB.out⟩
  | true =>
    have HLB := Lib.hid ((lightB_iff raw).1 hlb)
    clear hlb
    have HL1 := Lib.hid ((HL0.out.keep (kept_below hb1)).mono (Bl.mono hb1.size))
    have HR1 := Lib.hid (HR0.out.below hb1)
    have hb01 := HB0.out.trans (hb1.mono HB0.out.size)
    have HB1 := Lib.hid hb01
    have HQ2 := Lib.hid (Nat.lt_of_lt_of_le HQ0.out hb1.size)
    have e0 : w1.cell? ⟨q, 0, none⟩ = some vp := (hb1.cell (p := ⟨q, 0, none⟩) HQ0.out).trans c0
    have e1 : w1.cell? ⟨q, 1, none⟩ = some vo := (hb1.cell (p := ⟨q, 1, none⟩) HQ0.out).trans c1
    have e2 : w1.cell? ⟨q, 2, none⟩ = some va := (hb1.cell (p := ⟨q, 2, none⟩) HQ0.out).trans c2
    clear hb1 hb01 c0 c1 c2
    go_wp2_with fail
    refine (HMD.out _ xs w1 _ HL1.out (fun b h => h)).mono ?_
    rintro e w2 ⟨fl, fm, fd, fv, fp, fo, F, zp, zo, za, r, gM, n, f, st, rfl, hfs, hok, hre, hmo, hmp, hdo, hgM, hb2⟩
    obtain ⟨Ao, co, hfo, -, hmo6⟩ := SlS.form hfs.2.2.2.2.2
    obtain ⟨A1, c1', hf1, -⟩ := SlS.form hfs.1
    obtain ⟨A2, c2', hf2, -⟩ := SlS.form hfs.2.1
    obtain ⟨A3, c3', hf3, -⟩ := SlS.form hfs.2.2.1
    obtain ⟨A4, c4', hf4, -⟩ := SlS.form hfs.2.2.2.1
    obtain ⟨A5, c5', hf5, -⟩ := SlS.form hfs.2.2.2.2.1
    obtain ⟨B1, d1, hz1, -⟩ := SlS.form hre.1
    obtain ⟨B2, d2, hz2, -⟩ := SlS.form hre.2.1
    obtain ⟨B3, d3, hz3, -⟩ := SlS.form hre.2.2
    subst hf1 hf2 hf3 hf4 hf5 hz1 hz2 hz3
    generalize F.laws.length = n1 at *
    generalize F.models.length = n2 at *
    generalize F.doms.length = n3 at *
    generalize hn4 : F.dves.length = n4 at *
    generalize F.pols.length = n5 at *
    obtain ⟨nv, hnv⟩ : ∃ n, n = F.vols.length := ⟨_, rfl⟩
    rw [← hnv] at hfo
    subst hfo
    have hex : F.ext = 1 ∨ F.ext = 2 := hok.ext
    have hvn : nv ≤ 2 := by rw [hnv]; exact hok.volN
    obtain ⟨EX, hEX⟩ : ∃ e, e = F.ext := ⟨_, rfl⟩
    rw [← hEX] at hex ⊢
    have HRE := Lib.hid (hre.mono Fr.bl)
    have HPL := Lib.hid (show r.plat.length ≤ 9 from by rw [hmo.plat]; have := hok.dveN; omega)
    have HLEN := Lib.hid hmo.len
    have hak : r.acks.length ≤ 1000000 := by
      have h1 := congrArg List.length hmo.keys
      rw [List.length_map] at h1
      have h2 := keysTo_le F.ext.toNat F.vols.length 0 (by have := hok.ext; omega) hok.volN (by omega)
      rw [hmo.acks, List.length_map]; omega
    have HAK := Lib.hid hak
    have HB2 := Lib.hid hb2
    have hQ3 : q < w2.heap.size := Nat.lt_of_lt_of_le HQ2.out hb2.size
    have e0' : w2.cell? ⟨q, 0, none⟩ = some vp := (hb2.cell (p := ⟨q, 0, none⟩) HQ2.out).trans e0
    have e1' : w2.cell? ⟨q, 1, none⟩ = some vo := (hb2.cell (p := ⟨q, 1, none⟩) HQ2.out).trans e1
    have e2' : w2.cell? ⟨q, 2, none⟩ = some va := (hb2.cell (p := ⟨q, 2, none⟩) HQ2.out).trans e2
    clear e0 e1 e2 hfs hok hre hmo hmp hdo hgM hb2 hnv hEX hmo6 hak
    have hEX1 : 1 ≤ EX := by omega
    have hEX2 : EX ≤ 2 := by omega
    clear hex
    go_upto_region 4 with fail
    obtain ⟨g, hg⟩ : ∃ g, g = w2.heap.size := ⟨_, rfl⟩
    rw [← hg]
    obtain ⟨zp, hzp⟩ : ∃ v, v = Value.slice B1 r.plat.length d1 := ⟨_, rfl⟩
    obtain ⟨zo, hzo⟩ : ∃ v, v = Value.slice B2 r.on.length d2 := ⟨_, rfl⟩
    obtain ⟨za, hza⟩ : ∃ v, v = Value.slice B3 r.acks.length d3 := ⟨_, rfl⟩
    rw [← hzp, ← hzo, ← hza] at HRE ⊢
    obtain ⟨W3, hW3⟩ : ∃ x, x = ((w2.alloc (.cells #[.int .i64 EX, .slice A1 n1 c1', .slice A2 n2 c2', .slice A3 n3 c3', .slice A4 n4 c4', .slice A5 n5 c5', .slice Ao nv co] 37)).alloc (.cells #[zp, zo, za] 27)) := ⟨_, rfl⟩
    rw [← hW3]
    have hsz3 : W3.heap.size = g + 1 + 1 := by rw [hW3, hg]; simp
    have hb3 : Below w2.heap.size w2 W3 := by rw [hW3]; exact ((Below.refl _ _).alloc (Nat.le_refl _) _).alloc (by simp) _
    have hbF : W3.heap[g]? = some (.cells #[.int .i64 EX, .slice A1 n1 c1', .slice A2 n2 c2', .slice A3 n3 c3', .slice A4 n4 c4', .slice A5 n5 c5', .slice Ao nv co] 37 (0, 0)) := by
      rw [hW3, hg]; exact (Below.heap_alloc _ _ _ (by simp)).trans (heap_alloc_new w2 _)
    have hbR : W3.heap[g + 1]? = some (.cells #[zp, zo, za] 27 (0, 0)) := by
      have h0 := heap_alloc_new (w2.alloc (.cells #[.int .i64 EX, .slice A1 n1 c1', .slice A2 n2 c2', .slice A3 n3 c3', .slice A4 n4 c4', .slice A5 n5 c5', .slice Ao nv co] 37)) (.cells #[zp, zo, za] 27)
      rw [show (w2.alloc (.cells #[.int .i64 EX, .slice A1 n1 c1', .slice A2 n2 c2', .slice A3 n3 c3', .slice A4 n4 c4', .slice A5 n5 c5', .slice Ao nv co] 37)).heap.size = g + 1 by rw [hg]; simp] at h0
      rw [hW3]; exact h0
    have k0 : W3.cell? ⟨g, 0, none⟩ = some (.int .i64 EX) := by rw [cell_of_row _ _ _ _ _ _ hbF]; rfl
    have k6 : W3.cell? ⟨g, 6, none⟩ = some (.slice Ao nv co) := by rw [cell_of_row _ _ _ _ _ _ hbF]; rfl
    obtain ⟨z0, z1, z2, -⟩ := cells3 hbR
    have q0 : W3.cell? ⟨q, 0, none⟩ = some vp := (hb3.cell (p := ⟨q, 0, none⟩) hQ3).trans e0'
    have q1 : W3.cell? ⟨q, 1, none⟩ = some vo := (hb3.cell (p := ⟨q, 1, none⟩) hQ3).trans e1'
    have q2 : W3.cell? ⟨q, 2, none⟩ = some va := (hb3.cell (p := ⟨q, 2, none⟩) hQ3).trans e2'
    have HZ := Lib.hid (And.intro z0 (And.intro z1 z2))
    have HQC := Lib.hid (And.intro q0 (And.intro q1 q2))
    have HSZ := Lib.hid (show q < W3.heap.size ∧ g + 1 < W3.heap.size from ⟨by omega, by omega⟩)
    have HB3 := Lib.hid (HB1.out.trans ((HB2.out.trans (hb3.mono HB2.out.size)).mono HB1.out.size))
    have HM := Lib.hid (HRE.out.below hb3)
    have HRW := Lib.hid ((HR1.out.below HB2.out).below hb3)
    obtain ⟨hi1, hi2, hi3⟩ := HI.out
    clear hW3 hb3 hbF hbR z0 z1 z2 q0 q1 q2 e0' e1' e2' hQ3 hzp hzo hza hg hsz3
    go_quiet (exact Calls.quiet_of_same ((within_any _ _ _ (by assumption) (by unfold I64; omega)).mono fun _ _ h => ⟨h.1, h.2.symm⟩))
    go_upto_region 5 with fail
    obtain ⟨W4, hW4⟩ : ∃ x, x = W3.drewN nq := ⟨_, rfl⟩
    rw [← hW4]
    have hb4 : Below W3.heap.size W3 W4 := by rw [hW4]; exact Below.drewN' (Below.refl _ _) nq
    obtain ⟨p, hp⟩ : ∃ p, p = g + 1 := ⟨_, rfl⟩
    rw [← hp] at HZ HSZ ⊢
    obtain ⟨v, hv⟩ : ∃ v, v = within vol ((nv : Int) + 1) := ⟨_, rfl⟩
    obtain ⟨i, hi⟩ : ∃ v, v = within frag 8 := ⟨_, rfl⟩
    obtain ⟨s, hs⟩ : ∃ v, v = within stripe (EX + 1) := ⟨_, rfl⟩
    rw [← hv, ← hi, ← hs]
    have hv64 : I64 v := by have := within_range vol ((nv : Int) + 1) (by omega); unfold I64; omega
    have hs64 : I64 s := by have := within_range stripe (EX + 1) (by omega); unfold I64; omega
    obtain ⟨z0, z1, z2⟩ := HZ.out
    obtain ⟨q0, q1, q2⟩ := HQC.out
    have mv : ∀ b o x, b < W3.heap.size → W3.cell? ⟨b, o, none⟩ = some x → W4.cell? ⟨b, o, none⟩ = some x := fun b o x hb hc => (hb4.cell (p := ⟨b, o, none⟩) hb).trans hc
    have HS4 := Lib.hid (show HeldT W4 q p vp vo va zp zo za W4.drew from ⟨mv _ _ _ HSZ.out.1 q0, mv _ _ _ HSZ.out.1 q1, mv _ _ _ HSZ.out.1 q2, mv _ _ _ HSZ.out.2 z0, mv _ _ _ HSZ.out.2 z1, mv _ _ _ HSZ.out.2 z2, (Below.refl _ _).drew⟩)
    have HB4 := Lib.hid (HB3.out.trans (hb4.mono HB3.out.size))
    have HQ4 := Lib.hid (show q < W4.heap.size ∧ p < W4.heap.size from ⟨Nat.lt_of_lt_of_le HSZ.out.1 hb4.size, Nat.lt_of_lt_of_le HSZ.out.2 hb4.size⟩)
    have HM4 := Lib.hid (HM.out.below hb4)
    have HR4 := Lib.hid (HRW.out.below hb4)
    have hp9 : r.plat.length ≤ 1000 := by have := HPL.out; omega
    have hr9 : raw.plat.length ≤ 1000 := by have := HLB.out.1; omega
    have HP1 := Lib.hid (fun W h => good_any zp zo za r v i s W h hp9 HLEN.out HAK.out hv64 hs64)
    have HP2 := Lib.hid (fun W h => refGood_any zp zo za r v i s W h hp9 HLEN.out)
    have HP3 := Lib.hid (fun W h => Intact_any zp zo za r v s on W h hp9 HLEN.out HAK.out hv64 hs64)
    have HP4 := Lib.hid (fun W h => refIntact_any zp zo za r v s on W h hp9 HLEN.out)
    have hrl : ∀ l ∈ raw.plat, l.length ≤ 1000 := fun l h => by have := HLB.out.2.2.2 l h; omega
    have hra : raw.acks.length ≤ 1000000 := by have := HLB.out.2.2.1; omega
    have HP5 := Lib.hid (fun W h => good_any vp vo va raw vol frag stripe W h hr9 hrl hra hi1 hi3)
    have HP6 := Lib.hid (fun W h => refGood_any vp vo va raw vol frag stripe W h hr9 hrl)
    have HP7 := Lib.hid (fun W h => Intact_any vp vo va raw vol stripe on W h hr9 hrl hra hi1 hi3)
    have HP8 := Lib.hid (fun W h => refIntact_any vp vo va raw vol stripe on W h hr9 hrl)
    have HI0 := Lib.hid (goodI_in r v i s hp9)
    have HI1 := Lib.hid (intI_in r v s on)
    have HI2 := Lib.hid (goodI_in raw vol frag stripe hr9)
    have HI3 := Lib.hid (intI_in raw vol stripe on)
    clear hW4 hb4 hp hv hi hs hv64 hs64 z0 z1 z2 q0 q1 q2 mv hp9 hr9 hrl hra hi1 hi2 hi3 k0 k6
    -- R5{
    refine wp_region_held_drew (S := (fun w' => w'.cell? ⟨q, 0, none⟩ = some vp ∧ w'.cell? ⟨q, 1, none⟩ = some vo ∧ w'.cell? ⟨q, 2, none⟩ = some va ∧ w'.cell? ⟨p, 0, none⟩ = some zp ∧ w'.cell? ⟨p, 1, none⟩ = some zo ∧ w'.cell? ⟨p, 2, none⟩ = some za ∧ Below W4.heap.size W4 w')) (by kernel_rfl) HS4.out (fun hHeld => ?_)
    refine wpAnyH_ready (rs := [0]) (by kernel_rfl) (by simp) ?_
    refine AllReadyH.cons rfl (fun K hK => ?_) ?_
    · go_simp
      (go_at_call 5; refine (awake_any _).mono ?_; rintro e w0 ⟨rfl, hb0⟩)
      go_wp2_with fail
      refine hK.out _ _ ?_ (fun hHeld => ?_)
      · exact HeldT.below (by assumption) hb0 HQ4.out.1 HQ4.out.2
      clear hK K
      (try simp only [Act.put, List.setIfInBounds_toArray, List.set_cons_zero, List.set_cons_succ])
      refine takeD (i := 1) (d := 43) (v := ?_) rfl rfl (by kernel_rfl) (by kernel_rfl) (by kernel_rfl) (fun _ _ _ h => h) (Or.inl ⟨by rfl, ?_⟩) (by assumption) ?_
      rotate_left
      · (intro w hSw; (try dsimp only at hSw); go_simp; first | done | with_reducible rfl)
      (try simp only [Act.put, List.setIfInBounds_toArray, List.set_cons_zero, List.set_cons_succ])
      refine takeD (i := 2) (d := 44) (v := ?_) rfl rfl (by kernel_rfl) (by kernel_rfl) (by kernel_rfl) (fun _ _ _ h => h) (Or.inl ⟨by rfl, ?_⟩) (by assumption) ?_
      rotate_left
      · (intro w hSw; (try dsimp only at hSw); go_simp; first | done | with_reducible rfl)
      (try simp only [Act.put, List.setIfInBounds_toArray, List.set_cons_zero, List.set_cons_succ])
      refine takeD (i := 3) (d := 45) (v := ?_) rfl rfl (by kernel_rfl) (by kernel_rfl) (by kernel_rfl) (fun _ _ _ h => h) (Or.inl ⟨by rfl, ?_⟩) (by assumption) ?_
      rotate_left
      · (intro w hSw; (try dsimp only at hSw); go_simp; first | done | with_reducible rfl)
      (try simp only [Act.put, List.setIfInBounds_toArray, List.set_cons_zero, List.set_cons_succ])
      refine takeD (i := 4) (d := 46) (v := ?_) rfl rfl (by kernel_rfl) (by kernel_rfl) (by kernel_rfl) (fun _ _ _ h => h) (Or.inl ⟨by rfl, ?_⟩) (by assumption) ?_
      rotate_left
      · (intro w hSw; (try dsimp only at hSw); go_simp; first | done | with_reducible rfl)
      (try simp only [Act.put, List.setIfInBounds_toArray, List.set_cons_zero, List.set_cons_succ])
      refine takeD (i := 5) (d := 47) (v := ?_) rfl rfl (by kernel_rfl) (by kernel_rfl) (by kernel_rfl) (fun _ _ _ h => h) (Or.inl ⟨by rfl, ?_⟩) (by assumption) ?_
      rotate_left
      · (intro w hSw; (try dsimp only at hSw); go_simp; first | done | with_reducible rfl)
      (try simp only [Act.put, List.setIfInBounds_toArray, List.set_cons_zero, List.set_cons_succ])
      refine takeD (i := 7) (d := 49) (v := ?_) rfl rfl (by kernel_rfl) (by kernel_rfl) (by kernel_rfl) (fun _ _ _ h => h) (Or.inl ⟨by rfl, ?_⟩) (by assumption) ?_
      rotate_left
      · (intro w hSw; (try dsimp only at hSw); go_simp; first | done | with_reducible rfl)
      (try simp only [Act.put, List.setIfInBounds_toArray, List.set_cons_zero, List.set_cons_succ])
      refine takeD (i := 8) (d := 50) (v := ?_) rfl rfl (by kernel_rfl) (by kernel_rfl) (by kernel_rfl) (fun _ _ _ h => h) (Or.inl ⟨by rfl, ?_⟩) (by assumption) ?_
      rotate_left
      · (intro w hSw; (try dsimp only at hSw); go_simp; first | done | with_reducible rfl)
      (try simp only [Act.put, List.setIfInBounds_toArray, List.set_cons_zero, List.set_cons_succ])
      refine takeD (i := 9) (d := 51) (v := ?_) rfl rfl (by kernel_rfl) (by kernel_rfl) (by kernel_rfl) (fun _ _ _ h => h) (Or.inl ⟨by rfl, ?_⟩) (by assumption) ?_
      rotate_left
      · (intro w hSw; (try dsimp only at hSw); go_simp; first | done | with_reducible rfl)
      (try simp only [Act.put, List.setIfInBounds_toArray, List.set_cons_zero, List.set_cons_succ])
      refine takeD (i := 10) (d := 52) (v := ?_) rfl rfl (by kernel_rfl) (by kernel_rfl) (by kernel_rfl) (fun _ _ _ h => h) (Or.inl ⟨by rfl, ?_⟩) (by assumption) ?_
      rotate_left
      · (intro w hSw; (try dsimp only at hSw); go_simp; first | done | with_reducible rfl)
      (try simp only [Act.put, List.setIfInBounds_toArray, List.set_cons_zero, List.set_cons_succ])
      refine wpAnyH_ready (rs := [6]) (by kernel_rfl) (by simp) ?_
      refine AllReadyH.cons rfl (fun K hK => ?_) ?_
      · go_simp
        (go_at_call 9; refine (HP1.out _ (HeldT.re (by assumption) HM4.out)).mono ?_; rintro e w1 ⟨u1, rfl, hO1, hb1⟩)
        go_wp2_with fail
        refine hK.out _ _ ?_ (fun hHeld => ?_)
        · exact HeldT.below (by assumption) hb1 HQ4.out.1 HQ4.out.2
        clear hK K
        (try simp only [Act.put, List.setIfInBounds_toArray, List.set_cons_zero, List.set_cons_succ])
        refine wpAnyH_ready (rs := [11]) (by kernel_rfl) (by simp) ?_
        refine AllReadyH.cons rfl (fun K hK => ?_) ?_
        · go_simp
          (go_at_call 10; refine (HP2.out _ (HeldT.re (by assumption) HM4.out)).mono ?_; rintro e w2 ⟨u2, rfl, hO2, hb2⟩)
          go_wp2_with fail
          refine hK.out _ _ ?_ (fun hHeld => ?_)
          · exact HeldT.below (by assumption) hb2 HQ4.out.1 HQ4.out.2
          clear hK K
          (try simp only [Act.put, List.setIfInBounds_toArray, List.set_cons_zero, List.set_cons_succ])
          have hx := (hO1.below hb2).intS HI0.out
          have hy := hO2.intS HI0.out
          clear hO1 hO2 hb1 hb2
          refine wpAnyH_ready (rs := [12]) (by kernel_rfl) (by simp) ?_
          refine AllReadyH.cons rfl (fun K hK => ?_) ?_
          · go_simp
            (go_at_call 8; refine (sameints_any _ _ _ _ _ _ hx hy).mono ?_; rintro e w3 ⟨rfl, k3, rfl⟩)
            go_wp2_with fail
            refine hK.out _ _ ?_ (fun hHeld => ?_)
            · exact HeldT.below (by assumption) (Below.drewN' (Below.refl _ _) k3) HQ4.out.1 HQ4.out.2
            clear hK K
            (try simp only [Act.put, List.setIfInBounds_toArray, List.set_cons_zero, List.set_cons_succ])
            clear hx hy
            refine takeD (i := 13) (d := 55) (v := ?_) rfl rfl (by kernel_rfl) (by kernel_rfl) (by kernel_rfl) (fun _ _ _ h => h) (Or.inl ⟨by rfl, ?_⟩) (by assumption) ?_
            rotate_left
            · (intro w hSw; (try dsimp only at hSw); go_simp; first | done | with_reducible rfl)
            (try simp only [Act.put, List.setIfInBounds_toArray, List.set_cons_zero, List.set_cons_succ])
            refine takeD (i := 14) (d := 56) (v := ?_) rfl rfl (by kernel_rfl) (by kernel_rfl) (by kernel_rfl) (fun _ _ _ h => h) (Or.inl ⟨by rfl, ?_⟩) (by assumption) ?_
            rotate_left
            · (intro w hSw; (try dsimp only at hSw); go_simp; first | done | with_reducible rfl)
            (try simp only [Act.put, List.setIfInBounds_toArray, List.set_cons_zero, List.set_cons_succ])
            refine takeD (i := 15) (d := 57) (v := ?_) rfl rfl (by kernel_rfl) (by kernel_rfl) (by kernel_rfl) (fun _ _ _ h => h) (Or.inl ⟨by rfl, ?_⟩) (by assumption) ?_
            rotate_left
            · (intro w hSw; (try dsimp only at hSw); go_simp; first | done | with_reducible rfl)
            (try simp only [Act.put, List.setIfInBounds_toArray, List.set_cons_zero, List.set_cons_succ])
            refine takeD (i := 16) (d := 58) (v := ?_) rfl rfl (by kernel_rfl) (by kernel_rfl) (by kernel_rfl) (fun _ _ _ h => h) (Or.inl ⟨by rfl, ?_⟩) (by assumption) ?_
            rotate_left
            · (intro w hSw; (try dsimp only at hSw); go_simp; first | done | with_reducible rfl)
            (try simp only [Act.put, List.setIfInBounds_toArray, List.set_cons_zero, List.set_cons_succ])
            refine takeD (i := 17) (d := 59) (v := ?_) rfl rfl (by kernel_rfl) (by kernel_rfl) (by kernel_rfl) (fun _ _ _ h => h) (Or.inl ⟨by rfl, ?_⟩) (by assumption) ?_
            rotate_left
            · (intro w hSw; (try dsimp only at hSw); go_simp; first | done | with_reducible rfl)
            (try simp only [Act.put, List.setIfInBounds_toArray, List.set_cons_zero, List.set_cons_succ])
            refine takeD (i := 18) (d := 60) (v := ?_) rfl rfl (by kernel_rfl) (by kernel_rfl) (by kernel_rfl) (fun _ _ _ h => h) (Or.inl ⟨by rfl, ?_⟩) (by assumption) ?_
            rotate_left
            · (intro w hSw; (try dsimp only at hSw); go_simp; first | done | with_reducible rfl)
            (try simp only [Act.put, List.setIfInBounds_toArray, List.set_cons_zero, List.set_cons_succ])
            refine takeD (i := 20) (d := 62) (v := ?_) rfl rfl (by kernel_rfl) (by kernel_rfl) (by kernel_rfl) (fun _ _ _ h => h) (Or.inl ⟨by rfl, ?_⟩) (by assumption) ?_
            rotate_left
            · (intro w hSw; (try dsimp only at hSw); go_simp; first | done | with_reducible rfl)
            (try simp only [Act.put, List.setIfInBounds_toArray, List.set_cons_zero, List.set_cons_succ])
            refine takeD (i := 21) (d := 63) (v := ?_) rfl rfl (by kernel_rfl) (by kernel_rfl) (by kernel_rfl) (fun _ _ _ h => h) (Or.inl ⟨by rfl, ?_⟩) (by assumption) ?_
            rotate_left
            · (intro w hSw; (try dsimp only at hSw); go_simp; first | done | with_reducible rfl)
            (try simp only [Act.put, List.setIfInBounds_toArray, List.set_cons_zero, List.set_cons_succ])
            refine takeD (i := 22) (d := 64) (v := ?_) rfl rfl (by kernel_rfl) (by kernel_rfl) (by kernel_rfl) (fun _ _ _ h => h) (Or.inl ⟨by rfl, ?_⟩) (by assumption) ?_
            rotate_left
            · (intro w hSw; (try dsimp only at hSw); go_simp; first | done | with_reducible rfl)
            (try simp only [Act.put, List.setIfInBounds_toArray, List.set_cons_zero, List.set_cons_succ])
            refine takeD (i := 23) (d := 65) (v := ?_) rfl rfl (by kernel_rfl) (by kernel_rfl) (by kernel_rfl) (fun _ _ _ h => h) (Or.inl ⟨by rfl, ?_⟩) (by assumption) ?_
            rotate_left
            · (intro w hSw; (try dsimp only at hSw); go_simp; first | done | with_reducible rfl)
            (try simp only [Act.put, List.setIfInBounds_toArray, List.set_cons_zero, List.set_cons_succ])
            refine wpAnyH_ready (rs := [19]) (by kernel_rfl) (by simp) ?_
            refine AllReadyH.cons rfl (fun K hK => ?_) ?_
            · go_simp
              (go_at_call 11; refine (HP3.out _ (HeldT.re (by assumption) HM4.out)).mono ?_; rintro e w1 ⟨u1, rfl, hO1, hb1⟩)
              go_wp2_with fail
              refine hK.out _ _ ?_ (fun hHeld => ?_)
              · exact HeldT.below (by assumption) hb1 HQ4.out.1 HQ4.out.2
              clear hK K
              (try simp only [Act.put, List.setIfInBounds_toArray, List.set_cons_zero, List.set_cons_succ])
              refine wpAnyH_ready (rs := [24]) (by kernel_rfl) (by simp) ?_
              refine AllReadyH.cons rfl (fun K hK => ?_) ?_
              · go_simp
                (go_at_call 12; refine (HP4.out _ (HeldT.re (by assumption) HM4.out)).mono ?_; rintro e w2 ⟨u2, rfl, hO2, hb2⟩)
                go_wp2_with fail
                refine hK.out _ _ ?_ (fun hHeld => ?_)
                · exact HeldT.below (by assumption) hb2 HQ4.out.1 HQ4.out.2
                clear hK K
                (try simp only [Act.put, List.setIfInBounds_toArray, List.set_cons_zero, List.set_cons_succ])
                have hx := (hO1.below hb2).intS HI1.out
                have hy := hO2.intS HI1.out
                clear hO1 hO2 hb1 hb2
                refine wpAnyH_ready (rs := [25]) (by kernel_rfl) (by simp) ?_
                refine AllReadyH.cons rfl (fun K hK => ?_) ?_
                · go_simp
                  (go_at_call 8; refine (sameints_any _ _ _ _ _ _ hx hy).mono ?_; rintro e w3 ⟨rfl, k3, rfl⟩)
                  go_wp2_with fail
                  refine hK.out _ _ ?_ (fun hHeld => ?_)
                  · exact HeldT.below (by assumption) (Below.drewN' (Below.refl _ _) k3) HQ4.out.1 HQ4.out.2
                  clear hK K
                  (try simp only [Act.put, List.setIfInBounds_toArray, List.set_cons_zero, List.set_cons_succ])
                  clear hx hy
                  refine takeD (i := 26) (d := 68) (v := ?_) rfl rfl (by kernel_rfl) (by kernel_rfl) (by kernel_rfl) (fun _ _ _ h => h) (Or.inl ⟨by rfl, ?_⟩) (by assumption) ?_
                  rotate_left
                  · (intro w hSw; (try dsimp only at hSw); go_simp; first | done | with_reducible rfl)
                  (try simp only [Act.put, List.setIfInBounds_toArray, List.set_cons_zero, List.set_cons_succ])
                  refine takeD (i := 27) (d := 69) (v := ?_) rfl rfl (by kernel_rfl) (by kernel_rfl) (by kernel_rfl) (fun _ _ _ h => h) (Or.inl ⟨by rfl, ?_⟩) (by assumption) ?_
                  rotate_left
                  · (intro w hSw; (try dsimp only at hSw); go_simp; first | done | with_reducible rfl)
                  (try simp only [Act.put, List.setIfInBounds_toArray, List.set_cons_zero, List.set_cons_succ])
                  refine takeD (i := 28) (d := 70) (v := ?_) rfl rfl (by kernel_rfl) (by kernel_rfl) (by kernel_rfl) (fun _ _ _ h => h) (Or.inl ⟨by rfl, ?_⟩) (by assumption) ?_
                  rotate_left
                  · (intro w hSw; (try dsimp only at hSw); go_simp; first | done | with_reducible rfl)
                  (try simp only [Act.put, List.setIfInBounds_toArray, List.set_cons_zero, List.set_cons_succ])
                  refine takeD (i := 29) (d := 71) (v := ?_) rfl rfl (by kernel_rfl) (by kernel_rfl) (by kernel_rfl) (fun _ _ _ h => h) (Or.inl ⟨by rfl, ?_⟩) (by assumption) ?_
                  rotate_left
                  · (intro w hSw; (try dsimp only at hSw); go_simp; first | done | with_reducible rfl)
                  (try simp only [Act.put, List.setIfInBounds_toArray, List.set_cons_zero, List.set_cons_succ])
                  refine takeD (i := 30) (d := 72) (v := ?_) rfl rfl (by kernel_rfl) (by kernel_rfl) (by kernel_rfl) (fun _ _ _ h => h) (Or.inl ⟨by rfl, ?_⟩) (by assumption) ?_
                  rotate_left
                  · (intro w hSw; (try dsimp only at hSw); go_simp; first | done | with_reducible rfl)
                  (try simp only [Act.put, List.setIfInBounds_toArray, List.set_cons_zero, List.set_cons_succ])
                  refine takeD (i := 31) (d := 73) (v := ?_) rfl rfl (by kernel_rfl) (by kernel_rfl) (by kernel_rfl) (fun _ _ _ h => h) (Or.inl ⟨by rfl, ?_⟩) (by assumption) ?_
                  rotate_left
                  · (intro w hSw; (try dsimp only at hSw); go_simp; first | done | with_reducible rfl)
                  (try simp only [Act.put, List.setIfInBounds_toArray, List.set_cons_zero, List.set_cons_succ])
                  refine takeD (i := 33) (d := 75) (v := ?_) rfl rfl (by kernel_rfl) (by kernel_rfl) (by kernel_rfl) (fun _ _ _ h => h) (Or.inl ⟨by rfl, ?_⟩) (by assumption) ?_
                  rotate_left
                  · (intro w hSw; (try dsimp only at hSw); go_simp; first | done | with_reducible rfl)
                  (try simp only [Act.put, List.setIfInBounds_toArray, List.set_cons_zero, List.set_cons_succ])
                  refine takeD (i := 34) (d := 76) (v := ?_) rfl rfl (by kernel_rfl) (by kernel_rfl) (by kernel_rfl) (fun _ _ _ h => h) (Or.inl ⟨by rfl, ?_⟩) (by assumption) ?_
                  rotate_left
                  · (intro w hSw; (try dsimp only at hSw); go_simp; first | done | with_reducible rfl)
                  (try simp only [Act.put, List.setIfInBounds_toArray, List.set_cons_zero, List.set_cons_succ])
                  refine takeD (i := 35) (d := 77) (v := ?_) rfl rfl (by kernel_rfl) (by kernel_rfl) (by kernel_rfl) (fun _ _ _ h => h) (Or.inl ⟨by rfl, ?_⟩) (by assumption) ?_
                  rotate_left
                  · (intro w hSw; (try dsimp only at hSw); go_simp; first | done | with_reducible rfl)
                  (try simp only [Act.put, List.setIfInBounds_toArray, List.set_cons_zero, List.set_cons_succ])
                  refine takeD (i := 36) (d := 78) (v := ?_) rfl rfl (by kernel_rfl) (by kernel_rfl) (by kernel_rfl) (fun _ _ _ h => h) (Or.inl ⟨by rfl, ?_⟩) (by assumption) ?_
                  rotate_left
                  · (intro w hSw; (try dsimp only at hSw); go_simp; first | done | with_reducible rfl)
                  (try simp only [Act.put, List.setIfInBounds_toArray, List.set_cons_zero, List.set_cons_succ])
                  refine wpAnyH_ready (rs := [32]) (by kernel_rfl) (by simp) ?_
                  refine AllReadyH.cons rfl (fun K hK => ?_) ?_
                  · go_simp
                    (go_at_call 9; refine (HP5.out _ (HeldT.re (by assumption) HR4.out)).mono ?_; rintro e w1 ⟨u1, rfl, hO1, hb1⟩)
                    go_wp2_with fail
                    refine hK.out _ _ ?_ (fun hHeld => ?_)
                    · exact HeldT.below (by assumption) hb1 HQ4.out.1 HQ4.out.2
                    clear hK K
                    (try simp only [Act.put, List.setIfInBounds_toArray, List.set_cons_zero, List.set_cons_succ])
                    refine wpAnyH_ready (rs := [37]) (by kernel_rfl) (by simp) ?_
                    refine AllReadyH.cons rfl (fun K hK => ?_) ?_
                    · go_simp
                      (go_at_call 10; refine (HP6.out _ (HeldT.re (by assumption) HR4.out)).mono ?_; rintro e w2 ⟨u2, rfl, hO2, hb2⟩)
                      go_wp2_with fail
                      refine hK.out _ _ ?_ (fun hHeld => ?_)
                      · exact HeldT.below (by assumption) hb2 HQ4.out.1 HQ4.out.2
                      clear hK K
                      (try simp only [Act.put, List.setIfInBounds_toArray, List.set_cons_zero, List.set_cons_succ])
                      have hx := (hO1.below hb2).intS HI2.out
                      have hy := hO2.intS HI2.out
                      clear hO1 hO2 hb1 hb2
                      refine wpAnyH_ready (rs := [38]) (by kernel_rfl) (by simp) ?_
                      refine AllReadyH.cons rfl (fun K hK => ?_) ?_
                      · go_simp
                        (go_at_call 8; refine (sameints_any _ _ _ _ _ _ hx hy).mono ?_; rintro e w3 ⟨rfl, k3, rfl⟩)
                        go_wp2_with fail
                        refine hK.out _ _ ?_ (fun hHeld => ?_)
                        · exact HeldT.below (by assumption) (Below.drewN' (Below.refl _ _) k3) HQ4.out.1 HQ4.out.2
                        clear hK K
                        (try simp only [Act.put, List.setIfInBounds_toArray, List.set_cons_zero, List.set_cons_succ])
                        clear hx hy
                        refine takeD (i := 39) (d := 81) (v := ?_) rfl rfl (by kernel_rfl) (by kernel_rfl) (by kernel_rfl) (fun _ _ _ h => h) (Or.inl ⟨by rfl, ?_⟩) (by assumption) ?_
                        rotate_left
                        · (intro w hSw; (try dsimp only at hSw); go_simp; first | done | with_reducible rfl)
                        (try simp only [Act.put, List.setIfInBounds_toArray, List.set_cons_zero, List.set_cons_succ])
                        refine takeD (i := 40) (d := 82) (v := ?_) rfl rfl (by kernel_rfl) (by kernel_rfl) (by kernel_rfl) (fun _ _ _ h => h) (Or.inl ⟨by rfl, ?_⟩) (by assumption) ?_
                        rotate_left
                        · (intro w hSw; (try dsimp only at hSw); go_simp; first | done | with_reducible rfl)
                        (try simp only [Act.put, List.setIfInBounds_toArray, List.set_cons_zero, List.set_cons_succ])
                        refine takeD (i := 41) (d := 83) (v := ?_) rfl rfl (by kernel_rfl) (by kernel_rfl) (by kernel_rfl) (fun _ _ _ h => h) (Or.inl ⟨by rfl, ?_⟩) (by assumption) ?_
                        rotate_left
                        · (intro w hSw; (try dsimp only at hSw); go_simp; first | done | with_reducible rfl)
                        (try simp only [Act.put, List.setIfInBounds_toArray, List.set_cons_zero, List.set_cons_succ])
                        refine takeD (i := 42) (d := 84) (v := ?_) rfl rfl (by kernel_rfl) (by kernel_rfl) (by kernel_rfl) (fun _ _ _ h => h) (Or.inl ⟨by rfl, ?_⟩) (by assumption) ?_
                        rotate_left
                        · (intro w hSw; (try dsimp only at hSw); go_simp; first | done | with_reducible rfl)
                        (try simp only [Act.put, List.setIfInBounds_toArray, List.set_cons_zero, List.set_cons_succ])
                        refine takeD (i := 43) (d := 85) (v := ?_) rfl rfl (by kernel_rfl) (by kernel_rfl) (by kernel_rfl) (fun _ _ _ h => h) (Or.inl ⟨by rfl, ?_⟩) (by assumption) ?_
                        rotate_left
                        · (intro w hSw; (try dsimp only at hSw); go_simp; first | done | with_reducible rfl)
                        (try simp only [Act.put, List.setIfInBounds_toArray, List.set_cons_zero, List.set_cons_succ])
                        refine takeD (i := 44) (d := 86) (v := ?_) rfl rfl (by kernel_rfl) (by kernel_rfl) (by kernel_rfl) (fun _ _ _ h => h) (Or.inl ⟨by rfl, ?_⟩) (by assumption) ?_
                        rotate_left
                        · (intro w hSw; (try dsimp only at hSw); go_simp; first | done | with_reducible rfl)
                        (try simp only [Act.put, List.setIfInBounds_toArray, List.set_cons_zero, List.set_cons_succ])
                        refine takeD (i := 46) (d := 88) (v := ?_) rfl rfl (by kernel_rfl) (by kernel_rfl) (by kernel_rfl) (fun _ _ _ h => h) (Or.inl ⟨by rfl, ?_⟩) (by assumption) ?_
                        rotate_left
                        · (intro w hSw; (try dsimp only at hSw); go_simp; first | done | with_reducible rfl)
                        (try simp only [Act.put, List.setIfInBounds_toArray, List.set_cons_zero, List.set_cons_succ])
                        refine takeD (i := 47) (d := 89) (v := ?_) rfl rfl (by kernel_rfl) (by kernel_rfl) (by kernel_rfl) (fun _ _ _ h => h) (Or.inl ⟨by rfl, ?_⟩) (by assumption) ?_
                        rotate_left
                        · (intro w hSw; (try dsimp only at hSw); go_simp; first | done | with_reducible rfl)
                        (try simp only [Act.put, List.setIfInBounds_toArray, List.set_cons_zero, List.set_cons_succ])
                        refine takeD (i := 48) (d := 90) (v := ?_) rfl rfl (by kernel_rfl) (by kernel_rfl) (by kernel_rfl) (fun _ _ _ h => h) (Or.inl ⟨by rfl, ?_⟩) (by assumption) ?_
                        rotate_left
                        · (intro w hSw; (try dsimp only at hSw); go_simp; first | done | with_reducible rfl)
                        (try simp only [Act.put, List.setIfInBounds_toArray, List.set_cons_zero, List.set_cons_succ])
                        refine takeD (i := 49) (d := 91) (v := ?_) rfl rfl (by kernel_rfl) (by kernel_rfl) (by kernel_rfl) (fun _ _ _ h => h) (Or.inl ⟨by rfl, ?_⟩) (by assumption) ?_
                        rotate_left
                        · (intro w hSw; (try dsimp only at hSw); go_simp; first | done | with_reducible rfl)
                        (try simp only [Act.put, List.setIfInBounds_toArray, List.set_cons_zero, List.set_cons_succ])
                        refine wpAnyH_ready (rs := [45]) (by kernel_rfl) (by simp) ?_
                        refine AllReadyH.cons rfl (fun K hK => ?_) ?_
                        · go_simp
                          (go_at_call 11; refine (HP7.out _ (HeldT.re (by assumption) HR4.out)).mono ?_; rintro e w1 ⟨u1, rfl, hO1, hb1⟩)
                          go_wp2_with fail
                          refine hK.out _ _ ?_ (fun hHeld => ?_)
                          · exact HeldT.below (by assumption) hb1 HQ4.out.1 HQ4.out.2
                          clear hK K
                          (try simp only [Act.put, List.setIfInBounds_toArray, List.set_cons_zero, List.set_cons_succ])
                          refine wpAnyH_ready (rs := [50]) (by kernel_rfl) (by simp) ?_
                          refine AllReadyH.cons rfl (fun K hK => ?_) ?_
                          · go_simp
                            (go_at_call 12; refine (HP8.out _ (HeldT.re (by assumption) HR4.out)).mono ?_; rintro e w2 ⟨u2, rfl, hO2, hb2⟩)
                            go_wp2_with fail
                            refine hK.out _ _ ?_ (fun hHeld => ?_)
                            · exact HeldT.below (by assumption) hb2 HQ4.out.1 HQ4.out.2
                            clear hK K
                            (try simp only [Act.put, List.setIfInBounds_toArray, List.set_cons_zero, List.set_cons_succ])
                            have hx := (hO1.below hb2).intS HI3.out
                            have hy := hO2.intS HI3.out
                            clear hO1 hO2 hb1 hb2
                            refine wpAnyH_ready (rs := [51]) (by kernel_rfl) (by simp) ?_
                            refine AllReadyH.cons rfl (fun K hK => ?_) ?_
                            · go_simp
                              (go_at_call 8; refine (sameints_any _ _ _ _ _ _ hx hy).mono ?_; rintro e w3 ⟨rfl, k3, rfl⟩)
                              go_wp2_with fail
                              refine hK.out _ _ ?_ (fun hHeld => ?_)
                              · exact HeldT.below (by assumption) (Below.drewN' (Below.refl _ _) k3) HQ4.out.1 HQ4.out.2
                              clear hK K
                              (try simp only [Act.put, List.setIfInBounds_toArray, List.set_cons_zero, List.set_cons_succ])
                              clear hx hy
                              refine takeD (i := 52) (d := 94) (v := ?_) rfl rfl (by kernel_rfl) (by kernel_rfl) (by kernel_rfl) (fun _ _ _ h => h) (Or.inl ⟨by rfl, ?_⟩) (by assumption) ?_
                              rotate_left
                              · (intro w hSw; (try dsimp only at hSw); go_simp; first | done | with_reducible rfl)
                              (try simp only [Act.put, List.setIfInBounds_toArray, List.set_cons_zero, List.set_cons_succ])
                              refine takeD (i := 53) (d := 12) (v := ?_) rfl rfl (by kernel_rfl) (by kernel_rfl) (by kernel_rfl) (fun _ _ _ h => h) (Or.inl ⟨by rfl, ?_⟩) (by assumption) ?_
                              rotate_left
                              · (intro w hSw; (try dsimp only at hSw); go_simp; first | done | with_reducible rfl)
                              (try simp only [Act.put, List.setIfInBounds_toArray, List.set_cons_zero, List.set_cons_succ])
                              refine wpAnyH_done (by kernel_rfl) ?_ _
                              have hbz := HeldT.bl (q := q) (p := p) (by assumption)
                              go_wp2_with fail
                              go_ret
                              exact ⟨rfl, HB4.out.trans (hbz.mono HB4.out.size)⟩
                            exact AllReadyH.nil
                          exact AllReadyH.nil
                        exact AllReadyH.nil
                      exact AllReadyH.nil
                    exact AllReadyH.nil
                  exact AllReadyH.nil
                exact AllReadyH.nil
              exact AllReadyH.nil
            exact AllReadyH.nil
          exact AllReadyH.nil
        exact AllReadyH.nil
      exact AllReadyH.nil
    exact AllReadyH.nil
    -- }R5
end Go.Proofs.Ytflembddbbkojaa
