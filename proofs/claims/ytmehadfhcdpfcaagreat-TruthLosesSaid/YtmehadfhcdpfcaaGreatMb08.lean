/- The reference's source, walked. -/
import Derived.Test.YtmehadfhcdpfcaaGreatMb07
namespace Go.Proofs.YtmehadfhcdpfcaaGreat
open Go.RowKit
set_option linter.unusedVariables false
set_option linter.unusedSimpArgs false
def HeldS (W0 : World) (b p q : Nat) (x0 x1 x2 x3 x4 x5 x6 y0 y1 y2 : Value) (w' : World) : Prop :=
 w'.cell? ⟨b, p, none⟩ = some x0 ∧ w'.cell? ⟨b, p + 1, none⟩ = some x1 ∧ w'.cell? ⟨b, p + 2, none⟩ = some x2 ∧ w'.cell? ⟨b, p + 3, none⟩ = some x3 ∧ w'.cell? ⟨b, p + 4, none⟩ = some x4 ∧ w'.cell? ⟨b, p + 5, none⟩ = some x5 ∧ w'.cell? ⟨b, p + 6, none⟩ = some x6 ∧
 w'.cell? ⟨q, 0, none⟩ = some y0 ∧ w'.cell? ⟨q, 1, none⟩ = some y1 ∧ w'.cell? ⟨q, 2, none⟩ = some y2 ∧ Below W0.heap.size W0 w'
theorem HeldS.below {W0 wc w2 : World} {b p q : Nat} {x0 x1 x2 x3 x4 x5 x6 y0 y1 y2 : Value} (h : HeldS W0 b p q x0 x1 x2 x3 x4 x5 x6 y0 y1 y2 wc) (hb : Below wc.heap.size wc w2) (h1 : b < W0.heap.size) (h2 : q < W0.heap.size) : HeldS W0 b p q x0 x1 x2 x3 x4 x5 x6 y0 y1 y2 w2 := by
 obtain ⟨c0, c1, c2, c3, c4, c5, c6, d0, d1, d2, hB⟩ := h
 have hs := hB.size
 have k : ∀ i, w2.cell? ⟨b, i, none⟩ = wc.cell? ⟨b, i, none⟩ := fun i => hb.cell (p := ⟨b, i, none⟩) (Nat.lt_of_lt_of_le h1 hs)
 have m : ∀ i, w2.cell? ⟨q, i, none⟩ = wc.cell? ⟨q, i, none⟩ := fun i => hb.cell (p := ⟨q, i, none⟩) (Nat.lt_of_lt_of_le h2 hs)
 exact ⟨(k _).trans c0, (k _).trans c1, (k _).trans c2, (k _).trans c3, (k _).trans c4, (k _).trans c5, (k _).trans c6, (m _).trans d0, (m _).trans d1, (m _).trans d2, hB.trans (hb.mono hs)⟩
theorem HeldS.re {w W0 wc : World} {b p q : Nat} {x0 x1 x2 x3 x4 x5 x6 y0 y1 y2 vp vo va : Value} {r : Re} (h : HeldS W0 b p q x0 x1 x2 x3 x4 x5 x6 y0 y1 y2 wc) (hR : ReS w (Bl w.heap.size) vp vo va r) (hb : Below w.heap.size w W0) : ReS wc (Bl wc.heap.size) vp vo va r := by
 obtain ⟨c0, c1, c2, c3, c4, c5, c6, d0, d1, d2, hB⟩ := h
 exact hR.below (hb.trans (hB.mono hb.size))
theorem HeldS.bl {W0 wc : World} {b p q : Nat} {x0 x1 x2 x3 x4 x5 x6 y0 y1 y2 : Value} (h : HeldS W0 b p q x0 x1 x2 x3 x4 x5 x6 y0 y1 y2 wc) : Below W0.heap.size W0 wc := by
 obtain ⟨c0, c1, c2, c3, c4, c5, c6, d0, d1, d2, hB⟩ := h
 exact hB
theorem takeD {P : Program} {ops : Array Oper} {Q : Exit → Act → World → Prop} {md : Region.Mode} {S : World → Prop} {i d : Nat} {oi : Oper} {v : Value} {fuel : Nat} {listed : Array Bool} {a : Act} {w : World} (hi : ops[i]? = some oi) (hd : oi.dst = some d)
  (hs : Region.noSelect ops = true) (hf : Region.free md ops listed i = true) (hr : (Region.ready md ops listed).contains i = true)
  (hQ : ∀ c a w, Q (.panic c) (a.put (some d) v) w → Q (.panic c) a w) (hy : YieldsIf P ops S oi v a) (hS : S w)
  (h : wpAnyH P md ops Q S fuel (listed.setIfInBounds i true) (a.put (some d) v) w) : wpAnyH P md ops Q S (fuel + 1) listed a w :=
 wpAnyH_take hi hs hf hr (by rw [hd]; exact hQ) hy hS (by rw [hd]; exact h)
set_option maxRecDepth 100000 in
set_option maxHeartbeats 3200000 in
theorem source_any (vp vo va vl : Value) (r : Re) (l : List Fd) (v f s : Int) (on : Bool) (w : World) (h : ReS w (Bl w.heap.size) vp vo va r) (hl : SlS 7 FdK w (Bl w.heap.size) vl l) :
  Calls Tryz.prog 79 #[.agg #[vp, vo, va], vl, .int .i64 v, .int .i64 f, .int .i64 s, .bool on] w fun e w' => e = .returned (.int .i64 (srcI r l v f s on)) ∧ Below w.heap.size w w' := by
 obtain ⟨Al, cl, rfl, -, hm⟩ := hl.form
 unfold maxLen at hm
 have HR := Lib.hid h
 have HL := Lib.hid hl
 obtain ⟨W0, hW0⟩ : ∃ W0, W0 = w.alloc (.cells #[vp, vo, va] 27) := ⟨_, rfl⟩
 obtain ⟨q, hq⟩ : ∃ q, q = w.heap.size := ⟨_, rfl⟩
 have c0 : W0.cell? ⟨q, 0, none⟩ = some vp := by rw [hW0, hq]; simp
 have c1 : W0.cell? ⟨q, 1, none⟩ = some vo := by rw [hW0, hq]; simp
 have c2 : W0.cell? ⟨q, 2, none⟩ = some va := by rw [hW0, hq]; simp
 have hb0 : Below w.heap.size w W0 := by rw [hW0]; exact (Below.refl _ _).alloc (Nat.le_refl _) _
 have hq0 : q < W0.heap.size := by rw [hW0, hq]; simp
 have HQ := Lib.hid hq
 have HW0 := Lib.hid hW0
 have HB0 := Lib.hid hb0
 have HC := Lib.hid (⟨c0, c1, c2⟩ : _ ∧ _ ∧ _)
 clear h hl hW0 hq hb0 c0 c1 c2
 go_enter Tryz.func79, Tryz.ntmps79
 go_wp2_with fail
 rw [← HW0.out, ← HQ.out]
 go_loopg [13] l.length (fun z v13 wr => ∃ j : Nat, j ≤ l.length ∧ z = l.length - j ∧ v13 = .int .i64 (j : Int) ∧ Hid (∀ i (h : i < l.length), i < j → srcB r v f s on l[i] = false) ∧ Below W0.heap.size W0 wr)
 case atStart => exact ⟨0, by omega, rfl, rfl, (fun i _ h => by omega), Below.refl _ _⟩
 case round =>
  obtain ⟨j, hj, rfl, rfl, HN, hbr⟩ := hrel
  have hbw := HB0.out.trans (hbr.mono HB0.out.size)
  by_cases hlt : j < l.length
  ·obtain ⟨b, off, cs, rfl, hRb, -, hcs, hfk, hdr⟩ := HL.out.at_ hlt
   obtain ⟨k0, k1, k2, k3, k4, k5, k6⟩ := seven hcs hfk
   have hit := fun hb => srcI_hit (r := r) (l := l) (v := v) (f := f) (s := s) (on := on) HN.out hlt hb
   have HIT := Lib.hid hit
   obtain ⟨x, hx⟩ : ∃ x, x = l[j] := ⟨_, rfl⟩
   rw [← hx] at k0 k1 k2 k3 k4 k5 k6 hdr HIT
   have HXX := Lib.hid hx
   have hnext : srcB r v f s on x = false → ∀ i (h : i < l.length), i < j + 1 → srcB r v f s on l[i] = false := fun hb i h1 h2 => by
    by_cases e : i = j
    ·subst e; rw [← HXX.out]; exact hb
    ·exact HN.out i h1 (by omega)
   have HNX := Lib.hid hnext
   have HIS := Lib.hid (fun w => is_any x.p v f s w)
   have HON := Lib.hid (fun (w' : World) hR => on_any vp vo va r x.drive w' hR hdr)
   have hbl : b < W0.heap.size := Nat.lt_of_lt_of_le hRb HB0.out.size
   have kk : ∀ i u, w.cell? ⟨b, i, none⟩ = some u → wr.cell? ⟨b, i, none⟩ = some u := fun i u e => (hbw.cell (p := ⟨b, i, none⟩) hRb).trans e
   have mm : ∀ i u, W0.cell? ⟨q, i, none⟩ = some u → wr.cell? ⟨q, i, none⟩ = some u := fun i u e => (hbr.cell (p := ⟨q, i, none⟩) hq0).trans e
   obtain ⟨dr, ⟨pa, pb, pc, pg, pr, px⟩⟩ := x
   unfold PcV at HIS
   simp only at k0 k1 k2 k3 k4 k5 k6 HIS HON
   have hS0 : HeldS W0 b (off + j * 7) q _ _ _ _ _ _ _ _ _ _ wr.drew := ⟨kk _ _ k0, kk _ _ k1, kk _ _ k2, kk _ _ k3, kk _ _ k4, kk _ _ k5, kk _ _ k6, mm _ _ HC.out.1, mm _ _ HC.out.2.1, mm _ _ HC.out.2.2, hbr.drew⟩
   obtain ⟨y, hy⟩ : ∃ y : ByteArray, y = ⟨px.toArray⟩ := ⟨_, rfl⟩
   rw [← hy] at hS0 HIS
   have HS0 := Lib.hid hS0
   have j0 : (0 : Int) ≤ (j : Int) := by omega
   have j1 : (j : Int) < (l.length : Int) := by omega
   clear k0 k1 k2 k3 k4 k5 k6 hcs hfk hx hit hnext hS0 hy kk mm hdr cs
   cases hi : isB ⟨pa, pb, pc, pg, pr, px⟩ v f s with
   | false =>
    have hsb : srcB r v f s on ⟨dr, ⟨pa, pb, pc, pg, pr, px⟩⟩ = false := by unfold srcB; rw [hi]; rfl
    have HN2 := Lib.hid (HNX.out hsb)
    rw [hi] at HIS
    clear hi hsb
    go_upto_region 4 with fail
    refine wp_region_held_drew (S := (fun w' => w'.cell? ⟨b, off + j * 7, none⟩ = some (.int .i64 (dr : Int)) ∧ w'.cell? ⟨b, off + j * 7 + 1, none⟩ = some (.int .i64 pa) ∧ w'.cell? ⟨b, off + j * 7 + 2, none⟩ = some (.int .i64 pb) ∧ w'.cell? ⟨b, off + j * 7 + 3, none⟩ = some (.int .i64 pc) ∧ w'.cell? ⟨b, off + j * 7 + 4, none⟩ = some (.int .i64 pg) ∧ w'.cell? ⟨b, off + j * 7 + 5, none⟩ = some (.int .i64 pr) ∧ w'.cell? ⟨b, off + j * 7 + 6, none⟩ = some (.string y) ∧ w'.cell? ⟨q, 0, none⟩ = some vp ∧ w'.cell? ⟨q, 1, none⟩ = some vo ∧ w'.cell? ⟨q, 2, none⟩ = some va ∧ Below W0.heap.size W0 w')) (by kernel_rfl) HS0.out (fun hHeld => ?_)
    refine takeD (i := 0) (d := 20) (v := ?_) rfl rfl (by kernel_rfl) (by kernel_rfl) (by kernel_rfl) (fun _ _ _ h => h) (Or.inl ⟨by rfl, ?_⟩) (by assumption) ?_
    rotate_left
    ·(intro w hSw; (try dsimp only at hSw); go_simp; first | done | with_reducible rfl)
    (try simp only [Act.put, List.setIfInBounds_toArray, List.set_cons_zero, List.set_cons_succ])
    refine takeD (i := 1) (d := 21) (v := ?_) rfl rfl (by kernel_rfl) (by kernel_rfl) (by kernel_rfl) (fun _ _ _ h => h) (Or.inl ⟨by rfl, ?_⟩) (by assumption) ?_
    rotate_left
    ·(intro w hSw; (try dsimp only at hSw); go_simp; first | done | with_reducible rfl)
    (try simp only [Act.put, List.setIfInBounds_toArray, List.set_cons_zero, List.set_cons_succ])
    refine takeD (i := 2) (d := 22) (v := ?_) rfl rfl (by kernel_rfl) (by kernel_rfl) (by kernel_rfl) (fun _ _ _ h => h) (Or.inl ⟨by rfl, ?_⟩) (by assumption) ?_
    rotate_left
    ·(intro w hSw; (try dsimp only at hSw); go_simp; first | done | with_reducible rfl)
    (try simp only [Act.put, List.setIfInBounds_toArray, List.set_cons_zero, List.set_cons_succ])
    refine takeD (i := 3) (d := 23) (v := ?_) rfl rfl (by kernel_rfl) (by kernel_rfl) (by kernel_rfl) (fun _ _ _ h => h) (Or.inl ⟨by rfl, ?_⟩) (by assumption) ?_
    rotate_left
    ·(intro w hSw; (try dsimp only at hSw); go_simp; first | done | with_reducible rfl)
    (try simp only [Act.put, List.setIfInBounds_toArray, List.set_cons_zero, List.set_cons_succ])
    refine takeD (i := 4) (d := 24) (v := ?_) rfl rfl (by kernel_rfl) (by kernel_rfl) (by kernel_rfl) (fun _ _ _ h => h) (Or.inl ⟨by rfl, ?_⟩) (by assumption) ?_
    rotate_left
    ·(intro w hSw; (try dsimp only at hSw); go_simp; first | done | with_reducible rfl)
    (try simp only [Act.put, List.setIfInBounds_toArray, List.set_cons_zero, List.set_cons_succ])
    refine takeD (i := 5) (d := 25) (v := ?_) rfl rfl (by kernel_rfl) (by kernel_rfl) (by kernel_rfl) (fun _ _ _ h => h) (Or.inl ⟨by rfl, ?_⟩) (by assumption) ?_
    rotate_left
    ·(intro w hSw; (try dsimp only at hSw); go_simp; first | done | with_reducible rfl)
    (try simp only [Act.put, List.setIfInBounds_toArray, List.set_cons_zero, List.set_cons_succ])
    refine takeD (i := 6) (d := 26) (v := ?_) rfl rfl (by kernel_rfl) (by kernel_rfl) (by kernel_rfl) (fun _ _ _ h => h) (Or.inl ⟨by rfl, ?_⟩) (by assumption) ?_
    rotate_left
    ·(intro w hSw; (try dsimp only at hSw); go_simp; first | done | with_reducible rfl)
    (try simp only [Act.put, List.setIfInBounds_toArray, List.set_cons_zero, List.set_cons_succ])
    refine takeD (i := 7) (d := 27) (v := ?_) rfl rfl (by kernel_rfl) (by kernel_rfl) (by kernel_rfl) (fun _ _ _ h => h) (Or.inl ⟨by rfl, ?_⟩) (by assumption) ?_
    rotate_left
    ·(intro w hSw; (try dsimp only at hSw); go_simp; first | done | with_reducible rfl)
    (try simp only [Act.put, List.setIfInBounds_toArray, List.set_cons_zero, List.set_cons_succ])
    refine wpAnyH_ready (rs := [8]) (by kernel_rfl) (by simp) ?_
    refine AllReadyH.cons rfl (fun K hK => ?_) ?_
    ·go_simp
     (go_at_call 112; refine (HIS.out _).mono ?_; rintro e w2 ⟨rfl, hb2⟩)
     go_wp2_with fail
     refine hK.out _ _ ?_ (fun hHeld => ?_)
     ·(first | assumption | exact HS0.out | exact HeldS.below (by assumption) hb2 hbl hq0 | exact HeldS.below (by assumption) hb3 hbl hq0)
     clear hK K
     (try simp only [Act.put, List.setIfInBounds_toArray, List.set_cons_zero, List.set_cons_succ])
     refine takeD (i := 9) (d := 29) (v := ?_) rfl rfl (by kernel_rfl) (by kernel_rfl) (by kernel_rfl) (fun _ _ _ h => h) (Or.inl ⟨by rfl, ?_⟩) (by assumption) ?_
     rotate_left
     ·(intro w hSw; (try dsimp only at hSw); go_simp; first | done | with_reducible rfl)
     (try simp only [Act.put, List.setIfInBounds_toArray, List.set_cons_zero, List.set_cons_succ])
     refine takeD (i := 10) (d := 30) (v := undef) rfl rfl (by kernel_rfl) (by kernel_rfl) (by kernel_rfl) (fun _ _ _ h => h) (Or.inr ⟨by kernel_rfl, rfl⟩) (by assumption) ?_
     (try simp only [Act.put, List.setIfInBounds_toArray, List.set_cons_zero, List.set_cons_succ])
     refine takeD (i := 11) (d := 31) (v := undef) rfl rfl (by kernel_rfl) (by kernel_rfl) (by kernel_rfl) (fun _ _ _ h => h) (Or.inr ⟨by kernel_rfl, rfl⟩) (by assumption) ?_
     (try simp only [Act.put, List.setIfInBounds_toArray, List.set_cons_zero, List.set_cons_succ])
     refine takeD (i := 12) (d := 32) (v := undef) rfl rfl (by kernel_rfl) (by kernel_rfl) (by kernel_rfl) (fun _ _ _ h => h) (Or.inr ⟨by kernel_rfl, rfl⟩) (by assumption) ?_
     (try simp only [Act.put, List.setIfInBounds_toArray, List.set_cons_zero, List.set_cons_succ])
     refine takeD (i := 13) (d := 33) (v := undef) rfl rfl (by kernel_rfl) (by kernel_rfl) (by kernel_rfl) (fun _ _ _ h => h) (Or.inr ⟨by kernel_rfl, rfl⟩) (by assumption) ?_
     (try simp only [Act.put, List.setIfInBounds_toArray, List.set_cons_zero, List.set_cons_succ])
     refine takeD (i := 14) (d := 34) (v := undef) rfl rfl (by kernel_rfl) (by kernel_rfl) (by kernel_rfl) (fun _ _ _ h => h) (Or.inr ⟨by kernel_rfl, rfl⟩) (by assumption) ?_
     (try simp only [Act.put, List.setIfInBounds_toArray, List.set_cons_zero, List.set_cons_succ])
     refine takeD (i := 15) (d := 35) (v := undef) rfl rfl (by kernel_rfl) (by kernel_rfl) (by kernel_rfl) (fun _ _ _ h => h) (Or.inr ⟨by kernel_rfl, rfl⟩) (by assumption) ?_
     (try simp only [Act.put, List.setIfInBounds_toArray, List.set_cons_zero, List.set_cons_succ])
     refine takeD (i := 16) (d := 36) (v := undef) rfl rfl (by kernel_rfl) (by kernel_rfl) (by kernel_rfl) (fun _ _ _ h => h) (Or.inr ⟨by kernel_rfl, rfl⟩) (by assumption) ?_
     (try simp only [Act.put, List.setIfInBounds_toArray, List.set_cons_zero, List.set_cons_succ])
     refine takeD (i := 17) (d := 37) (v := undef) rfl rfl (by kernel_rfl) (by kernel_rfl) (by kernel_rfl) (fun _ _ _ h => h) (Or.inr ⟨by kernel_rfl, rfl⟩) (by assumption) ?_
     (try simp only [Act.put, List.setIfInBounds_toArray, List.set_cons_zero, List.set_cons_succ])
     refine takeD (i := 18) (d := 38) (v := undef) rfl rfl (by kernel_rfl) (by kernel_rfl) (by kernel_rfl) (fun _ _ _ h => h) (Or.inr ⟨by kernel_rfl, rfl⟩) (by assumption) ?_
     (try simp only [Act.put, List.setIfInBounds_toArray, List.set_cons_zero, List.set_cons_succ])
     refine takeD (i := 19) (d := 39) (v := undef) rfl rfl (by kernel_rfl) (by kernel_rfl) (by kernel_rfl) (fun _ _ _ h => h) (Or.inr ⟨by kernel_rfl, rfl⟩) (by assumption) ?_
     (try simp only [Act.put, List.setIfInBounds_toArray, List.set_cons_zero, List.set_cons_succ])
     refine takeD (i := 20) (d := 40) (v := undef) rfl rfl (by kernel_rfl) (by kernel_rfl) (by kernel_rfl) (fun _ _ _ h => h) (Or.inr ⟨by kernel_rfl, rfl⟩) (by assumption) ?_
     (try simp only [Act.put, List.setIfInBounds_toArray, List.set_cons_zero, List.set_cons_succ])
     refine takeD (i := 21) (d := 41) (v := ?_) rfl rfl (by kernel_rfl) (by kernel_rfl) (by kernel_rfl) (fun _ _ _ h => h) (Or.inl ⟨by rfl, ?_⟩) (by assumption) ?_
     rotate_left
     ·(intro w hSw; (try dsimp only at hSw); go_simp; first | done | with_reducible rfl)
     (try simp only [Act.put, List.setIfInBounds_toArray, List.set_cons_zero, List.set_cons_succ])
     refine wpAnyH_done (by kernel_rfl) ?_ _
     have hbz := HeldS.bl (b := b) (p := off + j * 7) (q := q) (by assumption)
     go_wp2_with fail
     go_roundg (l.length - (j + 1))
     case measure => omega
     case rel => exact ⟨j + 1, by omega, rfl, by go_num, HN2, hbz⟩
    exact AllReadyH.nil
   | true =>
    rw [hi] at HIS
    cases on with
    | false =>
     have hsb : srcB r v f s false ⟨dr, ⟨pa, pb, pc, pg, pr, px⟩⟩ = true := by unfold srcB; rw [hi]; rfl
     have HI2 := Lib.hid (HIT.out hsb)
     clear hi hsb
     go_upto_region 4 with fail
     refine wp_region_held_drew (S := (fun w' => w'.cell? ⟨b, off + j * 7, none⟩ = some (.int .i64 (dr : Int)) ∧ w'.cell? ⟨b, off + j * 7 + 1, none⟩ = some (.int .i64 pa) ∧ w'.cell? ⟨b, off + j * 7 + 2, none⟩ = some (.int .i64 pb) ∧ w'.cell? ⟨b, off + j * 7 + 3, none⟩ = some (.int .i64 pc) ∧ w'.cell? ⟨b, off + j * 7 + 4, none⟩ = some (.int .i64 pg) ∧ w'.cell? ⟨b, off + j * 7 + 5, none⟩ = some (.int .i64 pr) ∧ w'.cell? ⟨b, off + j * 7 + 6, none⟩ = some (.string y) ∧ w'.cell? ⟨q, 0, none⟩ = some vp ∧ w'.cell? ⟨q, 1, none⟩ = some vo ∧ w'.cell? ⟨q, 2, none⟩ = some va ∧ Below W0.heap.size W0 w')) (by kernel_rfl) HS0.out (fun hHeld => ?_)
     refine takeD (i := 0) (d := 20) (v := ?_) rfl rfl (by kernel_rfl) (by kernel_rfl) (by kernel_rfl) (fun _ _ _ h => h) (Or.inl ⟨by rfl, ?_⟩) (by assumption) ?_
     rotate_left
     ·(intro w hSw; (try dsimp only at hSw); go_simp; first | done | with_reducible rfl)
     (try simp only [Act.put, List.setIfInBounds_toArray, List.set_cons_zero, List.set_cons_succ])
     refine takeD (i := 1) (d := 21) (v := ?_) rfl rfl (by kernel_rfl) (by kernel_rfl) (by kernel_rfl) (fun _ _ _ h => h) (Or.inl ⟨by rfl, ?_⟩) (by assumption) ?_
     rotate_left
     ·(intro w hSw; (try dsimp only at hSw); go_simp; first | done | with_reducible rfl)
     (try simp only [Act.put, List.setIfInBounds_toArray, List.set_cons_zero, List.set_cons_succ])
     refine takeD (i := 2) (d := 22) (v := ?_) rfl rfl (by kernel_rfl) (by kernel_rfl) (by kernel_rfl) (fun _ _ _ h => h) (Or.inl ⟨by rfl, ?_⟩) (by assumption) ?_
     rotate_left
     ·(intro w hSw; (try dsimp only at hSw); go_simp; first | done | with_reducible rfl)
     (try simp only [Act.put, List.setIfInBounds_toArray, List.set_cons_zero, List.set_cons_succ])
     refine takeD (i := 3) (d := 23) (v := ?_) rfl rfl (by kernel_rfl) (by kernel_rfl) (by kernel_rfl) (fun _ _ _ h => h) (Or.inl ⟨by rfl, ?_⟩) (by assumption) ?_
     rotate_left
     ·(intro w hSw; (try dsimp only at hSw); go_simp; first | done | with_reducible rfl)
     (try simp only [Act.put, List.setIfInBounds_toArray, List.set_cons_zero, List.set_cons_succ])
     refine takeD (i := 4) (d := 24) (v := ?_) rfl rfl (by kernel_rfl) (by kernel_rfl) (by kernel_rfl) (fun _ _ _ h => h) (Or.inl ⟨by rfl, ?_⟩) (by assumption) ?_
     rotate_left
     ·(intro w hSw; (try dsimp only at hSw); go_simp; first | done | with_reducible rfl)
     (try simp only [Act.put, List.setIfInBounds_toArray, List.set_cons_zero, List.set_cons_succ])
     refine takeD (i := 5) (d := 25) (v := ?_) rfl rfl (by kernel_rfl) (by kernel_rfl) (by kernel_rfl) (fun _ _ _ h => h) (Or.inl ⟨by rfl, ?_⟩) (by assumption) ?_
     rotate_left
     ·(intro w hSw; (try dsimp only at hSw); go_simp; first | done | with_reducible rfl)
     (try simp only [Act.put, List.setIfInBounds_toArray, List.set_cons_zero, List.set_cons_succ])
     refine takeD (i := 6) (d := 26) (v := ?_) rfl rfl (by kernel_rfl) (by kernel_rfl) (by kernel_rfl) (fun _ _ _ h => h) (Or.inl ⟨by rfl, ?_⟩) (by assumption) ?_
     rotate_left
     ·(intro w hSw; (try dsimp only at hSw); go_simp; first | done | with_reducible rfl)
     (try simp only [Act.put, List.setIfInBounds_toArray, List.set_cons_zero, List.set_cons_succ])
     refine takeD (i := 7) (d := 27) (v := ?_) rfl rfl (by kernel_rfl) (by kernel_rfl) (by kernel_rfl) (fun _ _ _ h => h) (Or.inl ⟨by rfl, ?_⟩) (by assumption) ?_
     rotate_left
     ·(intro w hSw; (try dsimp only at hSw); go_simp; first | done | with_reducible rfl)
     (try simp only [Act.put, List.setIfInBounds_toArray, List.set_cons_zero, List.set_cons_succ])
     refine wpAnyH_ready (rs := [8]) (by kernel_rfl) (by simp) ?_
     refine AllReadyH.cons rfl (fun K hK => ?_) ?_
     ·go_simp
      (go_at_call 112; refine (HIS.out _).mono ?_; rintro e w2 ⟨rfl, hb2⟩)
      go_wp2_with fail
      refine hK.out _ _ ?_ (fun hHeld => ?_)
      ·(first | assumption | exact HS0.out | exact HeldS.below (by assumption) hb2 hbl hq0 | exact HeldS.below (by assumption) hb3 hbl hq0)
      clear hK K
      (try simp only [Act.put, List.setIfInBounds_toArray, List.set_cons_zero, List.set_cons_succ])
      refine takeD (i := 9) (d := 29) (v := ?_) rfl rfl (by kernel_rfl) (by kernel_rfl) (by kernel_rfl) (fun _ _ _ h => h) (Or.inl ⟨by rfl, ?_⟩) (by assumption) ?_
      rotate_left
      ·(intro w hSw; (try dsimp only at hSw); go_simp; first | done | with_reducible rfl)
      (try simp only [Act.put, List.setIfInBounds_toArray, List.set_cons_zero, List.set_cons_succ])
      refine takeD (i := 10) (d := 30) (v := ?_) rfl rfl (by kernel_rfl) (by kernel_rfl) (by kernel_rfl) (fun _ _ _ h => h) (Or.inl ⟨by rfl, ?_⟩) (by assumption) ?_
      rotate_left
      ·(intro w hSw; (try dsimp only at hSw); go_simp; first | done | with_reducible rfl)
      (try simp only [Act.put, List.setIfInBounds_toArray, List.set_cons_zero, List.set_cons_succ])
      refine takeD (i := 11) (d := 31) (v := ?_) rfl rfl (by kernel_rfl) (by kernel_rfl) (by kernel_rfl) (fun _ _ _ h => h) (Or.inl ⟨by rfl, ?_⟩) (by assumption) ?_
      rotate_left
      ·(intro w hSw; (try dsimp only at hSw); go_simp; first | done | with_reducible rfl)
      (try simp only [Act.put, List.setIfInBounds_toArray, List.set_cons_zero, List.set_cons_succ])
      refine takeD (i := 12) (d := 32) (v := ?_) rfl rfl (by kernel_rfl) (by kernel_rfl) (by kernel_rfl) (fun _ _ _ h => h) (Or.inl ⟨by rfl, ?_⟩) (by assumption) ?_
      rotate_left
      ·(intro w hSw; (try dsimp only at hSw); go_simp; first | done | with_reducible rfl)
      (try simp only [Act.put, List.setIfInBounds_toArray, List.set_cons_zero, List.set_cons_succ])
      refine takeD (i := 13) (d := 33) (v := undef) rfl rfl (by kernel_rfl) (by kernel_rfl) (by kernel_rfl) (fun _ _ _ h => h) (Or.inr ⟨by kernel_rfl, rfl⟩) (by assumption) ?_
      (try simp only [Act.put, List.setIfInBounds_toArray, List.set_cons_zero, List.set_cons_succ])
      refine takeD (i := 14) (d := 34) (v := undef) rfl rfl (by kernel_rfl) (by kernel_rfl) (by kernel_rfl) (fun _ _ _ h => h) (Or.inr ⟨by kernel_rfl, rfl⟩) (by assumption) ?_
      (try simp only [Act.put, List.setIfInBounds_toArray, List.set_cons_zero, List.set_cons_succ])
      refine takeD (i := 15) (d := 35) (v := undef) rfl rfl (by kernel_rfl) (by kernel_rfl) (by kernel_rfl) (fun _ _ _ h => h) (Or.inr ⟨by kernel_rfl, rfl⟩) (by assumption) ?_
      (try simp only [Act.put, List.setIfInBounds_toArray, List.set_cons_zero, List.set_cons_succ])
      refine takeD (i := 16) (d := 36) (v := undef) rfl rfl (by kernel_rfl) (by kernel_rfl) (by kernel_rfl) (fun _ _ _ h => h) (Or.inr ⟨by kernel_rfl, rfl⟩) (by assumption) ?_
      (try simp only [Act.put, List.setIfInBounds_toArray, List.set_cons_zero, List.set_cons_succ])
      refine takeD (i := 17) (d := 37) (v := undef) rfl rfl (by kernel_rfl) (by kernel_rfl) (by kernel_rfl) (fun _ _ _ h => h) (Or.inr ⟨by kernel_rfl, rfl⟩) (by assumption) ?_
      (try simp only [Act.put, List.setIfInBounds_toArray, List.set_cons_zero, List.set_cons_succ])
      refine takeD (i := 18) (d := 38) (v := undef) rfl rfl (by kernel_rfl) (by kernel_rfl) (by kernel_rfl) (fun _ _ _ h => h) (Or.inr ⟨by kernel_rfl, rfl⟩) (by assumption) ?_
      (try simp only [Act.put, List.setIfInBounds_toArray, List.set_cons_zero, List.set_cons_succ])
      refine takeD (i := 19) (d := 39) (v := undef) rfl rfl (by kernel_rfl) (by kernel_rfl) (by kernel_rfl) (fun _ _ _ h => h) (Or.inr ⟨by kernel_rfl, rfl⟩) (by assumption) ?_
      (try simp only [Act.put, List.setIfInBounds_toArray, List.set_cons_zero, List.set_cons_succ])
      refine takeD (i := 20) (d := 40) (v := ?_) rfl rfl (by kernel_rfl) (by kernel_rfl) (by kernel_rfl) (fun _ _ _ h => h) (Or.inl ⟨by rfl, ?_⟩) (by assumption) ?_
      rotate_left
      ·(intro w hSw; (try dsimp only at hSw); go_simp; first | done | with_reducible rfl)
      (try simp only [Act.put, List.setIfInBounds_toArray, List.set_cons_zero, List.set_cons_succ])
      refine takeD (i := 21) (d := 41) (v := ?_) rfl rfl (by kernel_rfl) (by kernel_rfl) (by kernel_rfl) (fun _ _ _ h => h) (Or.inl ⟨by rfl, ?_⟩) (by assumption) ?_
      rotate_left
      ·(intro w hSw; (try dsimp only at hSw); go_simp; first | done | with_reducible rfl)
      (try simp only [Act.put, List.setIfInBounds_toArray, List.set_cons_zero, List.set_cons_succ])
      refine wpAnyH_done (by kernel_rfl) ?_ _
      have hbz := HeldS.bl (b := b) (p := off + j * 7) (q := q) (by assumption)
      have hbz2 := HB0.out.trans (hbz.mono HB0.out.size)
      go_wp2
      go_ret
      exact ⟨ret_int HI2.out.symm, hbz2⟩
     exact AllReadyH.nil
    | true =>
     cases ho : onB r dr with
     | false =>
      have hsb : srcB r v f s true ⟨dr, ⟨pa, pb, pc, pg, pr, px⟩⟩ = false := by unfold srcB; rw [hi, ho]; rfl
      have HN2 := Lib.hid (HNX.out hsb)
      rw [ho] at HON
      clear hi hsb ho
      go_upto_region 4 with fail
      refine wp_region_held_drew (S := (fun w' => w'.cell? ⟨b, off + j * 7, none⟩ = some (.int .i64 (dr : Int)) ∧ w'.cell? ⟨b, off + j * 7 + 1, none⟩ = some (.int .i64 pa) ∧ w'.cell? ⟨b, off + j * 7 + 2, none⟩ = some (.int .i64 pb) ∧ w'.cell? ⟨b, off + j * 7 + 3, none⟩ = some (.int .i64 pc) ∧ w'.cell? ⟨b, off + j * 7 + 4, none⟩ = some (.int .i64 pg) ∧ w'.cell? ⟨b, off + j * 7 + 5, none⟩ = some (.int .i64 pr) ∧ w'.cell? ⟨b, off + j * 7 + 6, none⟩ = some (.string y) ∧ w'.cell? ⟨q, 0, none⟩ = some vp ∧ w'.cell? ⟨q, 1, none⟩ = some vo ∧ w'.cell? ⟨q, 2, none⟩ = some va ∧ Below W0.heap.size W0 w')) (by kernel_rfl) HS0.out (fun hHeld => ?_)
      refine takeD (i := 0) (d := 20) (v := ?_) rfl rfl (by kernel_rfl) (by kernel_rfl) (by kernel_rfl) (fun _ _ _ h => h) (Or.inl ⟨by rfl, ?_⟩) (by assumption) ?_
      rotate_left
      ·(intro w hSw; (try dsimp only at hSw); go_simp; first | done | with_reducible rfl)
      (try simp only [Act.put, List.setIfInBounds_toArray, List.set_cons_zero, List.set_cons_succ])
      refine takeD (i := 1) (d := 21) (v := ?_) rfl rfl (by kernel_rfl) (by kernel_rfl) (by kernel_rfl) (fun _ _ _ h => h) (Or.inl ⟨by rfl, ?_⟩) (by assumption) ?_
      rotate_left
      ·(intro w hSw; (try dsimp only at hSw); go_simp; first | done | with_reducible rfl)
      (try simp only [Act.put, List.setIfInBounds_toArray, List.set_cons_zero, List.set_cons_succ])
      refine takeD (i := 2) (d := 22) (v := ?_) rfl rfl (by kernel_rfl) (by kernel_rfl) (by kernel_rfl) (fun _ _ _ h => h) (Or.inl ⟨by rfl, ?_⟩) (by assumption) ?_
      rotate_left
      ·(intro w hSw; (try dsimp only at hSw); go_simp; first | done | with_reducible rfl)
      (try simp only [Act.put, List.setIfInBounds_toArray, List.set_cons_zero, List.set_cons_succ])
      refine takeD (i := 3) (d := 23) (v := ?_) rfl rfl (by kernel_rfl) (by kernel_rfl) (by kernel_rfl) (fun _ _ _ h => h) (Or.inl ⟨by rfl, ?_⟩) (by assumption) ?_
      rotate_left
      ·(intro w hSw; (try dsimp only at hSw); go_simp; first | done | with_reducible rfl)
      (try simp only [Act.put, List.setIfInBounds_toArray, List.set_cons_zero, List.set_cons_succ])
      refine takeD (i := 4) (d := 24) (v := ?_) rfl rfl (by kernel_rfl) (by kernel_rfl) (by kernel_rfl) (fun _ _ _ h => h) (Or.inl ⟨by rfl, ?_⟩) (by assumption) ?_
      rotate_left
      ·(intro w hSw; (try dsimp only at hSw); go_simp; first | done | with_reducible rfl)
      (try simp only [Act.put, List.setIfInBounds_toArray, List.set_cons_zero, List.set_cons_succ])
      refine takeD (i := 5) (d := 25) (v := ?_) rfl rfl (by kernel_rfl) (by kernel_rfl) (by kernel_rfl) (fun _ _ _ h => h) (Or.inl ⟨by rfl, ?_⟩) (by assumption) ?_
      rotate_left
      ·(intro w hSw; (try dsimp only at hSw); go_simp; first | done | with_reducible rfl)
      (try simp only [Act.put, List.setIfInBounds_toArray, List.set_cons_zero, List.set_cons_succ])
      refine takeD (i := 6) (d := 26) (v := ?_) rfl rfl (by kernel_rfl) (by kernel_rfl) (by kernel_rfl) (fun _ _ _ h => h) (Or.inl ⟨by rfl, ?_⟩) (by assumption) ?_
      rotate_left
      ·(intro w hSw; (try dsimp only at hSw); go_simp; first | done | with_reducible rfl)
      (try simp only [Act.put, List.setIfInBounds_toArray, List.set_cons_zero, List.set_cons_succ])
      refine takeD (i := 7) (d := 27) (v := ?_) rfl rfl (by kernel_rfl) (by kernel_rfl) (by kernel_rfl) (fun _ _ _ h => h) (Or.inl ⟨by rfl, ?_⟩) (by assumption) ?_
      rotate_left
      ·(intro w hSw; (try dsimp only at hSw); go_simp; first | done | with_reducible rfl)
      (try simp only [Act.put, List.setIfInBounds_toArray, List.set_cons_zero, List.set_cons_succ])
      refine wpAnyH_ready (rs := [8]) (by kernel_rfl) (by simp) ?_
      refine AllReadyH.cons rfl (fun K hK => ?_) ?_
      ·go_simp
       (go_at_call 112; refine (HIS.out _).mono ?_; rintro e w2 ⟨rfl, hb2⟩)
       go_wp2_with fail
       refine hK.out _ _ ?_ (fun hHeld => ?_)
       ·(first | assumption | exact HS0.out | exact HeldS.below (by assumption) hb2 hbl hq0 | exact HeldS.below (by assumption) hb3 hbl hq0)
       clear hK K
       (try simp only [Act.put, List.setIfInBounds_toArray, List.set_cons_zero, List.set_cons_succ])
       refine takeD (i := 9) (d := 29) (v := ?_) rfl rfl (by kernel_rfl) (by kernel_rfl) (by kernel_rfl) (fun _ _ _ h => h) (Or.inl ⟨by rfl, ?_⟩) (by assumption) ?_
       rotate_left
       ·(intro w hSw; (try dsimp only at hSw); go_simp; first | done | with_reducible rfl)
       (try simp only [Act.put, List.setIfInBounds_toArray, List.set_cons_zero, List.set_cons_succ])
       refine takeD (i := 10) (d := 30) (v := ?_) rfl rfl (by kernel_rfl) (by kernel_rfl) (by kernel_rfl) (fun _ _ _ h => h) (Or.inl ⟨by rfl, ?_⟩) (by assumption) ?_
       rotate_left
       ·(intro w hSw; (try dsimp only at hSw); go_simp; first | done | with_reducible rfl)
       (try simp only [Act.put, List.setIfInBounds_toArray, List.set_cons_zero, List.set_cons_succ])
       refine takeD (i := 11) (d := 31) (v := ?_) rfl rfl (by kernel_rfl) (by kernel_rfl) (by kernel_rfl) (fun _ _ _ h => h) (Or.inl ⟨by rfl, ?_⟩) (by assumption) ?_
       rotate_left
       ·(intro w hSw; (try dsimp only at hSw); go_simp; first | done | with_reducible rfl)
       (try simp only [Act.put, List.setIfInBounds_toArray, List.set_cons_zero, List.set_cons_succ])
       refine takeD (i := 12) (d := 32) (v := ?_) rfl rfl (by kernel_rfl) (by kernel_rfl) (by kernel_rfl) (fun _ _ _ h => h) (Or.inl ⟨by rfl, ?_⟩) (by assumption) ?_
       rotate_left
       ·(intro w hSw; (try dsimp only at hSw); go_simp; first | done | with_reducible rfl)
       (try simp only [Act.put, List.setIfInBounds_toArray, List.set_cons_zero, List.set_cons_succ])
       refine takeD (i := 13) (d := 33) (v := ?_) rfl rfl (by kernel_rfl) (by kernel_rfl) (by kernel_rfl) (fun _ _ _ h => h) (Or.inl ⟨by rfl, ?_⟩) (by assumption) ?_
       rotate_left
       ·(intro w hSw; (try dsimp only at hSw); go_simp; first | done | with_reducible rfl)
       (try simp only [Act.put, List.setIfInBounds_toArray, List.set_cons_zero, List.set_cons_succ])
       refine takeD (i := 14) (d := 34) (v := ?_) rfl rfl (by kernel_rfl) (by kernel_rfl) (by kernel_rfl) (fun _ _ _ h => h) (Or.inl ⟨by rfl, ?_⟩) (by assumption) ?_
       rotate_left
       ·(intro w hSw; (try dsimp only at hSw); go_simp; first | done | with_reducible rfl)
       (try simp only [Act.put, List.setIfInBounds_toArray, List.set_cons_zero, List.set_cons_succ])
       refine takeD (i := 15) (d := 35) (v := ?_) rfl rfl (by kernel_rfl) (by kernel_rfl) (by kernel_rfl) (fun _ _ _ h => h) (Or.inl ⟨by rfl, ?_⟩) (by assumption) ?_
       rotate_left
       ·(intro w hSw; (try dsimp only at hSw); go_simp; first | done | with_reducible rfl)
       (try simp only [Act.put, List.setIfInBounds_toArray, List.set_cons_zero, List.set_cons_succ])
       refine takeD (i := 16) (d := 36) (v := ?_) rfl rfl (by kernel_rfl) (by kernel_rfl) (by kernel_rfl) (fun _ _ _ h => h) (Or.inl ⟨by rfl, ?_⟩) (by assumption) ?_
       rotate_left
       ·(intro w hSw; (try dsimp only at hSw); go_simp; first | done | with_reducible rfl)
       (try simp only [Act.put, List.setIfInBounds_toArray, List.set_cons_zero, List.set_cons_succ])
       refine takeD (i := 17) (d := 37) (v := ?_) rfl rfl (by kernel_rfl) (by kernel_rfl) (by kernel_rfl) (fun _ _ _ h => h) (Or.inl ⟨by rfl, ?_⟩) (by assumption) ?_
       rotate_left
       ·(intro w hSw; (try dsimp only at hSw); go_simp; first | done | with_reducible rfl)
       (try simp only [Act.put, List.setIfInBounds_toArray, List.set_cons_zero, List.set_cons_succ])
       refine takeD (i := 18) (d := 38) (v := ?_) rfl rfl (by kernel_rfl) (by kernel_rfl) (by kernel_rfl) (fun _ _ _ h => h) (Or.inl ⟨by rfl, ?_⟩) (by assumption) ?_
       rotate_left
       ·(intro w hSw; (try dsimp only at hSw); go_simp; first | done | with_reducible rfl)
       (try simp only [Act.put, List.setIfInBounds_toArray, List.set_cons_zero, List.set_cons_succ])
       refine wpAnyH_ready (rs := [19]) (by kernel_rfl) (by simp) ?_
       refine AllReadyH.cons rfl (fun K hK => ?_) ?_
       ·go_simp
        (go_at_call 113; refine (HON.out _ (HeldS.re (by assumption) HR.out HB0.out)).mono ?_; rintro e w3 ⟨rfl, hb3⟩)
        go_wp2_with fail
        refine hK.out _ _ ?_ (fun hHeld => ?_)
        ·(first | assumption | exact HS0.out | exact HeldS.below (by assumption) hb2 hbl hq0 | exact HeldS.below (by assumption) hb3 hbl hq0)
        clear hK K
        (try simp only [Act.put, List.setIfInBounds_toArray, List.set_cons_zero, List.set_cons_succ])
        refine takeD (i := 20) (d := 40) (v := ?_) rfl rfl (by kernel_rfl) (by kernel_rfl) (by kernel_rfl) (fun _ _ _ h => h) (Or.inl ⟨by rfl, ?_⟩) (by assumption) ?_
        rotate_left
        ·(intro w hSw; (try dsimp only at hSw); go_simp; first | done | with_reducible rfl)
        (try simp only [Act.put, List.setIfInBounds_toArray, List.set_cons_zero, List.set_cons_succ])
        refine takeD (i := 21) (d := 41) (v := ?_) rfl rfl (by kernel_rfl) (by kernel_rfl) (by kernel_rfl) (fun _ _ _ h => h) (Or.inl ⟨by rfl, ?_⟩) (by assumption) ?_
        rotate_left
        ·(intro w hSw; (try dsimp only at hSw); go_simp; first | done | with_reducible rfl)
        (try simp only [Act.put, List.setIfInBounds_toArray, List.set_cons_zero, List.set_cons_succ])
        refine wpAnyH_done (by kernel_rfl) ?_ _
        have hbz := HeldS.bl (b := b) (p := off + j * 7) (q := q) (by assumption)
        go_wp2_with fail
        go_roundg (l.length - (j + 1))
        case measure => omega
        case rel => exact ⟨j + 1, by omega, rfl, by go_num, HN2, hbz⟩
       exact AllReadyH.nil
      exact AllReadyH.nil
     | true =>
      have hsb : srcB r v f s true ⟨dr, ⟨pa, pb, pc, pg, pr, px⟩⟩ = true := by unfold srcB; rw [hi, ho]; rfl
      have HI2 := Lib.hid (HIT.out hsb)
      rw [ho] at HON
      clear hi hsb ho
      go_upto_region 4 with fail
      refine wp_region_held_drew (S := (fun w' => w'.cell? ⟨b, off + j * 7, none⟩ = some (.int .i64 (dr : Int)) ∧ w'.cell? ⟨b, off + j * 7 + 1, none⟩ = some (.int .i64 pa) ∧ w'.cell? ⟨b, off + j * 7 + 2, none⟩ = some (.int .i64 pb) ∧ w'.cell? ⟨b, off + j * 7 + 3, none⟩ = some (.int .i64 pc) ∧ w'.cell? ⟨b, off + j * 7 + 4, none⟩ = some (.int .i64 pg) ∧ w'.cell? ⟨b, off + j * 7 + 5, none⟩ = some (.int .i64 pr) ∧ w'.cell? ⟨b, off + j * 7 + 6, none⟩ = some (.string y) ∧ w'.cell? ⟨q, 0, none⟩ = some vp ∧ w'.cell? ⟨q, 1, none⟩ = some vo ∧ w'.cell? ⟨q, 2, none⟩ = some va ∧ Below W0.heap.size W0 w')) (by kernel_rfl) HS0.out (fun hHeld => ?_)
      refine takeD (i := 0) (d := 20) (v := ?_) rfl rfl (by kernel_rfl) (by kernel_rfl) (by kernel_rfl) (fun _ _ _ h => h) (Or.inl ⟨by rfl, ?_⟩) (by assumption) ?_
      rotate_left
      ·(intro w hSw; (try dsimp only at hSw); go_simp; first | done | with_reducible rfl)
      (try simp only [Act.put, List.setIfInBounds_toArray, List.set_cons_zero, List.set_cons_succ])
      refine takeD (i := 1) (d := 21) (v := ?_) rfl rfl (by kernel_rfl) (by kernel_rfl) (by kernel_rfl) (fun _ _ _ h => h) (Or.inl ⟨by rfl, ?_⟩) (by assumption) ?_
      rotate_left
      ·(intro w hSw; (try dsimp only at hSw); go_simp; first | done | with_reducible rfl)
      (try simp only [Act.put, List.setIfInBounds_toArray, List.set_cons_zero, List.set_cons_succ])
      refine takeD (i := 2) (d := 22) (v := ?_) rfl rfl (by kernel_rfl) (by kernel_rfl) (by kernel_rfl) (fun _ _ _ h => h) (Or.inl ⟨by rfl, ?_⟩) (by assumption) ?_
      rotate_left
      ·(intro w hSw; (try dsimp only at hSw); go_simp; first | done | with_reducible rfl)
      (try simp only [Act.put, List.setIfInBounds_toArray, List.set_cons_zero, List.set_cons_succ])
      refine takeD (i := 3) (d := 23) (v := ?_) rfl rfl (by kernel_rfl) (by kernel_rfl) (by kernel_rfl) (fun _ _ _ h => h) (Or.inl ⟨by rfl, ?_⟩) (by assumption) ?_
      rotate_left
      ·(intro w hSw; (try dsimp only at hSw); go_simp; first | done | with_reducible rfl)
      (try simp only [Act.put, List.setIfInBounds_toArray, List.set_cons_zero, List.set_cons_succ])
      refine takeD (i := 4) (d := 24) (v := ?_) rfl rfl (by kernel_rfl) (by kernel_rfl) (by kernel_rfl) (fun _ _ _ h => h) (Or.inl ⟨by rfl, ?_⟩) (by assumption) ?_
      rotate_left
      ·(intro w hSw; (try dsimp only at hSw); go_simp; first | done | with_reducible rfl)
      (try simp only [Act.put, List.setIfInBounds_toArray, List.set_cons_zero, List.set_cons_succ])
      refine takeD (i := 5) (d := 25) (v := ?_) rfl rfl (by kernel_rfl) (by kernel_rfl) (by kernel_rfl) (fun _ _ _ h => h) (Or.inl ⟨by rfl, ?_⟩) (by assumption) ?_
      rotate_left
      ·(intro w hSw; (try dsimp only at hSw); go_simp; first | done | with_reducible rfl)
      (try simp only [Act.put, List.setIfInBounds_toArray, List.set_cons_zero, List.set_cons_succ])
      refine takeD (i := 6) (d := 26) (v := ?_) rfl rfl (by kernel_rfl) (by kernel_rfl) (by kernel_rfl) (fun _ _ _ h => h) (Or.inl ⟨by rfl, ?_⟩) (by assumption) ?_
      rotate_left
      ·(intro w hSw; (try dsimp only at hSw); go_simp; first | done | with_reducible rfl)
      (try simp only [Act.put, List.setIfInBounds_toArray, List.set_cons_zero, List.set_cons_succ])
      refine takeD (i := 7) (d := 27) (v := ?_) rfl rfl (by kernel_rfl) (by kernel_rfl) (by kernel_rfl) (fun _ _ _ h => h) (Or.inl ⟨by rfl, ?_⟩) (by assumption) ?_
      rotate_left
      ·(intro w hSw; (try dsimp only at hSw); go_simp; first | done | with_reducible rfl)
      (try simp only [Act.put, List.setIfInBounds_toArray, List.set_cons_zero, List.set_cons_succ])
      refine wpAnyH_ready (rs := [8]) (by kernel_rfl) (by simp) ?_
      refine AllReadyH.cons rfl (fun K hK => ?_) ?_
      ·go_simp
       (go_at_call 112; refine (HIS.out _).mono ?_; rintro e w2 ⟨rfl, hb2⟩)
       go_wp2_with fail
       refine hK.out _ _ ?_ (fun hHeld => ?_)
       ·(first | assumption | exact HS0.out | exact HeldS.below (by assumption) hb2 hbl hq0 | exact HeldS.below (by assumption) hb3 hbl hq0)
       clear hK K
       (try simp only [Act.put, List.setIfInBounds_toArray, List.set_cons_zero, List.set_cons_succ])
       refine takeD (i := 9) (d := 29) (v := ?_) rfl rfl (by kernel_rfl) (by kernel_rfl) (by kernel_rfl) (fun _ _ _ h => h) (Or.inl ⟨by rfl, ?_⟩) (by assumption) ?_
       rotate_left
       ·(intro w hSw; (try dsimp only at hSw); go_simp; first | done | with_reducible rfl)
       (try simp only [Act.put, List.setIfInBounds_toArray, List.set_cons_zero, List.set_cons_succ])
       refine takeD (i := 10) (d := 30) (v := ?_) rfl rfl (by kernel_rfl) (by kernel_rfl) (by kernel_rfl) (fun _ _ _ h => h) (Or.inl ⟨by rfl, ?_⟩) (by assumption) ?_
       rotate_left
       ·(intro w hSw; (try dsimp only at hSw); go_simp; first | done | with_reducible rfl)
       (try simp only [Act.put, List.setIfInBounds_toArray, List.set_cons_zero, List.set_cons_succ])
       refine takeD (i := 11) (d := 31) (v := ?_) rfl rfl (by kernel_rfl) (by kernel_rfl) (by kernel_rfl) (fun _ _ _ h => h) (Or.inl ⟨by rfl, ?_⟩) (by assumption) ?_
       rotate_left
       ·(intro w hSw; (try dsimp only at hSw); go_simp; first | done | with_reducible rfl)
       (try simp only [Act.put, List.setIfInBounds_toArray, List.set_cons_zero, List.set_cons_succ])
       refine takeD (i := 12) (d := 32) (v := ?_) rfl rfl (by kernel_rfl) (by kernel_rfl) (by kernel_rfl) (fun _ _ _ h => h) (Or.inl ⟨by rfl, ?_⟩) (by assumption) ?_
       rotate_left
       ·(intro w hSw; (try dsimp only at hSw); go_simp; first | done | with_reducible rfl)
       (try simp only [Act.put, List.setIfInBounds_toArray, List.set_cons_zero, List.set_cons_succ])
       refine takeD (i := 13) (d := 33) (v := ?_) rfl rfl (by kernel_rfl) (by kernel_rfl) (by kernel_rfl) (fun _ _ _ h => h) (Or.inl ⟨by rfl, ?_⟩) (by assumption) ?_
       rotate_left
       ·(intro w hSw; (try dsimp only at hSw); go_simp; first | done | with_reducible rfl)
       (try simp only [Act.put, List.setIfInBounds_toArray, List.set_cons_zero, List.set_cons_succ])
       refine takeD (i := 14) (d := 34) (v := ?_) rfl rfl (by kernel_rfl) (by kernel_rfl) (by kernel_rfl) (fun _ _ _ h => h) (Or.inl ⟨by rfl, ?_⟩) (by assumption) ?_
       rotate_left
       ·(intro w hSw; (try dsimp only at hSw); go_simp; first | done | with_reducible rfl)
       (try simp only [Act.put, List.setIfInBounds_toArray, List.set_cons_zero, List.set_cons_succ])
       refine takeD (i := 15) (d := 35) (v := ?_) rfl rfl (by kernel_rfl) (by kernel_rfl) (by kernel_rfl) (fun _ _ _ h => h) (Or.inl ⟨by rfl, ?_⟩) (by assumption) ?_
       rotate_left
       ·(intro w hSw; (try dsimp only at hSw); go_simp; first | done | with_reducible rfl)
       (try simp only [Act.put, List.setIfInBounds_toArray, List.set_cons_zero, List.set_cons_succ])
       refine takeD (i := 16) (d := 36) (v := ?_) rfl rfl (by kernel_rfl) (by kernel_rfl) (by kernel_rfl) (fun _ _ _ h => h) (Or.inl ⟨by rfl, ?_⟩) (by assumption) ?_
       rotate_left
       ·(intro w hSw; (try dsimp only at hSw); go_simp; first | done | with_reducible rfl)
       (try simp only [Act.put, List.setIfInBounds_toArray, List.set_cons_zero, List.set_cons_succ])
       refine takeD (i := 17) (d := 37) (v := ?_) rfl rfl (by kernel_rfl) (by kernel_rfl) (by kernel_rfl) (fun _ _ _ h => h) (Or.inl ⟨by rfl, ?_⟩) (by assumption) ?_
       rotate_left
       ·(intro w hSw; (try dsimp only at hSw); go_simp; first | done | with_reducible rfl)
       (try simp only [Act.put, List.setIfInBounds_toArray, List.set_cons_zero, List.set_cons_succ])
       refine takeD (i := 18) (d := 38) (v := ?_) rfl rfl (by kernel_rfl) (by kernel_rfl) (by kernel_rfl) (fun _ _ _ h => h) (Or.inl ⟨by rfl, ?_⟩) (by assumption) ?_
       rotate_left
       ·(intro w hSw; (try dsimp only at hSw); go_simp; first | done | with_reducible rfl)
       (try simp only [Act.put, List.setIfInBounds_toArray, List.set_cons_zero, List.set_cons_succ])
       refine wpAnyH_ready (rs := [19]) (by kernel_rfl) (by simp) ?_
       refine AllReadyH.cons rfl (fun K hK => ?_) ?_
       ·go_simp
        (go_at_call 113; refine (HON.out _ (HeldS.re (by assumption) HR.out HB0.out)).mono ?_; rintro e w3 ⟨rfl, hb3⟩)
        go_wp2_with fail
        refine hK.out _ _ ?_ (fun hHeld => ?_)
        ·(first | assumption | exact HS0.out | exact HeldS.below (by assumption) hb2 hbl hq0 | exact HeldS.below (by assumption) hb3 hbl hq0)
        clear hK K
        (try simp only [Act.put, List.setIfInBounds_toArray, List.set_cons_zero, List.set_cons_succ])
        refine takeD (i := 20) (d := 40) (v := ?_) rfl rfl (by kernel_rfl) (by kernel_rfl) (by kernel_rfl) (fun _ _ _ h => h) (Or.inl ⟨by rfl, ?_⟩) (by assumption) ?_
        rotate_left
        ·(intro w hSw; (try dsimp only at hSw); go_simp; first | done | with_reducible rfl)
        (try simp only [Act.put, List.setIfInBounds_toArray, List.set_cons_zero, List.set_cons_succ])
        refine takeD (i := 21) (d := 41) (v := ?_) rfl rfl (by kernel_rfl) (by kernel_rfl) (by kernel_rfl) (fun _ _ _ h => h) (Or.inl ⟨by rfl, ?_⟩) (by assumption) ?_
        rotate_left
        ·(intro w hSw; (try dsimp only at hSw); go_simp; first | done | with_reducible rfl)
        (try simp only [Act.put, List.setIfInBounds_toArray, List.set_cons_zero, List.set_cons_succ])
        refine wpAnyH_done (by kernel_rfl) ?_ _
        have hbz := HeldS.bl (b := b) (p := off + j * 7) (q := q) (by assumption)
        have hbz2 := HB0.out.trans (hbz.mono HB0.out.size)
        go_wp2
        go_ret
        exact ⟨ret_int HI2.out.symm, hbz2⟩
       exact AllReadyH.nil
      exact AllReadyH.nil
  ·have hE := srcI_miss (r := r) (l := l) (v := v) (f := f) (s := s) (on := on) (fun i h => HN.out i h (by omega))
   have HE := Lib.hid hE
   clear hE
   go_wp2_with fail
   go_ret
   exact ⟨ret_int HE.out.symm, hbw⟩
end Go.Proofs.YtmehadfhcdpfcaaGreat
