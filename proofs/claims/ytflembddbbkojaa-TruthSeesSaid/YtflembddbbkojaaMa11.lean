/- The reference's Good, walked. -/
import Derived.Test.YtflembddbbkojaaMa10
namespace Go.Proofs.Ytflembddbbkojaa
open Go.RowKit
set_option linter.unusedVariables false
set_option linter.unusedSimpArgs false
/-- The drives of a list of pieces: one step. -/
def gStep (v f s : Int) (acc : List Int) (x : Fd) : List Int := if isB x.p v f s = true ∧ acc.getLast? ≠ some (x.drive : Int) then acc ++ [(x.drive : Int)] else acc
def goodTo (v f s : Int) (l : List Fd) : List Int := l.foldl (gStep v f s) []
def goodI (r : Re) (v f s : Int) : List Int := goodTo v f s (pieces r)
theorem goodTo_succ (v f s : Int) (l : List Fd) (j : Nat) (h : j < l.length) : goodTo v f s (l.take (j + 1)) = gStep v f s (goodTo v f s (l.take j)) l[j] := by
  unfold goodTo
  rw [List.take_succ_eq_append_getElem h, List.foldl_append]
  rfl
theorem gStep_off {v f s : Int} {acc : List Int} {x : Fd} (h : isB x.p v f s = false) : gStep v f s acc x = acc := by unfold gStep; rw [if_neg (fun h2 => by rw [h] at h2; cases h2.1)]
theorem gStep_same {v f s : Int} {acc : List Int} {x : Fd} (h : acc.getLast? = some (x.drive : Int)) : gStep v f s acc x = acc := by unfold gStep; rw [if_neg (fun h2 => h2.2 h)]
theorem gStep_new {v f s : Int} {acc : List Int} {x : Fd} (h : isB x.p v f s = true) (h2 : acc.getLast? ≠ some (x.drive : Int)) : gStep v f s acc x = acc ++ [(x.drive : Int)] := by unfold gStep; rw [if_pos ⟨h, h2⟩]
theorem gStep_length (v f s : Int) (acc : List Int) (x : Fd) : (gStep v f s acc x).length ≤ acc.length + 1 := by unfold gStep; split <;> simp
theorem goodTo_length (v f s : Int) (l : List Fd) : (goodTo v f s l).length ≤ l.length := by
  have : ∀ (l : List Fd) (acc : List Int), (l.foldl (gStep v f s) acc).length ≤ acc.length + l.length := by
    intro l
    induction l with
    | nil => intro acc; simp
    | cons x l ih =>
      intro acc
      have h1 := ih (gStep v f s acc x)
      have h2 := gStep_length v f s acc x
      simp only [List.foldl_cons, List.length_cons]
      omega
  simpa [goodTo] using this l []
theorem goodTo_mem (v f s : Int) (l : List Fd) : ∀ y ∈ goodTo v f s l, ∃ x ∈ l, y = (x.drive : Int) := by
  have : ∀ (l : List Fd) (acc : List Int), ∀ y ∈ l.foldl (gStep v f s) acc, y ∈ acc ∨ ∃ x ∈ l, y = (x.drive : Int) := by
    intro l
    induction l with
    | nil => intro acc y hy; exact .inl hy
    | cons x l ih =>
      intro acc y hy
      rcases ih _ y hy with h | ⟨z, hz, e⟩
      · unfold gStep at h
        split at h
        · rcases List.mem_append.1 h with h | h
          · exact .inl h
          · exact .inr ⟨x, by simp, by simpa using h⟩
        · exact .inl h
      · exact .inr ⟨z, List.mem_cons_of_mem _ hz, e⟩
  intro y hy
  rcases this l [] y hy with h | h
  · cases h
  · exact h
/-- What the region's loads read: a piece on a drive, and the last drive of a row of one's own. -/
def HeldG (W0 : World) (b p g m : Nat) (x0 x1 x2 x3 x4 x5 x6 : Value) (z : Option Value) (w' : World) : Prop :=
  w'.cell? ⟨b, p, none⟩ = some x0 ∧ w'.cell? ⟨b, p + 1, none⟩ = some x1 ∧ w'.cell? ⟨b, p + 2, none⟩ = some x2 ∧ w'.cell? ⟨b, p + 3, none⟩ = some x3 ∧ w'.cell? ⟨b, p + 4, none⟩ = some x4 ∧ w'.cell? ⟨b, p + 5, none⟩ = some x5 ∧ w'.cell? ⟨b, p + 6, none⟩ = some x6 ∧
  w'.cell? ⟨g, m, none⟩ = z ∧ Below W0.heap.size W0 w'
theorem HeldG.below {W0 wc w2 : World} {b p g m : Nat} {x0 x1 x2 x3 x4 x5 x6 : Value} {z : Option Value} (h : HeldG W0 b p g m x0 x1 x2 x3 x4 x5 x6 z wc) (hb : Below wc.heap.size wc w2) (h1 : b < W0.heap.size) (h2 : g < W0.heap.size) : HeldG W0 b p g m x0 x1 x2 x3 x4 x5 x6 z w2 := by
  obtain ⟨c0, c1, c2, c3, c4, c5, c6, d0, hB⟩ := h
  have hs := hB.size
  have k : ∀ i, w2.cell? ⟨b, i, none⟩ = wc.cell? ⟨b, i, none⟩ := fun i => hb.cell (p := ⟨b, i, none⟩) (Nat.lt_of_lt_of_le h1 hs)
  have m : ∀ i, w2.cell? ⟨g, i, none⟩ = wc.cell? ⟨g, i, none⟩ := fun i => hb.cell (p := ⟨g, i, none⟩) (Nat.lt_of_lt_of_le h2 hs)
  exact ⟨(k _).trans c0, (k _).trans c1, (k _).trans c2, (k _).trans c3, (k _).trans c4, (k _).trans c5, (k _).trans c6, (m _).trans d0, hB.trans (hb.mono hs)⟩
theorem HeldG.bl {W0 wc : World} {b p g m : Nat} {x0 x1 x2 x3 x4 x5 x6 : Value} {z : Option Value} (h : HeldG W0 b p g m x0 x1 x2 x3 x4 x5 x6 z wc) : Below W0.heap.size W0 wc := by
  obtain ⟨c0, c1, c2, c3, c4, c5, c6, d0, hB⟩ := h
  exact hB
/-- What the region's loads read: a piece on a drive,. -/
def HeldP (W0 : World) (b p : Nat) (x0 x1 x2 x3 x4 x5 x6 : Value) (w' : World) : Prop :=
  w'.cell? ⟨b, p, none⟩ = some x0 ∧ w'.cell? ⟨b, p + 1, none⟩ = some x1 ∧ w'.cell? ⟨b, p + 2, none⟩ = some x2 ∧ w'.cell? ⟨b, p + 3, none⟩ = some x3 ∧ w'.cell? ⟨b, p + 4, none⟩ = some x4 ∧ w'.cell? ⟨b, p + 5, none⟩ = some x5 ∧ w'.cell? ⟨b, p + 6, none⟩ = some x6 ∧
  Below W0.heap.size W0 w'
theorem HeldP.below {W0 wc w2 : World} {b p : Nat} {x0 x1 x2 x3 x4 x5 x6 : Value} (h : HeldP W0 b p x0 x1 x2 x3 x4 x5 x6 wc) (hb : Below wc.heap.size wc w2) (h1 : b < W0.heap.size) : HeldP W0 b p x0 x1 x2 x3 x4 x5 x6 w2 := by
  obtain ⟨c0, c1, c2, c3, c4, c5, c6, hB⟩ := h
  have hs := hB.size
  have k : ∀ i, w2.cell? ⟨b, i, none⟩ = wc.cell? ⟨b, i, none⟩ := fun i => hb.cell (p := ⟨b, i, none⟩) (Nat.lt_of_lt_of_le h1 hs)
  exact ⟨(k _).trans c0, (k _).trans c1, (k _).trans c2, (k _).trans c3, (k _).trans c4, (k _).trans c5, (k _).trans c6, hB.trans (hb.mono hs)⟩
theorem HeldP.bl {W0 wc : World} {b p : Nat} {x0 x1 x2 x3 x4 x5 x6 : Value} (h : HeldP W0 b p x0 x1 x2 x3 x4 x5 x6 wc) : Below W0.heap.size W0 wc := by
  obtain ⟨c0, c1, c2, c3, c4, c5, c6, hB⟩ := h
  exact hB
theorem HeldG.c0 {W0 wc : World} {b p g m : Nat} {x0 x1 x2 x3 x4 x5 x6 : Value} {z : Option Value} (h : HeldG W0 b p g m x0 x1 x2 x3 x4 x5 x6 z wc) : wc.cell? ⟨b, p, none⟩ = some x0 := h.1
theorem HeldP.c0 {W0 wc : World} {b p : Nat} {x0 x1 x2 x3 x4 x5 x6 : Value} (h : HeldP W0 b p x0 x1 x2 x3 x4 x5 x6 wc) : wc.cell? ⟨b, p, none⟩ = some x0 := h.1
theorem OwnI.last {w : World} {base : Nat} {v : Value} {xs : List Int} (h : OwnI w base v xs) (h0 : xs ≠ []) : ∃ g c m la, v = .slice (some ⟨g, 0, none⟩) xs.length c ∧ xs.length = m + 1 ∧ xs.getLast? = some la ∧ g < w.heap.size ∧ w.cell? ⟨g, m, none⟩ = some (.int .i64 la) := by
  have h1 : w.ownsRow base 3 1 v xs.length (xs.map (Value.int .i64)) := h
  have hc := fun g => h1.cells (g := g)
  have hlt := h1.lt
  have hl : 0 < xs.length := List.length_pos_iff.2 h0
  rcases h1.2 with ⟨rfl, h0⟩ | ⟨g, cap, cur, rfl, _, _, h2, h3, _⟩
  · omega
  · have hg : xs.getLast? = some (xs[xs.length - 1]'(by omega)) := by rw [List.getLast?_eq_getElem?, List.getElem?_eq_getElem (by omega)]
    refine ⟨g, cap, xs.length - 1, xs[xs.length - 1]'(by omega), rfl, by omega, hg, (hlt g rfl).2, ?_⟩
    have := hc g rfl (xs.length - 1) (.int .i64 (xs[xs.length - 1]'(by omega))) (by simp [List.getElem?_eq_getElem (show xs.length - 1 < xs.length by omega)])
    rw [← this]
    unfold Addr.add; split <;> simp_all
set_option maxRecDepth 100000 in
set_option maxHeartbeats 3200000 in
theorem refGood_any (vp vo va : Value) (r : Re) (v f s : Int) (w : World) (h : ReS w (Bl w.heap.size) vp vo va r) (hp : r.plat.length ≤ 1000) (hl : ∀ l ∈ r.plat, l.length ≤ 1000) :
    Calls Try.prog 10 #[.agg #[vp, vo, va], .int .i64 v, .int .i64 f, .int .i64 s] w fun e w' => ∃ u, e = .returned u ∧ OwnI w' w.heap.size u (goodI r v f s) ∧ Below w.heap.size w w' := by
  have HR := Lib.hid h
  have HPC := Lib.hid (fun w1 h1 => pieces_any vp vo va r w1 h1 hp hl)
  have HPD := Lib.hid (pieces_drive r (by omega))
  have hlenp : (pieces r).length ≤ 1000000 := by
    have h1 := piecesTo_length r 1000 hl r.plat.length
    have h2 : r.plat.length * 1000 ≤ 1000 * 1000 := Nat.mul_le_mul_right 1000 hp
    unfold pieces
    omega
  obtain ⟨l, hpl⟩ : ∃ l, l = pieces r := ⟨_, rfl⟩
  rw [← hpl] at hlenp HPD HPC
  have HPL := Lib.hid hpl
  obtain ⟨W0, hW0⟩ : ∃ W0, W0 = w.alloc (.cells #[vp, vo, va] 27) := ⟨_, rfl⟩
  obtain ⟨q, hq⟩ : ∃ q, q = w.heap.size := ⟨_, rfl⟩
  have c0 : W0.cell? ⟨q, 0, none⟩ = some vp := by rw [hW0, hq]; simp
  have c1 : W0.cell? ⟨q, 1, none⟩ = some vo := by rw [hW0, hq]; simp
  have c2 : W0.cell? ⟨q, 2, none⟩ = some va := by rw [hW0, hq]; simp
  have hb0 : Below w.heap.size w W0 := by rw [hW0]; exact (Below.refl _ _).alloc (Nat.le_refl _) _
  have HQ := Lib.hid hq
  have HW0 := Lib.hid hW0
  have HB0 := Lib.hid hb0
  have HR0 := Lib.hid (h.below hb0)
  clear h hp hl hW0 hq hb0 hpl
  go_enter Try.func10, Try.ntmps10
  go_wp2_with fail
  rw [← HW0.out, ← HQ.out]
  refine (HPC.out _ HR0.out).mono ?_
  rintro e w1 ⟨ul, rfl, hOF, hbf⟩
  have hb1 := HB0.out.trans (hbf.mono HB0.out.size)
  have hLL := hOF.slBl HPD.out
  obtain ⟨Al, cl, rfl, -, hm⟩ := SlS.form hLL
  have HL := Lib.hid hLL
  have HB1 := Lib.hid hb1
  obtain ⟨W1, hW1⟩ : ∃ W1, W1 = w1 := ⟨_, rfl⟩
  rw [← hW1] at HL HB1 hbf
  have HBF := Lib.hid hbf
  subst hW1
  clear c0 c1 c2 hOF hb1 hLL hbf
  unfold maxLen at hm
  go_wp2_with fail
  go_loopg [9, 11] l.length (fun z v9 v11 wr => ∃ j : Nat, j ≤ l.length ∧ z = l.length - j ∧ v11 = .int .i64 (j : Int) ∧ OwnI wr W1.heap.size v9 (goodTo v f s (l.take j)) ∧ Below W1.heap.size W1 wr)
  case atStart => exact ⟨0, by omega, rfl, rfl, OwnI.nil _ _, Below.refl _ _⟩
  case round =>
    obtain ⟨j, hj, rfl, rfl, hO, hbr⟩ := hrel
    by_cases hlt : j < l.length
    · obtain ⟨b, off, cs, rfl, hRb, -, hcs, hfk, hdr⟩ := HL.out.at_ hlt
      obtain ⟨k0, k1, k2, k3, k4, k5, k6⟩ := seven hcs hfk
      have hnx := goodTo_succ v f s l j hlt
      have hlen : (goodTo v f s (l.take j)).length + 1 ≤ 16777216 := by
        have h1 := goodTo_length v f s (l.take j)
        have h2 : (l.take j).length ≤ j := List.length_take_le _ _
        omega
      obtain ⟨x, hx⟩ : ∃ x, x = l[j] := ⟨_, rfl⟩
      rw [← hx] at k0 k1 k2 k3 k4 k5 k6 hdr hnx
      obtain ⟨xs, hxs⟩ : ∃ xs, xs = goodTo v f s (l.take j) := ⟨_, rfl⟩
      rw [← hxs] at hnx hO hlen
      have HIS := Lib.hid (fun w => is_any x.p v f s w)
      have hbl : b < wr.heap.size := Nat.lt_of_lt_of_le hRb hbr.size
      have kk : ∀ i u, W1.cell? ⟨b, i, none⟩ = some u → wr.cell? ⟨b, i, none⟩ = some u := fun i u e => (hbr.cell (p := ⟨b, i, none⟩) hRb).trans e
      obtain ⟨dr, ⟨pa, pb, pc, pg, pr, px⟩⟩ := x
      unfold PcV at HIS
      simp only at k0 k1 k2 k3 k4 k5 k6 HIS hdr
      have hS0 : HeldP wr b (off + j * 7) _ _ _ _ _ _ _ wr.drew := ⟨kk _ _ k0, kk _ _ k1, kk _ _ k2, kk _ _ k3, kk _ _ k4, kk _ _ k5, kk _ _ k6, (Below.refl _ _).drew⟩
      obtain ⟨y, hy⟩ : ∃ y : ByteArray, y = ⟨px.toArray⟩ := ⟨_, rfl⟩
      rw [← hy] at hS0 HIS
      have HS0 := Lib.hid hS0
      have HNX := Lib.hid hnx
      have HO := Lib.hid hO
      obtain ⟨wo, rfl⟩ : ∃ wo : World, wo = wr := ⟨_, rfl⟩
      have j0 : (0 : Int) ≤ (j : Int) := by omega
      have j1 : (j : Int) < (l.length : Int) := by omega
      have HRb := Lib.hid hRb
      clear k0 k1 k2 k3 k4 k5 k6 hcs hfk hx hnx hS0 hy kk hxs cs hRb
      cases hi : isB ⟨pa, pb, pc, pg, pr, px⟩ v f s with
      | false =>
        rw [hi] at HIS
        have HNX := Lib.hid (HNX.out.trans (gStep_off hi))
        obtain ⟨A3, c3, rfl⟩ := hO.form
        clear hi hO
        -- W1{
        go_upto_region 6 with fail
        refine wp_region_held_drew (S := (fun w' => w'.cell? ⟨b, off + j * 7, none⟩ = some (.int .i64 (dr : Int)) ∧ w'.cell? ⟨b, off + j * 7 + 1, none⟩ = some (.int .i64 pa) ∧ w'.cell? ⟨b, off + j * 7 + 2, none⟩ = some (.int .i64 pb) ∧ w'.cell? ⟨b, off + j * 7 + 3, none⟩ = some (.int .i64 pc) ∧ w'.cell? ⟨b, off + j * 7 + 4, none⟩ = some (.int .i64 pg) ∧ w'.cell? ⟨b, off + j * 7 + 5, none⟩ = some (.int .i64 pr) ∧ w'.cell? ⟨b, off + j * 7 + 6, none⟩ = some (.string y) ∧ Below wo.heap.size wo w')) (by kernel_rfl) HS0.out (fun hHeld => ?_)
        refine takeD (i := 0) (d := 20) (v := ?_) rfl rfl (by kernel_rfl) (by kernel_rfl) (by kernel_rfl) (fun _ _ _ h => h) (Or.inl ⟨by rfl, ?_⟩) (by assumption) ?_
        rotate_left
        · (intro w hSw; (try dsimp only at hSw); go_simp; first | done | with_reducible rfl)
        (try simp only [Act.put, List.setIfInBounds_toArray, List.set_cons_zero, List.set_cons_succ])
        refine takeD (i := 1) (d := 21) (v := ?_) rfl rfl (by kernel_rfl) (by kernel_rfl) (by kernel_rfl) (fun _ _ _ h => h) (Or.inl ⟨by rfl, ?_⟩) (by assumption) ?_
        rotate_left
        · (intro w hSw; (try dsimp only at hSw); go_simp; first | done | with_reducible rfl)
        (try simp only [Act.put, List.setIfInBounds_toArray, List.set_cons_zero, List.set_cons_succ])
        refine takeD (i := 2) (d := 22) (v := ?_) rfl rfl (by kernel_rfl) (by kernel_rfl) (by kernel_rfl) (fun _ _ _ h => h) (Or.inl ⟨by rfl, ?_⟩) (by assumption) ?_
        rotate_left
        · (intro w hSw; (try dsimp only at hSw); go_simp; first | done | with_reducible rfl)
        (try simp only [Act.put, List.setIfInBounds_toArray, List.set_cons_zero, List.set_cons_succ])
        refine takeD (i := 3) (d := 23) (v := ?_) rfl rfl (by kernel_rfl) (by kernel_rfl) (by kernel_rfl) (fun _ _ _ h => h) (Or.inl ⟨by rfl, ?_⟩) (by assumption) ?_
        rotate_left
        · (intro w hSw; (try dsimp only at hSw); go_simp; first | done | with_reducible rfl)
        (try simp only [Act.put, List.setIfInBounds_toArray, List.set_cons_zero, List.set_cons_succ])
        refine takeD (i := 4) (d := 24) (v := ?_) rfl rfl (by kernel_rfl) (by kernel_rfl) (by kernel_rfl) (fun _ _ _ h => h) (Or.inl ⟨by rfl, ?_⟩) (by assumption) ?_
        rotate_left
        · (intro w hSw; (try dsimp only at hSw); go_simp; first | done | with_reducible rfl)
        (try simp only [Act.put, List.setIfInBounds_toArray, List.set_cons_zero, List.set_cons_succ])
        refine takeD (i := 5) (d := 25) (v := ?_) rfl rfl (by kernel_rfl) (by kernel_rfl) (by kernel_rfl) (fun _ _ _ h => h) (Or.inl ⟨by rfl, ?_⟩) (by assumption) ?_
        rotate_left
        · (intro w hSw; (try dsimp only at hSw); go_simp; first | done | with_reducible rfl)
        (try simp only [Act.put, List.setIfInBounds_toArray, List.set_cons_zero, List.set_cons_succ])
        refine takeD (i := 6) (d := 26) (v := ?_) rfl rfl (by kernel_rfl) (by kernel_rfl) (by kernel_rfl) (fun _ _ _ h => h) (Or.inl ⟨by rfl, ?_⟩) (by assumption) ?_
        rotate_left
        · (intro w hSw; (try dsimp only at hSw); go_simp; first | done | with_reducible rfl)
        (try simp only [Act.put, List.setIfInBounds_toArray, List.set_cons_zero, List.set_cons_succ])
        refine takeD (i := 7) (d := 27) (v := ?_) rfl rfl (by kernel_rfl) (by kernel_rfl) (by kernel_rfl) (fun _ _ _ h => h) (Or.inl ⟨by rfl, ?_⟩) (by assumption) ?_
        rotate_left
        · (intro w hSw; (try dsimp only at hSw); go_simp; first | done | with_reducible rfl)
        (try simp only [Act.put, List.setIfInBounds_toArray, List.set_cons_zero, List.set_cons_succ])
        refine wpAnyH_ready (rs := [8]) (by kernel_rfl) (by simp) ?_
        refine AllReadyH.cons rfl (fun K hK => ?_) ?_
        · go_simp
          (go_at_call 22; refine (HIS.out _).mono ?_; rintro e w2 ⟨rfl, hb2⟩)
          go_wp2_with fail
          refine hK.out _ _ ?_ (fun hHeld => ?_)
          · (first | assumption | exact HeldP.below (by assumption) hb2 hbl)
          clear hK K
          (try simp only [Act.put, List.setIfInBounds_toArray, List.set_cons_zero, List.set_cons_succ])
          refine takeD (i := 9) (d := 29) (v := ?_) rfl rfl (by kernel_rfl) (by kernel_rfl) (by kernel_rfl) (fun _ _ _ h => h) (Or.inl ⟨by rfl, ?_⟩) (by assumption) ?_
          rotate_left
          · (intro w hSw; (try dsimp only at hSw); go_simp; first | done | with_reducible rfl)
          (try simp only [Act.put, List.setIfInBounds_toArray, List.set_cons_zero, List.set_cons_succ])
          refine takeD (i := 10) (d := 30) (v := undef) rfl rfl (by kernel_rfl) (by kernel_rfl) (by kernel_rfl) (fun _ _ _ h => h) (Or.inr ⟨by kernel_rfl, rfl⟩) (by assumption) ?_
          (try simp only [Act.put, List.setIfInBounds_toArray, List.set_cons_zero, List.set_cons_succ])
          refine takeD (i := 11) (d := 31) (v := undef) rfl rfl (by kernel_rfl) (by kernel_rfl) (by kernel_rfl) (fun _ _ _ h => h) (Or.inr ⟨by kernel_rfl, rfl⟩) (by assumption) ?_
          (try simp only [Act.put, List.setIfInBounds_toArray, List.set_cons_zero, List.set_cons_succ])
          refine takeD (i := 12) (d := 32) (v := undef) rfl rfl (by kernel_rfl) (by kernel_rfl) (by kernel_rfl) (fun _ _ _ h => h) (Or.inr ⟨by kernel_rfl, rfl⟩) (by assumption) ?_
          (try simp only [Act.put, List.setIfInBounds_toArray, List.set_cons_zero, List.set_cons_succ])
          refine takeD (i := 13) (d := 33) (v := undef) rfl rfl (by kernel_rfl) (by kernel_rfl) (by kernel_rfl) (fun _ _ _ h => h) (Or.inr ⟨by kernel_rfl, rfl⟩) (by assumption) ?_
          (try simp only [Act.put, List.setIfInBounds_toArray, List.set_cons_zero, List.set_cons_succ])
          refine takeD (i := 14) (d := 34) (v := undef) rfl rfl (by kernel_rfl) (by kernel_rfl) (by kernel_rfl) (fun _ _ _ h => h) (Or.inr ⟨by kernel_rfl, rfl⟩) (by assumption) ?_
          (try simp only [Act.put, List.setIfInBounds_toArray, List.set_cons_zero, List.set_cons_succ])
          refine takeD (i := 15) (d := 35) (v := undef) rfl rfl (by kernel_rfl) (by kernel_rfl) (by kernel_rfl) (fun _ _ _ h => h) (Or.inr ⟨by kernel_rfl, rfl⟩) (by assumption) ?_
          (try simp only [Act.put, List.setIfInBounds_toArray, List.set_cons_zero, List.set_cons_succ])
          refine takeD (i := 16) (d := 36) (v := undef) rfl rfl (by kernel_rfl) (by kernel_rfl) (by kernel_rfl) (fun _ _ _ h => h) (Or.inr ⟨by kernel_rfl, rfl⟩) (by assumption) ?_
          (try simp only [Act.put, List.setIfInBounds_toArray, List.set_cons_zero, List.set_cons_succ])
          refine takeD (i := 17) (d := 37) (v := undef) rfl rfl (by kernel_rfl) (by kernel_rfl) (by kernel_rfl) (fun _ _ _ h => h) (Or.inr ⟨by kernel_rfl, rfl⟩) (by assumption) ?_
          (try simp only [Act.put, List.setIfInBounds_toArray, List.set_cons_zero, List.set_cons_succ])
          refine takeD (i := 18) (d := 38) (v := undef) rfl rfl (by kernel_rfl) (by kernel_rfl) (by kernel_rfl) (fun _ _ _ h => h) (Or.inr ⟨by kernel_rfl, rfl⟩) (by assumption) ?_
          (try simp only [Act.put, List.setIfInBounds_toArray, List.set_cons_zero, List.set_cons_succ])
          refine takeD (i := 19) (d := 39) (v := undef) rfl rfl (by kernel_rfl) (by kernel_rfl) (by kernel_rfl) (fun _ _ _ h => h) (Or.inr ⟨by kernel_rfl, rfl⟩) (by assumption) ?_
          (try simp only [Act.put, List.setIfInBounds_toArray, List.set_cons_zero, List.set_cons_succ])
          refine takeD (i := 20) (d := 40) (v := undef) rfl rfl (by kernel_rfl) (by kernel_rfl) (by kernel_rfl) (fun _ _ _ h => h) (Or.inr ⟨by kernel_rfl, rfl⟩) (by assumption) ?_
          (try simp only [Act.put, List.setIfInBounds_toArray, List.set_cons_zero, List.set_cons_succ])
          refine takeD (i := 21) (d := 41) (v := undef) rfl rfl (by kernel_rfl) (by kernel_rfl) (by kernel_rfl) (fun _ _ _ h => h) (Or.inr ⟨by kernel_rfl, rfl⟩) (by assumption) ?_
          (try simp only [Act.put, List.setIfInBounds_toArray, List.set_cons_zero, List.set_cons_succ])
          refine takeD (i := 22) (d := 42) (v := undef) rfl rfl (by kernel_rfl) (by kernel_rfl) (by kernel_rfl) (fun _ _ _ h => h) (Or.inr ⟨by kernel_rfl, rfl⟩) (by assumption) ?_
          (try simp only [Act.put, List.setIfInBounds_toArray, List.set_cons_zero, List.set_cons_succ])
          refine takeD (i := 23) (d := 43) (v := undef) rfl rfl (by kernel_rfl) (by kernel_rfl) (by kernel_rfl) (fun _ _ _ h => h) (Or.inr ⟨by kernel_rfl, rfl⟩) (by assumption) ?_
          (try simp only [Act.put, List.setIfInBounds_toArray, List.set_cons_zero, List.set_cons_succ])
          refine takeD (i := 24) (d := 44) (v := undef) rfl rfl (by kernel_rfl) (by kernel_rfl) (by kernel_rfl) (fun _ _ _ h => h) (Or.inr ⟨by kernel_rfl, rfl⟩) (by assumption) ?_
          (try simp only [Act.put, List.setIfInBounds_toArray, List.set_cons_zero, List.set_cons_succ])
          refine takeD (i := 25) (d := 45) (v := undef) rfl rfl (by kernel_rfl) (by kernel_rfl) (by kernel_rfl) (fun _ _ _ h => h) (Or.inr ⟨by kernel_rfl, rfl⟩) (by assumption) ?_
          (try simp only [Act.put, List.setIfInBounds_toArray, List.set_cons_zero, List.set_cons_succ])
          refine takeD (i := 26) (d := 46) (v := undef) rfl rfl (by kernel_rfl) (by kernel_rfl) (by kernel_rfl) (fun _ _ _ h => h) (Or.inr ⟨by kernel_rfl, rfl⟩) (by assumption) ?_
          (try simp only [Act.put, List.setIfInBounds_toArray, List.set_cons_zero, List.set_cons_succ])
          refine takeD (i := 27) (d := 47) (v := ?_) rfl rfl (by kernel_rfl) (by kernel_rfl) (by kernel_rfl) (fun _ _ _ h => h) (Or.inl ⟨by rfl, ?_⟩) (by assumption) ?_
          rotate_left
          · (intro w hSw; (try dsimp only at hSw); go_simp; first | done | with_reducible rfl)
          (try simp only [Act.put, List.setIfInBounds_toArray, List.set_cons_zero, List.set_cons_succ])
          refine wpAnyH_done (by kernel_rfl) ?_ _
          have hbz := HeldP.bl (W0 := wo) (b := b) (p := off + j * 7) (by assumption)
          have hbz2 := hbr.trans (hbz.mono hbr.size)
          have HO2 := Lib.hid (HO.out.below hbz)
          go_wp2_with fail
          go_roundg (l.length - (j + 1))
          case measure => omega
          case rel => exact ⟨j + 1, by omega, rfl, by go_num, by rw [HNX.out]; exact HO2.out, hbz2⟩
        exact AllReadyH.nil
        -- }W1
      | true =>
        rw [hi] at HIS
        by_cases h0 : xs = []
        · have HNX := Lib.hid (HNX.out.trans (gStep_new hi (by rw [h0]; simp)))
          obtain ⟨A3, c3, rfl⟩ := hO.form
          have h00 : xs.length = 0 := by rw [h0]; rfl
          have HXL := Lib.hid h00
          rw [h00] at HO hlen ⊢
          clear hi hO h0 h00
          -- W2{
          go_upto_region 6 with fail
          refine wp_region_held_drew (S := (fun w' => w'.cell? ⟨b, off + j * 7, none⟩ = some (.int .i64 (dr : Int)) ∧ w'.cell? ⟨b, off + j * 7 + 1, none⟩ = some (.int .i64 pa) ∧ w'.cell? ⟨b, off + j * 7 + 2, none⟩ = some (.int .i64 pb) ∧ w'.cell? ⟨b, off + j * 7 + 3, none⟩ = some (.int .i64 pc) ∧ w'.cell? ⟨b, off + j * 7 + 4, none⟩ = some (.int .i64 pg) ∧ w'.cell? ⟨b, off + j * 7 + 5, none⟩ = some (.int .i64 pr) ∧ w'.cell? ⟨b, off + j * 7 + 6, none⟩ = some (.string y) ∧ Below wo.heap.size wo w')) (by kernel_rfl) HS0.out (fun hHeld => ?_)
          refine takeD (i := 0) (d := 20) (v := ?_) rfl rfl (by kernel_rfl) (by kernel_rfl) (by kernel_rfl) (fun _ _ _ h => h) (Or.inl ⟨by rfl, ?_⟩) (by assumption) ?_
          rotate_left
          · (intro w hSw; (try dsimp only at hSw); go_simp; first | done | with_reducible rfl)
          (try simp only [Act.put, List.setIfInBounds_toArray, List.set_cons_zero, List.set_cons_succ])
          refine takeD (i := 1) (d := 21) (v := ?_) rfl rfl (by kernel_rfl) (by kernel_rfl) (by kernel_rfl) (fun _ _ _ h => h) (Or.inl ⟨by rfl, ?_⟩) (by assumption) ?_
          rotate_left
          · (intro w hSw; (try dsimp only at hSw); go_simp; first | done | with_reducible rfl)
          (try simp only [Act.put, List.setIfInBounds_toArray, List.set_cons_zero, List.set_cons_succ])
          refine takeD (i := 2) (d := 22) (v := ?_) rfl rfl (by kernel_rfl) (by kernel_rfl) (by kernel_rfl) (fun _ _ _ h => h) (Or.inl ⟨by rfl, ?_⟩) (by assumption) ?_
          rotate_left
          · (intro w hSw; (try dsimp only at hSw); go_simp; first | done | with_reducible rfl)
          (try simp only [Act.put, List.setIfInBounds_toArray, List.set_cons_zero, List.set_cons_succ])
          refine takeD (i := 3) (d := 23) (v := ?_) rfl rfl (by kernel_rfl) (by kernel_rfl) (by kernel_rfl) (fun _ _ _ h => h) (Or.inl ⟨by rfl, ?_⟩) (by assumption) ?_
          rotate_left
          · (intro w hSw; (try dsimp only at hSw); go_simp; first | done | with_reducible rfl)
          (try simp only [Act.put, List.setIfInBounds_toArray, List.set_cons_zero, List.set_cons_succ])
          refine takeD (i := 4) (d := 24) (v := ?_) rfl rfl (by kernel_rfl) (by kernel_rfl) (by kernel_rfl) (fun _ _ _ h => h) (Or.inl ⟨by rfl, ?_⟩) (by assumption) ?_
          rotate_left
          · (intro w hSw; (try dsimp only at hSw); go_simp; first | done | with_reducible rfl)
          (try simp only [Act.put, List.setIfInBounds_toArray, List.set_cons_zero, List.set_cons_succ])
          refine takeD (i := 5) (d := 25) (v := ?_) rfl rfl (by kernel_rfl) (by kernel_rfl) (by kernel_rfl) (fun _ _ _ h => h) (Or.inl ⟨by rfl, ?_⟩) (by assumption) ?_
          rotate_left
          · (intro w hSw; (try dsimp only at hSw); go_simp; first | done | with_reducible rfl)
          (try simp only [Act.put, List.setIfInBounds_toArray, List.set_cons_zero, List.set_cons_succ])
          refine takeD (i := 6) (d := 26) (v := ?_) rfl rfl (by kernel_rfl) (by kernel_rfl) (by kernel_rfl) (fun _ _ _ h => h) (Or.inl ⟨by rfl, ?_⟩) (by assumption) ?_
          rotate_left
          · (intro w hSw; (try dsimp only at hSw); go_simp; first | done | with_reducible rfl)
          (try simp only [Act.put, List.setIfInBounds_toArray, List.set_cons_zero, List.set_cons_succ])
          refine takeD (i := 7) (d := 27) (v := ?_) rfl rfl (by kernel_rfl) (by kernel_rfl) (by kernel_rfl) (fun _ _ _ h => h) (Or.inl ⟨by rfl, ?_⟩) (by assumption) ?_
          rotate_left
          · (intro w hSw; (try dsimp only at hSw); go_simp; first | done | with_reducible rfl)
          (try simp only [Act.put, List.setIfInBounds_toArray, List.set_cons_zero, List.set_cons_succ])
          refine wpAnyH_ready (rs := [8]) (by kernel_rfl) (by simp) ?_
          refine AllReadyH.cons rfl (fun K hK => ?_) ?_
          · go_simp
            (go_at_call 22; refine (HIS.out _).mono ?_; rintro e w2 ⟨rfl, hb2⟩)
            go_wp2_with fail
            refine hK.out _ _ ?_ (fun hHeld => ?_)
            · (first | assumption | exact HeldP.below (by assumption) hb2 hbl)
            clear hK K
            (try simp only [Act.put, List.setIfInBounds_toArray, List.set_cons_zero, List.set_cons_succ])
            refine takeD (i := 9) (d := 29) (v := ?_) rfl rfl (by kernel_rfl) (by kernel_rfl) (by kernel_rfl) (fun _ _ _ h => h) (Or.inl ⟨by rfl, ?_⟩) (by assumption) ?_
            rotate_left
            · (intro w hSw; (try dsimp only at hSw); go_simp; first | done | with_reducible rfl)
            (try simp only [Act.put, List.setIfInBounds_toArray, List.set_cons_zero, List.set_cons_succ])
            refine takeD (i := 10) (d := 30) (v := ?_) rfl rfl (by kernel_rfl) (by kernel_rfl) (by kernel_rfl) (fun _ _ _ h => h) (Or.inl ⟨by rfl, ?_⟩) (by assumption) ?_
            rotate_left
            · (intro w hSw; (try dsimp only at hSw); go_simp; first | done | with_reducible rfl)
            (try simp only [Act.put, List.setIfInBounds_toArray, List.set_cons_zero, List.set_cons_succ])
            refine takeD (i := 11) (d := 31) (v := ?_) rfl rfl (by kernel_rfl) (by kernel_rfl) (by kernel_rfl) (fun _ _ _ h => h) (Or.inl ⟨by rfl, ?_⟩) (by assumption) ?_
            rotate_left
            · (intro w hSw; (try dsimp only at hSw); go_simp; first | done | with_reducible rfl)
            (try simp only [Act.put, List.setIfInBounds_toArray, List.set_cons_zero, List.set_cons_succ])
            refine takeD (i := 12) (d := 32) (v := ?_) rfl rfl (by kernel_rfl) (by kernel_rfl) (by kernel_rfl) (fun _ _ _ h => h) (Or.inl ⟨by rfl, ?_⟩) (by assumption) ?_
            rotate_left
            · (intro w hSw; (try dsimp only at hSw); go_simp; first | done | with_reducible rfl)
            (try simp only [Act.put, List.setIfInBounds_toArray, List.set_cons_zero, List.set_cons_succ])
            refine takeD (i := 13) (d := 33) (v := ?_) rfl rfl (by kernel_rfl) (by kernel_rfl) (by kernel_rfl) (fun _ _ _ h => h) (Or.inl ⟨by rfl, ?_⟩) (by assumption) ?_
            rotate_left
            · (intro w hSw; (try dsimp only at hSw); go_simp; first | done | with_reducible rfl)
            (try simp only [Act.put, List.setIfInBounds_toArray, List.set_cons_zero, List.set_cons_succ])
            refine takeD (i := 14) (d := 34) (v := undef) rfl rfl (by kernel_rfl) (by kernel_rfl) (by kernel_rfl) (fun _ _ _ h => h) (Or.inr ⟨by kernel_rfl, rfl⟩) (by assumption) ?_
            (try simp only [Act.put, List.setIfInBounds_toArray, List.set_cons_zero, List.set_cons_succ])
            refine takeD (i := 15) (d := 35) (v := undef) rfl rfl (by kernel_rfl) (by kernel_rfl) (by kernel_rfl) (fun _ _ _ h => h) (Or.inr ⟨by kernel_rfl, rfl⟩) (by assumption) ?_
            (try simp only [Act.put, List.setIfInBounds_toArray, List.set_cons_zero, List.set_cons_succ])
            refine takeD (i := 16) (d := 36) (v := undef) rfl rfl (by kernel_rfl) (by kernel_rfl) (by kernel_rfl) (fun _ _ _ h => h) (Or.inr ⟨by kernel_rfl, rfl⟩) (by assumption) ?_
            (try simp only [Act.put, List.setIfInBounds_toArray, List.set_cons_zero, List.set_cons_succ])
            refine takeD (i := 17) (d := 37) (v := undef) rfl rfl (by kernel_rfl) (by kernel_rfl) (by kernel_rfl) (fun _ _ _ h => h) (Or.inr ⟨by kernel_rfl, rfl⟩) (by assumption) ?_
            (try simp only [Act.put, List.setIfInBounds_toArray, List.set_cons_zero, List.set_cons_succ])
            refine takeD (i := 18) (d := 38) (v := undef) rfl rfl (by kernel_rfl) (by kernel_rfl) (by kernel_rfl) (fun _ _ _ h => h) (Or.inr ⟨by kernel_rfl, rfl⟩) (by assumption) ?_
            (try simp only [Act.put, List.setIfInBounds_toArray, List.set_cons_zero, List.set_cons_succ])
            refine takeD (i := 19) (d := 39) (v := undef) rfl rfl (by kernel_rfl) (by kernel_rfl) (by kernel_rfl) (fun _ _ _ h => h) (Or.inr ⟨by kernel_rfl, rfl⟩) (by assumption) ?_
            (try simp only [Act.put, List.setIfInBounds_toArray, List.set_cons_zero, List.set_cons_succ])
            refine takeD (i := 20) (d := 40) (v := undef) rfl rfl (by kernel_rfl) (by kernel_rfl) (by kernel_rfl) (fun _ _ _ h => h) (Or.inr ⟨by kernel_rfl, rfl⟩) (by assumption) ?_
            (try simp only [Act.put, List.setIfInBounds_toArray, List.set_cons_zero, List.set_cons_succ])
            refine takeD (i := 21) (d := 41) (v := undef) rfl rfl (by kernel_rfl) (by kernel_rfl) (by kernel_rfl) (fun _ _ _ h => h) (Or.inr ⟨by kernel_rfl, rfl⟩) (by assumption) ?_
            (try simp only [Act.put, List.setIfInBounds_toArray, List.set_cons_zero, List.set_cons_succ])
            refine takeD (i := 22) (d := 42) (v := undef) rfl rfl (by kernel_rfl) (by kernel_rfl) (by kernel_rfl) (fun _ _ _ h => h) (Or.inr ⟨by kernel_rfl, rfl⟩) (by assumption) ?_
            (try simp only [Act.put, List.setIfInBounds_toArray, List.set_cons_zero, List.set_cons_succ])
            refine takeD (i := 23) (d := 43) (v := undef) rfl rfl (by kernel_rfl) (by kernel_rfl) (by kernel_rfl) (fun _ _ _ h => h) (Or.inr ⟨by kernel_rfl, rfl⟩) (by assumption) ?_
            (try simp only [Act.put, List.setIfInBounds_toArray, List.set_cons_zero, List.set_cons_succ])
            refine takeD (i := 24) (d := 44) (v := undef) rfl rfl (by kernel_rfl) (by kernel_rfl) (by kernel_rfl) (fun _ _ _ h => h) (Or.inr ⟨by kernel_rfl, rfl⟩) (by assumption) ?_
            (try simp only [Act.put, List.setIfInBounds_toArray, List.set_cons_zero, List.set_cons_succ])
            refine takeD (i := 25) (d := 45) (v := undef) rfl rfl (by kernel_rfl) (by kernel_rfl) (by kernel_rfl) (fun _ _ _ h => h) (Or.inr ⟨by kernel_rfl, rfl⟩) (by assumption) ?_
            (try simp only [Act.put, List.setIfInBounds_toArray, List.set_cons_zero, List.set_cons_succ])
            refine takeD (i := 26) (d := 46) (v := ?_) rfl rfl (by kernel_rfl) (by kernel_rfl) (by kernel_rfl) (fun _ _ _ h => h) (Or.inl ⟨by rfl, ?_⟩) (by assumption) ?_
            rotate_left
            · (intro w hSw; (try dsimp only at hSw); go_simp; first | done | with_reducible rfl)
            (try simp only [Act.put, List.setIfInBounds_toArray, List.set_cons_zero, List.set_cons_succ])
            refine takeD (i := 27) (d := 47) (v := ?_) rfl rfl (by kernel_rfl) (by kernel_rfl) (by kernel_rfl) (fun _ _ _ h => h) (Or.inl ⟨by rfl, ?_⟩) (by assumption) ?_
            rotate_left
            · (intro w hSw; (try dsimp only at hSw); go_simp; first | done | with_reducible rfl)
            (try simp only [Act.put, List.setIfInBounds_toArray, List.set_cons_zero, List.set_cons_succ])
            refine wpAnyH_done (by kernel_rfl) ?_ _
            have hbz := HeldP.bl (W0 := wo) (b := b) (p := off + j * 7) (by assumption)
            have hbz2 := hbr.trans (hbz.mono hbr.size)
            have hO2 := HO.out.below hbz
            have hsz2 := hbz2.size
            have hO3 : w2.ownsRow W1.heap.size 3 1 (.slice A3 0 c3) 0 (xs.map (Value.int .i64)) := by have h := hO2; unfold OwnI at h; rw [HXL.out] at h; exact h
            have hdc := HeldP.c0 (W0 := wo) (b := b) (p := off + j * 7) (wc := w2) (by assumption)
            go_wp2_with (at_builtin; refine app_i (dr : Int) (.tmp 48) (.tmp 54) rfl rfl W1.heap.size _ 0 xs HXL.out (by rfl) hO3 (by rfl) hlen hsz2 ?_; intro v' w5 hown' hg hat)
            go_roundg (l.length - (j + 1))
            case measure => omega
            case rel => exact ⟨j + 1, by omega, rfl, by go_num, by rw [HNX.out]; exact hown', hbz2.grown hg hsz2 (fun b h => (hO2.lt b h).1)⟩
          exact AllReadyH.nil
          -- }W2
        · obtain ⟨g, c3, m, la, rfl, hxl, hla, hgl, hlc⟩ := HO.out.last h0
          obtain ⟨N, hN⟩ : ∃ N, N = xs.length := ⟨_, rfl⟩
          have n0 : ((N : Int) == 0) = false := by rw [beq_eq_false_iff_ne]; omega
          have n1 : IntKind.i64.wrap ((N : Int) - 1) = (m : Int) := by rw [show (N : Int) - 1 = (m : Int) by omega]; exact IntWalk.i64_in _ (by omega)
          have n2 : (0 : Int) ≤ (m : Int) := by omega
          have n3 : (m : Int) < (N : Int) := by omega
          have hgl2 := hgl
          have HS0 := Lib.hid (⟨HS0.out.1, HS0.out.2.1, HS0.out.2.2.1, HS0.out.2.2.2.1, HS0.out.2.2.2.2.1, HS0.out.2.2.2.2.2.1, HS0.out.2.2.2.2.2.2.1, hlc, HS0.out.2.2.2.2.2.2.2⟩ : HeldG wo b (off + j * 7) g m _ _ _ _ _ _ _ (some (.int .i64 la)) wo.drew)
          have HXL := Lib.hid hN.symm
          rw [← hN] at HO hlen ⊢
          by_cases h1 : la = (dr : Int)
          · have HNX := Lib.hid (HNX.out.trans (gStep_same (by rw [hla, h1])))
            have q1 : (la != (dr : Int)) = false := by simpa using h1
            clear hi hO h0 h1 hla hlc hxl hN hgl2
            -- W3{
            go_upto_region 6 with fail
            refine wp_region_held_drew (S := (fun w' => w'.cell? ⟨b, off + j * 7, none⟩ = some (.int .i64 (dr : Int)) ∧ w'.cell? ⟨b, off + j * 7 + 1, none⟩ = some (.int .i64 pa) ∧ w'.cell? ⟨b, off + j * 7 + 2, none⟩ = some (.int .i64 pb) ∧ w'.cell? ⟨b, off + j * 7 + 3, none⟩ = some (.int .i64 pc) ∧ w'.cell? ⟨b, off + j * 7 + 4, none⟩ = some (.int .i64 pg) ∧ w'.cell? ⟨b, off + j * 7 + 5, none⟩ = some (.int .i64 pr) ∧ w'.cell? ⟨b, off + j * 7 + 6, none⟩ = some (.string y) ∧ w'.cell? ⟨g, m, none⟩ = some (.int .i64 la) ∧ Below wo.heap.size wo w')) (by kernel_rfl) HS0.out (fun hHeld => ?_)
            refine takeD (i := 0) (d := 20) (v := ?_) rfl rfl (by kernel_rfl) (by kernel_rfl) (by kernel_rfl) (fun _ _ _ h => h) (Or.inl ⟨by rfl, ?_⟩) (by assumption) ?_
            rotate_left
            · (intro w hSw; (try dsimp only at hSw); go_simp; first | done | with_reducible rfl)
            (try simp only [Act.put, List.setIfInBounds_toArray, List.set_cons_zero, List.set_cons_succ])
            refine takeD (i := 1) (d := 21) (v := ?_) rfl rfl (by kernel_rfl) (by kernel_rfl) (by kernel_rfl) (fun _ _ _ h => h) (Or.inl ⟨by rfl, ?_⟩) (by assumption) ?_
            rotate_left
            · (intro w hSw; (try dsimp only at hSw); go_simp; first | done | with_reducible rfl)
            (try simp only [Act.put, List.setIfInBounds_toArray, List.set_cons_zero, List.set_cons_succ])
            refine takeD (i := 2) (d := 22) (v := ?_) rfl rfl (by kernel_rfl) (by kernel_rfl) (by kernel_rfl) (fun _ _ _ h => h) (Or.inl ⟨by rfl, ?_⟩) (by assumption) ?_
            rotate_left
            · (intro w hSw; (try dsimp only at hSw); go_simp; first | done | with_reducible rfl)
            (try simp only [Act.put, List.setIfInBounds_toArray, List.set_cons_zero, List.set_cons_succ])
            refine takeD (i := 3) (d := 23) (v := ?_) rfl rfl (by kernel_rfl) (by kernel_rfl) (by kernel_rfl) (fun _ _ _ h => h) (Or.inl ⟨by rfl, ?_⟩) (by assumption) ?_
            rotate_left
            · (intro w hSw; (try dsimp only at hSw); go_simp; first | done | with_reducible rfl)
            (try simp only [Act.put, List.setIfInBounds_toArray, List.set_cons_zero, List.set_cons_succ])
            refine takeD (i := 4) (d := 24) (v := ?_) rfl rfl (by kernel_rfl) (by kernel_rfl) (by kernel_rfl) (fun _ _ _ h => h) (Or.inl ⟨by rfl, ?_⟩) (by assumption) ?_
            rotate_left
            · (intro w hSw; (try dsimp only at hSw); go_simp; first | done | with_reducible rfl)
            (try simp only [Act.put, List.setIfInBounds_toArray, List.set_cons_zero, List.set_cons_succ])
            refine takeD (i := 5) (d := 25) (v := ?_) rfl rfl (by kernel_rfl) (by kernel_rfl) (by kernel_rfl) (fun _ _ _ h => h) (Or.inl ⟨by rfl, ?_⟩) (by assumption) ?_
            rotate_left
            · (intro w hSw; (try dsimp only at hSw); go_simp; first | done | with_reducible rfl)
            (try simp only [Act.put, List.setIfInBounds_toArray, List.set_cons_zero, List.set_cons_succ])
            refine takeD (i := 6) (d := 26) (v := ?_) rfl rfl (by kernel_rfl) (by kernel_rfl) (by kernel_rfl) (fun _ _ _ h => h) (Or.inl ⟨by rfl, ?_⟩) (by assumption) ?_
            rotate_left
            · (intro w hSw; (try dsimp only at hSw); go_simp; first | done | with_reducible rfl)
            (try simp only [Act.put, List.setIfInBounds_toArray, List.set_cons_zero, List.set_cons_succ])
            refine takeD (i := 7) (d := 27) (v := ?_) rfl rfl (by kernel_rfl) (by kernel_rfl) (by kernel_rfl) (fun _ _ _ h => h) (Or.inl ⟨by rfl, ?_⟩) (by assumption) ?_
            rotate_left
            · (intro w hSw; (try dsimp only at hSw); go_simp; first | done | with_reducible rfl)
            (try simp only [Act.put, List.setIfInBounds_toArray, List.set_cons_zero, List.set_cons_succ])
            refine wpAnyH_ready (rs := [8]) (by kernel_rfl) (by simp) ?_
            refine AllReadyH.cons rfl (fun K hK => ?_) ?_
            · go_simp
              (go_at_call 22; refine (HIS.out _).mono ?_; rintro e w2 ⟨rfl, hb2⟩)
              go_wp2_with fail
              refine hK.out _ _ ?_ (fun hHeld => ?_)
              · (first | assumption | exact HeldG.below (by assumption) hb2 hbl hgl)
              clear hK K
              (try simp only [Act.put, List.setIfInBounds_toArray, List.set_cons_zero, List.set_cons_succ])
              refine takeD (i := 9) (d := 29) (v := ?_) rfl rfl (by kernel_rfl) (by kernel_rfl) (by kernel_rfl) (fun _ _ _ h => h) (Or.inl ⟨by rfl, ?_⟩) (by assumption) ?_
              rotate_left
              · (intro w hSw; (try dsimp only at hSw); go_simp; first | done | with_reducible rfl)
              (try simp only [Act.put, List.setIfInBounds_toArray, List.set_cons_zero, List.set_cons_succ])
              refine takeD (i := 10) (d := 30) (v := ?_) rfl rfl (by kernel_rfl) (by kernel_rfl) (by kernel_rfl) (fun _ _ _ h => h) (Or.inl ⟨by rfl, ?_⟩) (by assumption) ?_
              rotate_left
              · (intro w hSw; (try dsimp only at hSw); go_simp; first | done | with_reducible rfl)
              (try simp only [Act.put, List.setIfInBounds_toArray, List.set_cons_zero, List.set_cons_succ])
              refine takeD (i := 11) (d := 31) (v := ?_) rfl rfl (by kernel_rfl) (by kernel_rfl) (by kernel_rfl) (fun _ _ _ h => h) (Or.inl ⟨by rfl, ?_⟩) (by assumption) ?_
              rotate_left
              · (intro w hSw; (try dsimp only at hSw); go_simp; first | done | with_reducible rfl)
              (try simp only [Act.put, List.setIfInBounds_toArray, List.set_cons_zero, List.set_cons_succ])
              refine takeD (i := 12) (d := 32) (v := ?_) rfl rfl (by kernel_rfl) (by kernel_rfl) (by kernel_rfl) (fun _ _ _ h => h) (Or.inl ⟨by rfl, ?_⟩) (by assumption) ?_
              rotate_left
              · (intro w hSw; (try dsimp only at hSw); go_simp; first | done | with_reducible rfl)
              (try simp only [Act.put, List.setIfInBounds_toArray, List.set_cons_zero, List.set_cons_succ])
              refine takeD (i := 13) (d := 33) (v := ?_) rfl rfl (by kernel_rfl) (by kernel_rfl) (by kernel_rfl) (fun _ _ _ h => h) (Or.inl ⟨by rfl, ?_⟩) (by assumption) ?_
              rotate_left
              · (intro w hSw; (try dsimp only at hSw); go_simp; first | done | with_reducible rfl)
              (try simp only [Act.put, List.setIfInBounds_toArray, List.set_cons_zero, List.set_cons_succ])
              refine takeD (i := 14) (d := 34) (v := ?_) rfl rfl (by kernel_rfl) (by kernel_rfl) (by kernel_rfl) (fun _ _ _ h => h) (Or.inl ⟨by rfl, ?_⟩) (by assumption) ?_
              rotate_left
              · (intro w hSw; (try dsimp only at hSw); go_simp; first | done | with_reducible rfl)
              (try simp only [Act.put, List.setIfInBounds_toArray, List.set_cons_zero, List.set_cons_succ])
              refine takeD (i := 15) (d := 35) (v := ?_) rfl rfl (by kernel_rfl) (by kernel_rfl) (by kernel_rfl) (fun _ _ _ h => h) (Or.inl ⟨by rfl, ?_⟩) (by assumption) ?_
              rotate_left
              · (intro w hSw; (try dsimp only at hSw); go_simp; first | done | with_reducible rfl)
              (try simp only [Act.put, List.setIfInBounds_toArray, List.set_cons_zero, List.set_cons_succ])
              refine takeD (i := 16) (d := 36) (v := ?_) rfl rfl (by kernel_rfl) (by kernel_rfl) (by kernel_rfl) (fun _ _ _ h => h) (Or.inl ⟨by rfl, ?_⟩) (by assumption) ?_
              rotate_left
              · (intro w hSw; (try dsimp only at hSw); go_simp; first | done | with_reducible rfl)
              (try simp only [Act.put, List.setIfInBounds_toArray, List.set_cons_zero, List.set_cons_succ])
              refine takeD (i := 17) (d := 37) (v := ?_) rfl rfl (by kernel_rfl) (by kernel_rfl) (by kernel_rfl) (fun _ _ _ h => h) (Or.inl ⟨by rfl, ?_⟩) (by assumption) ?_
              rotate_left
              · (intro w hSw; (try dsimp only at hSw); go_simp; first | done | with_reducible rfl)
              (try simp only [Act.put, List.setIfInBounds_toArray, List.set_cons_zero, List.set_cons_succ])
              refine takeD (i := 18) (d := 38) (v := ?_) rfl rfl (by kernel_rfl) (by kernel_rfl) (by kernel_rfl) (fun _ _ _ h => h) (Or.inl ⟨by rfl, ?_⟩) (by assumption) ?_
              rotate_left
              · (intro w hSw; (try dsimp only at hSw); go_simp; first | done | with_reducible rfl)
              (try simp only [Act.put, List.setIfInBounds_toArray, List.set_cons_zero, List.set_cons_succ])
              refine takeD (i := 19) (d := 39) (v := ?_) rfl rfl (by kernel_rfl) (by kernel_rfl) (by kernel_rfl) (fun _ _ _ h => h) (Or.inl ⟨by rfl, ?_⟩) (by assumption) ?_
              rotate_left
              · (intro w hSw; (try dsimp only at hSw); go_simp; first | done | with_reducible rfl)
              (try simp only [Act.put, List.setIfInBounds_toArray, List.set_cons_zero, List.set_cons_succ])
              refine takeD (i := 20) (d := 40) (v := ?_) rfl rfl (by kernel_rfl) (by kernel_rfl) (by kernel_rfl) (fun _ _ _ h => h) (Or.inl ⟨by rfl, ?_⟩) (by assumption) ?_
              rotate_left
              · (intro w hSw; (try dsimp only at hSw); go_simp; first | done | with_reducible rfl)
              (try simp only [Act.put, List.setIfInBounds_toArray, List.set_cons_zero, List.set_cons_succ])
              refine takeD (i := 21) (d := 41) (v := ?_) rfl rfl (by kernel_rfl) (by kernel_rfl) (by kernel_rfl) (fun _ _ _ h => h) (Or.inl ⟨by rfl, ?_⟩) (by assumption) ?_
              rotate_left
              · (intro w hSw; (try dsimp only at hSw); go_simp; first | done | with_reducible rfl)
              (try simp only [Act.put, List.setIfInBounds_toArray, List.set_cons_zero, List.set_cons_succ])
              refine takeD (i := 22) (d := 42) (v := ?_) rfl rfl (by kernel_rfl) (by kernel_rfl) (by kernel_rfl) (fun _ _ _ h => h) (Or.inl ⟨by rfl, ?_⟩) (by assumption) ?_
              rotate_left
              · (intro w hSw; (try dsimp only at hSw); go_simp; first | done | with_reducible rfl)
              (try simp only [Act.put, List.setIfInBounds_toArray, List.set_cons_zero, List.set_cons_succ])
              refine takeD (i := 23) (d := 43) (v := ?_) rfl rfl (by kernel_rfl) (by kernel_rfl) (by kernel_rfl) (fun _ _ _ h => h) (Or.inl ⟨by rfl, ?_⟩) (by assumption) ?_
              rotate_left
              · (intro w hSw; (try dsimp only at hSw); go_simp; first | done | with_reducible rfl)
              (try simp only [Act.put, List.setIfInBounds_toArray, List.set_cons_zero, List.set_cons_succ])
              refine takeD (i := 24) (d := 44) (v := ?_) rfl rfl (by kernel_rfl) (by kernel_rfl) (by kernel_rfl) (fun _ _ _ h => h) (Or.inl ⟨by rfl, ?_⟩) (by assumption) ?_
              rotate_left
              · (intro w hSw; (try dsimp only at hSw); go_simp; first | done | with_reducible rfl)
              (try simp only [Act.put, List.setIfInBounds_toArray, List.set_cons_zero, List.set_cons_succ])
              refine takeD (i := 25) (d := 45) (v := ?_) rfl rfl (by kernel_rfl) (by kernel_rfl) (by kernel_rfl) (fun _ _ _ h => h) (Or.inl ⟨by rfl, ?_⟩) (by assumption) ?_
              rotate_left
              · (intro w hSw; (try dsimp only at hSw); go_simp; first | done | with_reducible rfl)
              (try simp only [Act.put, List.setIfInBounds_toArray, List.set_cons_zero, List.set_cons_succ])
              refine takeD (i := 26) (d := 46) (v := ?_) rfl rfl (by kernel_rfl) (by kernel_rfl) (by kernel_rfl) (fun _ _ _ h => h) (Or.inl ⟨by rfl, ?_⟩) (by assumption) ?_
              rotate_left
              · (intro w hSw; (try dsimp only at hSw); go_simp; first | done | with_reducible rfl)
              (try simp only [Act.put, List.setIfInBounds_toArray, List.set_cons_zero, List.set_cons_succ])
              refine takeD (i := 27) (d := 47) (v := ?_) rfl rfl (by kernel_rfl) (by kernel_rfl) (by kernel_rfl) (fun _ _ _ h => h) (Or.inl ⟨by rfl, ?_⟩) (by assumption) ?_
              rotate_left
              · (intro w hSw; (try dsimp only at hSw); go_simp; first | done | with_reducible rfl)
              (try simp only [Act.put, List.setIfInBounds_toArray, List.set_cons_zero, List.set_cons_succ])
              refine wpAnyH_done (by kernel_rfl) ?_ _
              have hbz := HeldG.bl (W0 := wo) (b := b) (p := off + j * 7) (g := g) (m := m) (by assumption)
              have hbz2 := hbr.trans (hbz.mono hbr.size)
              have HO2 := Lib.hid (HO.out.below hbz)
              go_wp2_with fail
              go_roundg (l.length - (j + 1))
              case measure => omega
              case rel => exact ⟨j + 1, by omega, rfl, by go_num, by rw [HNX.out]; exact HO2.out, hbz2⟩
            exact AllReadyH.nil
            -- }W3
          · have HNX := Lib.hid (HNX.out.trans (gStep_new hi (by rw [hla]; intro e; exact h1 (by injection e))))
            have q1 : (la != (dr : Int)) = true := by simpa using h1
            clear hi hO h0 h1 hla hlc hxl hN hgl2
            -- W4{
            go_upto_region 6 with fail
            refine wp_region_held_drew (S := (fun w' => w'.cell? ⟨b, off + j * 7, none⟩ = some (.int .i64 (dr : Int)) ∧ w'.cell? ⟨b, off + j * 7 + 1, none⟩ = some (.int .i64 pa) ∧ w'.cell? ⟨b, off + j * 7 + 2, none⟩ = some (.int .i64 pb) ∧ w'.cell? ⟨b, off + j * 7 + 3, none⟩ = some (.int .i64 pc) ∧ w'.cell? ⟨b, off + j * 7 + 4, none⟩ = some (.int .i64 pg) ∧ w'.cell? ⟨b, off + j * 7 + 5, none⟩ = some (.int .i64 pr) ∧ w'.cell? ⟨b, off + j * 7 + 6, none⟩ = some (.string y) ∧ w'.cell? ⟨g, m, none⟩ = some (.int .i64 la) ∧ Below wo.heap.size wo w')) (by kernel_rfl) HS0.out (fun hHeld => ?_)
            refine takeD (i := 0) (d := 20) (v := ?_) rfl rfl (by kernel_rfl) (by kernel_rfl) (by kernel_rfl) (fun _ _ _ h => h) (Or.inl ⟨by rfl, ?_⟩) (by assumption) ?_
            rotate_left
            · (intro w hSw; (try dsimp only at hSw); go_simp; first | done | with_reducible rfl)
            (try simp only [Act.put, List.setIfInBounds_toArray, List.set_cons_zero, List.set_cons_succ])
            refine takeD (i := 1) (d := 21) (v := ?_) rfl rfl (by kernel_rfl) (by kernel_rfl) (by kernel_rfl) (fun _ _ _ h => h) (Or.inl ⟨by rfl, ?_⟩) (by assumption) ?_
            rotate_left
            · (intro w hSw; (try dsimp only at hSw); go_simp; first | done | with_reducible rfl)
            (try simp only [Act.put, List.setIfInBounds_toArray, List.set_cons_zero, List.set_cons_succ])
            refine takeD (i := 2) (d := 22) (v := ?_) rfl rfl (by kernel_rfl) (by kernel_rfl) (by kernel_rfl) (fun _ _ _ h => h) (Or.inl ⟨by rfl, ?_⟩) (by assumption) ?_
            rotate_left
            · (intro w hSw; (try dsimp only at hSw); go_simp; first | done | with_reducible rfl)
            (try simp only [Act.put, List.setIfInBounds_toArray, List.set_cons_zero, List.set_cons_succ])
            refine takeD (i := 3) (d := 23) (v := ?_) rfl rfl (by kernel_rfl) (by kernel_rfl) (by kernel_rfl) (fun _ _ _ h => h) (Or.inl ⟨by rfl, ?_⟩) (by assumption) ?_
            rotate_left
            · (intro w hSw; (try dsimp only at hSw); go_simp; first | done | with_reducible rfl)
            (try simp only [Act.put, List.setIfInBounds_toArray, List.set_cons_zero, List.set_cons_succ])
            refine takeD (i := 4) (d := 24) (v := ?_) rfl rfl (by kernel_rfl) (by kernel_rfl) (by kernel_rfl) (fun _ _ _ h => h) (Or.inl ⟨by rfl, ?_⟩) (by assumption) ?_
            rotate_left
            · (intro w hSw; (try dsimp only at hSw); go_simp; first | done | with_reducible rfl)
            (try simp only [Act.put, List.setIfInBounds_toArray, List.set_cons_zero, List.set_cons_succ])
            refine takeD (i := 5) (d := 25) (v := ?_) rfl rfl (by kernel_rfl) (by kernel_rfl) (by kernel_rfl) (fun _ _ _ h => h) (Or.inl ⟨by rfl, ?_⟩) (by assumption) ?_
            rotate_left
            · (intro w hSw; (try dsimp only at hSw); go_simp; first | done | with_reducible rfl)
            (try simp only [Act.put, List.setIfInBounds_toArray, List.set_cons_zero, List.set_cons_succ])
            refine takeD (i := 6) (d := 26) (v := ?_) rfl rfl (by kernel_rfl) (by kernel_rfl) (by kernel_rfl) (fun _ _ _ h => h) (Or.inl ⟨by rfl, ?_⟩) (by assumption) ?_
            rotate_left
            · (intro w hSw; (try dsimp only at hSw); go_simp; first | done | with_reducible rfl)
            (try simp only [Act.put, List.setIfInBounds_toArray, List.set_cons_zero, List.set_cons_succ])
            refine takeD (i := 7) (d := 27) (v := ?_) rfl rfl (by kernel_rfl) (by kernel_rfl) (by kernel_rfl) (fun _ _ _ h => h) (Or.inl ⟨by rfl, ?_⟩) (by assumption) ?_
            rotate_left
            · (intro w hSw; (try dsimp only at hSw); go_simp; first | done | with_reducible rfl)
            (try simp only [Act.put, List.setIfInBounds_toArray, List.set_cons_zero, List.set_cons_succ])
            refine wpAnyH_ready (rs := [8]) (by kernel_rfl) (by simp) ?_
            refine AllReadyH.cons rfl (fun K hK => ?_) ?_
            · go_simp
              (go_at_call 22; refine (HIS.out _).mono ?_; rintro e w2 ⟨rfl, hb2⟩)
              go_wp2_with fail
              refine hK.out _ _ ?_ (fun hHeld => ?_)
              · (first | assumption | exact HeldG.below (by assumption) hb2 hbl hgl)
              clear hK K
              (try simp only [Act.put, List.setIfInBounds_toArray, List.set_cons_zero, List.set_cons_succ])
              refine takeD (i := 9) (d := 29) (v := ?_) rfl rfl (by kernel_rfl) (by kernel_rfl) (by kernel_rfl) (fun _ _ _ h => h) (Or.inl ⟨by rfl, ?_⟩) (by assumption) ?_
              rotate_left
              · (intro w hSw; (try dsimp only at hSw); go_simp; first | done | with_reducible rfl)
              (try simp only [Act.put, List.setIfInBounds_toArray, List.set_cons_zero, List.set_cons_succ])
              refine takeD (i := 10) (d := 30) (v := ?_) rfl rfl (by kernel_rfl) (by kernel_rfl) (by kernel_rfl) (fun _ _ _ h => h) (Or.inl ⟨by rfl, ?_⟩) (by assumption) ?_
              rotate_left
              · (intro w hSw; (try dsimp only at hSw); go_simp; first | done | with_reducible rfl)
              (try simp only [Act.put, List.setIfInBounds_toArray, List.set_cons_zero, List.set_cons_succ])
              refine takeD (i := 11) (d := 31) (v := ?_) rfl rfl (by kernel_rfl) (by kernel_rfl) (by kernel_rfl) (fun _ _ _ h => h) (Or.inl ⟨by rfl, ?_⟩) (by assumption) ?_
              rotate_left
              · (intro w hSw; (try dsimp only at hSw); go_simp; first | done | with_reducible rfl)
              (try simp only [Act.put, List.setIfInBounds_toArray, List.set_cons_zero, List.set_cons_succ])
              refine takeD (i := 12) (d := 32) (v := ?_) rfl rfl (by kernel_rfl) (by kernel_rfl) (by kernel_rfl) (fun _ _ _ h => h) (Or.inl ⟨by rfl, ?_⟩) (by assumption) ?_
              rotate_left
              · (intro w hSw; (try dsimp only at hSw); go_simp; first | done | with_reducible rfl)
              (try simp only [Act.put, List.setIfInBounds_toArray, List.set_cons_zero, List.set_cons_succ])
              refine takeD (i := 13) (d := 33) (v := ?_) rfl rfl (by kernel_rfl) (by kernel_rfl) (by kernel_rfl) (fun _ _ _ h => h) (Or.inl ⟨by rfl, ?_⟩) (by assumption) ?_
              rotate_left
              · (intro w hSw; (try dsimp only at hSw); go_simp; first | done | with_reducible rfl)
              (try simp only [Act.put, List.setIfInBounds_toArray, List.set_cons_zero, List.set_cons_succ])
              refine takeD (i := 14) (d := 34) (v := ?_) rfl rfl (by kernel_rfl) (by kernel_rfl) (by kernel_rfl) (fun _ _ _ h => h) (Or.inl ⟨by rfl, ?_⟩) (by assumption) ?_
              rotate_left
              · (intro w hSw; (try dsimp only at hSw); go_simp; first | done | with_reducible rfl)
              (try simp only [Act.put, List.setIfInBounds_toArray, List.set_cons_zero, List.set_cons_succ])
              refine takeD (i := 15) (d := 35) (v := ?_) rfl rfl (by kernel_rfl) (by kernel_rfl) (by kernel_rfl) (fun _ _ _ h => h) (Or.inl ⟨by rfl, ?_⟩) (by assumption) ?_
              rotate_left
              · (intro w hSw; (try dsimp only at hSw); go_simp; first | done | with_reducible rfl)
              (try simp only [Act.put, List.setIfInBounds_toArray, List.set_cons_zero, List.set_cons_succ])
              refine takeD (i := 16) (d := 36) (v := ?_) rfl rfl (by kernel_rfl) (by kernel_rfl) (by kernel_rfl) (fun _ _ _ h => h) (Or.inl ⟨by rfl, ?_⟩) (by assumption) ?_
              rotate_left
              · (intro w hSw; (try dsimp only at hSw); go_simp; first | done | with_reducible rfl)
              (try simp only [Act.put, List.setIfInBounds_toArray, List.set_cons_zero, List.set_cons_succ])
              refine takeD (i := 17) (d := 37) (v := ?_) rfl rfl (by kernel_rfl) (by kernel_rfl) (by kernel_rfl) (fun _ _ _ h => h) (Or.inl ⟨by rfl, ?_⟩) (by assumption) ?_
              rotate_left
              · (intro w hSw; (try dsimp only at hSw); go_simp; first | done | with_reducible rfl)
              (try simp only [Act.put, List.setIfInBounds_toArray, List.set_cons_zero, List.set_cons_succ])
              refine takeD (i := 18) (d := 38) (v := ?_) rfl rfl (by kernel_rfl) (by kernel_rfl) (by kernel_rfl) (fun _ _ _ h => h) (Or.inl ⟨by rfl, ?_⟩) (by assumption) ?_
              rotate_left
              · (intro w hSw; (try dsimp only at hSw); go_simp; first | done | with_reducible rfl)
              (try simp only [Act.put, List.setIfInBounds_toArray, List.set_cons_zero, List.set_cons_succ])
              refine takeD (i := 19) (d := 39) (v := ?_) rfl rfl (by kernel_rfl) (by kernel_rfl) (by kernel_rfl) (fun _ _ _ h => h) (Or.inl ⟨by rfl, ?_⟩) (by assumption) ?_
              rotate_left
              · (intro w hSw; (try dsimp only at hSw); go_simp; first | done | with_reducible rfl)
              (try simp only [Act.put, List.setIfInBounds_toArray, List.set_cons_zero, List.set_cons_succ])
              refine takeD (i := 20) (d := 40) (v := ?_) rfl rfl (by kernel_rfl) (by kernel_rfl) (by kernel_rfl) (fun _ _ _ h => h) (Or.inl ⟨by rfl, ?_⟩) (by assumption) ?_
              rotate_left
              · (intro w hSw; (try dsimp only at hSw); go_simp; first | done | with_reducible rfl)
              (try simp only [Act.put, List.setIfInBounds_toArray, List.set_cons_zero, List.set_cons_succ])
              refine takeD (i := 21) (d := 41) (v := ?_) rfl rfl (by kernel_rfl) (by kernel_rfl) (by kernel_rfl) (fun _ _ _ h => h) (Or.inl ⟨by rfl, ?_⟩) (by assumption) ?_
              rotate_left
              · (intro w hSw; (try dsimp only at hSw); go_simp; first | done | with_reducible rfl)
              (try simp only [Act.put, List.setIfInBounds_toArray, List.set_cons_zero, List.set_cons_succ])
              refine takeD (i := 22) (d := 42) (v := ?_) rfl rfl (by kernel_rfl) (by kernel_rfl) (by kernel_rfl) (fun _ _ _ h => h) (Or.inl ⟨by rfl, ?_⟩) (by assumption) ?_
              rotate_left
              · (intro w hSw; (try dsimp only at hSw); go_simp; first | done | with_reducible rfl)
              (try simp only [Act.put, List.setIfInBounds_toArray, List.set_cons_zero, List.set_cons_succ])
              refine takeD (i := 23) (d := 43) (v := ?_) rfl rfl (by kernel_rfl) (by kernel_rfl) (by kernel_rfl) (fun _ _ _ h => h) (Or.inl ⟨by rfl, ?_⟩) (by assumption) ?_
              rotate_left
              · (intro w hSw; (try dsimp only at hSw); go_simp; first | done | with_reducible rfl)
              (try simp only [Act.put, List.setIfInBounds_toArray, List.set_cons_zero, List.set_cons_succ])
              refine takeD (i := 24) (d := 44) (v := ?_) rfl rfl (by kernel_rfl) (by kernel_rfl) (by kernel_rfl) (fun _ _ _ h => h) (Or.inl ⟨by rfl, ?_⟩) (by assumption) ?_
              rotate_left
              · (intro w hSw; (try dsimp only at hSw); go_simp; first | done | with_reducible rfl)
              (try simp only [Act.put, List.setIfInBounds_toArray, List.set_cons_zero, List.set_cons_succ])
              refine takeD (i := 25) (d := 45) (v := ?_) rfl rfl (by kernel_rfl) (by kernel_rfl) (by kernel_rfl) (fun _ _ _ h => h) (Or.inl ⟨by rfl, ?_⟩) (by assumption) ?_
              rotate_left
              · (intro w hSw; (try dsimp only at hSw); go_simp; first | done | with_reducible rfl)
              (try simp only [Act.put, List.setIfInBounds_toArray, List.set_cons_zero, List.set_cons_succ])
              refine takeD (i := 26) (d := 46) (v := ?_) rfl rfl (by kernel_rfl) (by kernel_rfl) (by kernel_rfl) (fun _ _ _ h => h) (Or.inl ⟨by rfl, ?_⟩) (by assumption) ?_
              rotate_left
              · (intro w hSw; (try dsimp only at hSw); go_simp; first | done | with_reducible rfl)
              (try simp only [Act.put, List.setIfInBounds_toArray, List.set_cons_zero, List.set_cons_succ])
              refine takeD (i := 27) (d := 47) (v := ?_) rfl rfl (by kernel_rfl) (by kernel_rfl) (by kernel_rfl) (fun _ _ _ h => h) (Or.inl ⟨by rfl, ?_⟩) (by assumption) ?_
              rotate_left
              · (intro w hSw; (try dsimp only at hSw); go_simp; first | done | with_reducible rfl)
              (try simp only [Act.put, List.setIfInBounds_toArray, List.set_cons_zero, List.set_cons_succ])
              refine wpAnyH_done (by kernel_rfl) ?_ _
              have hbz := HeldG.bl (W0 := wo) (b := b) (p := off + j * 7) (g := g) (m := m) (by assumption)
              have hbz2 := hbr.trans (hbz.mono hbr.size)
              have hO2 := HO.out.below hbz
              have hsz2 := hbz2.size
              have hO3 : w2.ownsRow W1.heap.size 3 1 (.slice (some ⟨g, 0, none⟩) N c3) N (xs.map (Value.int .i64)) := by have h := hO2; unfold OwnI at h; rw [HXL.out] at h; exact h
              have hdc := HeldG.c0 (W0 := wo) (b := b) (p := off + j * 7) (g := g) (m := m) (wc := w2) (by assumption)
              go_wp2_with (at_builtin; refine app_i (dr : Int) (.tmp 48) (.tmp 54) rfl rfl W1.heap.size _ N xs HXL.out (by rfl) hO3 (by rfl) hlen hsz2 ?_; intro v' w5 hown' hg hat)
              go_roundg (l.length - (j + 1))
              case measure => omega
              case rel => exact ⟨j + 1, by omega, rfl, by go_num, by rw [HNX.out]; exact hown', hbz2.grown hg hsz2 (fun b h => (hO2.lt b h).1)⟩
            exact AllReadyH.nil
            -- }W4
    · have HO := Lib.hid hO
      have HE : goodTo v f s (l.take j) = goodI r v f s := by rw [List.take_of_length_le (by omega), HPL.out]; rfl
      have HEH := Lib.hid HE
      have hbz := HB1.out.trans (hbr.mono HB1.out.size)
      clear hO HE
      go_wp2_with fail
      go_ret
      refine ⟨_, rfl, ?_, hbz⟩
      have h1 := HO.out
      rw [HEH.out] at h1
      exact h1.base HB1.out.size
end Go.Proofs.Ytflembddbbkojaa
