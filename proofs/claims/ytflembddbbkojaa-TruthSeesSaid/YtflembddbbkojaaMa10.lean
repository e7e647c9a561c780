/- The reference's intact and Intact, walked. -/
import Derived.Test.YtflembddbbkojaaMa09
namespace Go.Proofs.Ytflembddbbkojaa
open Go.RowKit
set_option linter.unusedVariables false
set_option linter.unusedSimpArgs false
/-- A []int that the call has built. -/
def OwnI (w : World) (base : Nat) (v : Value) (xs : List Int) : Prop := w.ownsRow base 3 1 v xs.length (xs.map (Value.int .i64))
theorem OwnI.nil (w : World) (base : Nat) : OwnI w base (.slice none 0 0) [] := World.ownsRow_nil _ _ _ _
theorem OwnI.below {w w2 : World} {base : Nat} {v : Value} {xs : List Int} (h : OwnI w base v xs) (hb : Below w.heap.size w w2) : OwnI w2 base v xs := own_below h hb
theorem OwnI.base {w : World} {B B' : Nat} {v : Value} {xs : List Int} (h : OwnI w B v xs) (hB : B' ≤ B) : OwnI w B' v xs := own_base h hB
theorem OwnI.intS {w : World} {base : Nat} {v : Value} {xs : List Int} (h : OwnI w base v xs) (hx : ∀ x ∈ xs, I64 x) : IntS w (Fr base w.heap.size) v xs :=
  IntS.own h (fun b hb => h.lt b hb) hx
theorem OwnI.lt {w : World} {base : Nat} {v : Value} {xs : List Int} (h : OwnI w base v xs) : ∀ b, v.ownBlock = some b → base ≤ b ∧ b < w.heap.size := World.ownsRow.lt h
theorem OwnI.form {w : World} {base : Nat} {v : Value} {xs : List Int} (h : OwnI w base v xs) : ∃ A c, v = .slice A xs.length c := own_form h
theorem info_int2 : (Try.prog.info? 3).map (fun i => (i.zero, i.size, i.bytes)) = some (some (.int .i64 0), 1, 8) := by kernel_rfl
theorem app_i {ops : Array Oper} {rest : List Oper} {o : Oper} {a : Act} {Q : Exit → Act → World → Prop} {w : World} (x0 : Int) (s x : Operand) (hgd : o.guard = none) (ho : o.op = .call { callee := .builtin .append, args := #[s, x], argTypes := #[22, 22] })
    (base : Nat) (v : Value) (n : Nat) (xs : List Int) (hl : xs.length = n) (hs : a.eval s = v) (hown : w.ownsRow base 3 1 v n (xs.map (Value.int .i64)))
    (hx : a.eval x = .slice (some ⟨w.heap.size, 0, none⟩) 1 1) (hn : n + 1 ≤ 16777216) (hbase : base ≤ w.heap.size)
    (h : ∀ v' w', OwnI w' base v' (xs ++ [x0]) → w.grownBy w' v.ownBlock → (v'.ownBlock = v.ownBlock ∨ v'.ownBlock = some (w.heap.size + 1)) → wpList Try.prog ops Q rest (a.put o.dst v') w') :
    wpList Try.prog ops Q (o :: rest) a (w.alloc (.cells #[.int .i64 x0] 3)) := by
  obtain ⟨i0, hi0, hz0, hz1, hz2⟩ := info_parts info_int2
  refine wpList_append1 hgd s x _ ho base i0 _ 1 8 Try.underlying22 hi0 hz0 hz1 hz2 rfl (by omega) (by omega) v n _ hs hown hx rfl (by simp; rfl) hn hbase (fun v' w' h1 => h v' w' ?_)
  unfold OwnI
  rw [List.length_append, hl, List.map_append]
  exact h1
/-- The fragments below j of which a piece of a list counts. -/
def intTo (r : Re) (l : List Fd) (v s : Int) (on : Bool) (j : Nat) : List Int := (List.range j).filterMap fun i : Nat => if 0 ≤ srcI r l v (i : Int) s on then some (i : Int) else none
theorem intTo_succ (r : Re) (l : List Fd) (v s : Int) (on : Bool) (j : Nat) : intTo r l v s on (j + 1) = intTo r l v s on j ++ (if 0 ≤ srcI r l v (j : Int) s on then [(j : Int)] else []) := by
  unfold intTo
  rw [List.range_succ, List.filterMap_append]
  congr 1
  by_cases h : 0 ≤ srcI r l v (j : Int) s on <;> simp [h]
theorem intTo_yes {r : Re} {l : List Fd} {v s : Int} {on : Bool} {j : Nat} (h : 0 ≤ srcI r l v (j : Int) s on) : intTo r l v s on (j + 1) = intTo r l v s on j ++ [(j : Int)] := by rw [intTo_succ, if_pos h]
theorem intTo_no {r : Re} {l : List Fd} {v s : Int} {on : Bool} {j : Nat} (h : ¬ 0 ≤ srcI r l v (j : Int) s on) : intTo r l v s on (j + 1) = intTo r l v s on j := by rw [intTo_succ, if_neg h, List.append_nil]
theorem intTo_mem {r : Re} {l : List Fd} {v s : Int} {on : Bool} {j : Nat} : ∀ x ∈ intTo r l v s on j, 0 ≤ x ∧ x < j := by
  intro x hx
  simp only [intTo, List.mem_filterMap, List.mem_range] at hx
  obtain ⟨i, hi, he⟩ := hx
  by_cases h : 0 ≤ srcI r l v (i : Int) s on
  · rw [if_pos h] at he; simp at he; omega
  · rw [if_neg h] at he; cases he
theorem intTo_length {r : Re} {l : List Fd} {v s : Int} {on : Bool} {j : Nat} : (intTo r l v s on j).length ≤ j := by
  unfold intTo
  exact Nat.le_trans (List.length_filterMap_le _ _) (by simp)
set_option maxRecDepth 100000 in
set_option maxHeartbeats 1600000 in
theorem rintact_any (vp vo va vl : Value) (r : Re) (l : List Fd) (v s : Int) (on : Bool) (w : World) (h : ReS w (Bl w.heap.size) vp vo va r) (hl : SlS 7 FdK w (Bl w.heap.size) vl l) :
    Calls Try.prog 24 #[.agg #[vp, vo, va], vl, .int .i64 v, .int .i64 s, .bool on] w fun e w' => ∃ u, e = .returned u ∧ OwnI w' w.heap.size u (intTo r l v s on 8) ∧ Below w.heap.size w w' := by
  have HR := Lib.hid h
  have HL := Lib.hid hl
  obtain ⟨W0, hW0⟩ : ∃ W0, W0 = w.alloc (.cells #[vp, vo, va] 27) := ⟨_, rfl⟩
  obtain ⟨q, hq⟩ : ∃ q, q = w.heap.size := ⟨_, rfl⟩
  have c0 : W0.cell? ⟨q, 0, none⟩ = some vp := by rw [hW0, hq]; simp
  have c1 : W0.cell? ⟨q, 1, none⟩ = some vo := by rw [hW0, hq]; simp
  have c2 : W0.cell? ⟨q, 2, none⟩ = some va := by rw [hW0, hq]; simp
  have hb0 : Below w.heap.size w W0 := by rw [hW0]; exact (Below.refl _ _).alloc (Nat.le_refl _) _
  have hq0 : q < W0.heap.size := by rw [hW0, hq]; simp
  have HQ := Lib.hid hq
  have HW0 := Lib.hid hW0
  have HB0 := Lib.hid hb0
  have HC := Lib.hid (⟨c0, c1, c2⟩ : _ ∧ _ ∧ _)
  clear h hl hW0 hq hb0 c0 c1 c2
  go_enter Try.func24, Try.ntmps24
  go_wp2_with fail
  rw [← HW0.out, ← HQ.out]
  go_loopg [11, 12] 8 (fun z v11 v12 wr => ∃ j : Nat, j ≤ 8 ∧ z = 8 - j ∧ v12 = .int .i64 (j : Int) ∧ OwnI wr W0.heap.size v11 (intTo r l v s on j) ∧ Below W0.heap.size W0 wr)
  case atStart => exact ⟨0, by omega, rfl, rfl, OwnI.nil _ _, Below.refl _ _⟩
  case round =>
    obtain ⟨j, hj, rfl, rfl, hO, hbr⟩ := hrel
    have hbw := HB0.out.trans (hbr.mono HB0.out.size)
    by_cases hlt : j < 8
    · have d0 := (hbr.cell (p := ⟨q, 0, none⟩) hq0).trans HC.out.1
      have d1 := (hbr.cell (p := ⟨q, 1, none⟩) hq0).trans HC.out.2.1
      have d2 := (hbr.cell (p := ⟨q, 2, none⟩) hq0).trans HC.out.2.2
      have HS := Lib.hid (source_any vp vo va vl r l v (j : Int) s on wr (HR.out.below hbw) (SlS.below fdK HL.out hbw))
      have hlen : (intTo r l v s on j).length + 1 ≤ 16777216 := by have := intTo_length (r := r) (l := l) (v := v) (s := s) (on := on) (j := j); omega
      have hyes := intTo_yes (r := r) (l := l) (v := v) (s := s) (on := on) (j := j)
      have hno := intTo_no (r := r) (l := l) (v := v) (s := s) (on := on) (j := j)
      obtain ⟨S, hS⟩ : ∃ S, S = srcI r l v (j : Int) s on := ⟨_, rfl⟩
      rw [← hS] at hyes hno HS
      obtain ⟨xs, hxs⟩ : ∃ xs, xs = intTo r l v s on j := ⟨_, rfl⟩
      rw [← hxs] at hyes hno hO hlen
      have HY := Lib.hid hyes
      have HN := Lib.hid hno
      have HO := Lib.hid hO
      have HO7 : wr.ownsRow W0.heap.size 3 1 _ xs.length (xs.map (Value.int .i64)) := hO
      obtain ⟨A3, c3, rfl⟩ := own_form HO7
      have hsz := hbr.size
      clear hyes hno hS hxs hO HO7
      go_wp2_with fail
      refine HS.out.mono ?_
      rintro e w2 ⟨rfl, hb2⟩
      have hbr2 := hbr.trans (hb2.mono hsz)
      have hO2 := HO.out.below hb2
      have hsz2 := hbr2.size
      by_cases h0 : 0 ≤ S
      · have HE := Lib.hid (HY.out h0)
        have hO3 : w2.ownsRow W0.heap.size 3 1 _ xs.length (xs.map (Value.int .i64)) := hO2
        go_wp2_with (at_builtin; refine app_i (j : Int) (.tmp 25) (.tmp 27) rfl rfl W0.heap.size _ xs.length xs rfl (by rfl) hO3 (by rfl) hlen hsz2 ?_; intro v' w5 hown' hg hat)
        go_roundg (8 - (j + 1))
        case measure => omega
        case rel => exact ⟨j + 1, by omega, rfl, by go_num, by rw [HE.out]; exact hown', hbr2.grown hg hsz2 (fun b h => (hO2.lt b h).1)⟩
      · have HE := Lib.hid (HN.out (by omega))
        have HO2 := Lib.hid hO2
        clear hO2
        go_wp2_with fail
        go_roundg (8 - (j + 1))
        case measure => omega
        case rel => exact ⟨j + 1, by omega, rfl, by go_num, by rw [HE.out]; exact HO2.out, hbr2⟩
    · obtain rfl : j = 8 := by omega
      have HO := Lib.hid hO
      clear hO
      go_wp2_with fail
      go_ret
      exact ⟨_, rfl, HO.out.base HB0.out.size, hbw⟩
/-- What the region's loads read: the boxed reality. -/
def HeldR (W0 : World) (q : Nat) (y0 y1 y2 : Value) (w' : World) : Prop :=
  w'.cell? ⟨q, 0, none⟩ = some y0 ∧ w'.cell? ⟨q, 1, none⟩ = some y1 ∧ w'.cell? ⟨q, 2, none⟩ = some y2 ∧ Below W0.heap.size W0 w'
theorem HeldR.below {W0 wc w2 : World} {q : Nat} {y0 y1 y2 : Value} (h : HeldR W0 q y0 y1 y2 wc) (hb : Below wc.heap.size wc w2) (h2 : q < W0.heap.size) : HeldR W0 q y0 y1 y2 w2 := by
  obtain ⟨d0, d1, d2, hB⟩ := h
  have hs := hB.size
  have m : ∀ i, w2.cell? ⟨q, i, none⟩ = wc.cell? ⟨q, i, none⟩ := fun i => hb.cell (p := ⟨q, i, none⟩) (Nat.lt_of_lt_of_le h2 hs)
  exact ⟨(m _).trans d0, (m _).trans d1, (m _).trans d2, hB.trans (hb.mono hs)⟩
theorem HeldR.re {w W0 wc : World} {q : Nat} {y0 y1 y2 vp vo va : Value} {r : Re} (h : HeldR W0 q y0 y1 y2 wc) (hR : ReS w (Bl w.heap.size) vp vo va r) (hb : Below w.heap.size w W0) : ReS wc (Bl wc.heap.size) vp vo va r :=
  hR.below (hb.trans (h.2.2.2.mono hb.size))
theorem HeldR.bl {W0 wc : World} {q : Nat} {y0 y1 y2 : Value} (h : HeldR W0 q y0 y1 y2 wc) : Below W0.heap.size W0 wc := h.2.2.2
theorem OwnFd.slBl {w : World} {base : Nat} {e : TypeId} {v : Value} {fs : List Fd} (h : OwnFd w base e v fs) (hd : ∀ f ∈ fs, f.drive ≤ 1048576) : SlS 7 FdK w (Bl w.heap.size) v fs := SlS.mono fdK (h.slS hd) (fun _ hb => hb.2)
def intI (r : Re) (v s : Int) (on : Bool) : List Int := intTo r (pieces r) v s on 8
theorem pieces_drive (r : Re) (hp : r.plat.length ≤ 1048576) : ∀ f ∈ pieces r, f.drive ≤ 1048576 := fun f hf => by have := piecesTo_drive r _ f hf; omega
set_option maxRecDepth 100000 in
set_option maxHeartbeats 1600000 in
theorem refIntact_any (vp vo va : Value) (r : Re) (v s : Int) (on : Bool) (w : World) (h : ReS w (Bl w.heap.size) vp vo va r) (hp : r.plat.length ≤ 1000) (hl : ∀ l ∈ r.plat, l.length ≤ 1000) :
    Calls Try.prog 12 #[.agg #[vp, vo, va], .int .i64 v, .int .i64 s, .bool on] w fun e w' => ∃ u, e = .returned u ∧ OwnI w' w.heap.size u (intI r v s on) ∧ Below w.heap.size w w' := by
  have HR := Lib.hid h
  have HPC := Lib.hid (fun w1 h1 => pieces_any vp vo va r w1 h1 hp hl)
  have HPD := Lib.hid (pieces_drive r (by omega))
  obtain ⟨W0, hW0⟩ : ∃ W0, W0 = w.alloc (.cells #[vp, vo, va] 27) := ⟨_, rfl⟩
  obtain ⟨q, hq⟩ : ∃ q, q = w.heap.size := ⟨_, rfl⟩
  have c0 : W0.cell? ⟨q, 0, none⟩ = some vp := by rw [hW0, hq]; simp
  have c1 : W0.cell? ⟨q, 1, none⟩ = some vo := by rw [hW0, hq]; simp
  have c2 : W0.cell? ⟨q, 2, none⟩ = some va := by rw [hW0, hq]; simp
  have hb0 : Below w.heap.size w W0 := by rw [hW0]; exact (Below.refl _ _).alloc (Nat.le_refl _) _
  have hq0 : q < W0.heap.size := by rw [hW0, hq]; simp
  have HQ := Lib.hid hq
  have HW0 := Lib.hid hW0
  have HB0 := Lib.hid hb0
  have HS0 := Lib.hid (⟨c0, c1, c2, (Below.refl _ _).drew⟩ : HeldR W0 q vp vo va W0.drew)
  clear h hp hl hW0 hq hb0 c0 c1 c2
  go_enter Try.func12, Try.ntmps12
  go_upto_region 1 with fail
  rw [← HW0.out, ← HQ.out]
  refine wp_region_held_drew (S := (fun w' => w'.cell? ⟨q, 0, none⟩ = some vp ∧ w'.cell? ⟨q, 1, none⟩ = some vo ∧ w'.cell? ⟨q, 2, none⟩ = some va ∧ Below W0.heap.size W0 w')) (by kernel_rfl) HS0.out (fun hHeld => ?_)
  refine takeD (i := 0) (d := 9) (v := ?_) rfl rfl (by kernel_rfl) (by kernel_rfl) (by kernel_rfl) (fun _ _ _ h => h) (Or.inl ⟨by rfl, ?_⟩) (by assumption) ?_
  rotate_left
  · (intro w hSw; (try dsimp only at hSw); go_simp; first | done | with_reducible rfl)
  (try simp only [Act.put, List.setIfInBounds_toArray, List.set_cons_zero, List.set_cons_succ])
  refine takeD (i := 1) (d := 10) (v := ?_) rfl rfl (by kernel_rfl) (by kernel_rfl) (by kernel_rfl) (fun _ _ _ h => h) (Or.inl ⟨by rfl, ?_⟩) (by assumption) ?_
  rotate_left
  · (intro w hSw; (try dsimp only at hSw); go_simp; first | done | with_reducible rfl)
  (try simp only [Act.put, List.setIfInBounds_toArray, List.set_cons_zero, List.set_cons_succ])
  refine takeD (i := 3) (d := 12) (v := ?_) rfl rfl (by kernel_rfl) (by kernel_rfl) (by kernel_rfl) (fun _ _ _ h => h) (Or.inl ⟨by rfl, ?_⟩) (by assumption) ?_
  rotate_left
  · (intro w hSw; (try dsimp only at hSw); go_simp; first | done | with_reducible rfl)
  (try simp only [Act.put, List.setIfInBounds_toArray, List.set_cons_zero, List.set_cons_succ])
  refine takeD (i := 4) (d := 13) (v := ?_) rfl rfl (by kernel_rfl) (by kernel_rfl) (by kernel_rfl) (fun _ _ _ h => h) (Or.inl ⟨by rfl, ?_⟩) (by assumption) ?_
  rotate_left
  · (intro w hSw; (try dsimp only at hSw); go_simp; first | done | with_reducible rfl)
  (try simp only [Act.put, List.setIfInBounds_toArray, List.set_cons_zero, List.set_cons_succ])
  refine takeD (i := 5) (d := 14) (v := ?_) rfl rfl (by kernel_rfl) (by kernel_rfl) (by kernel_rfl) (fun _ _ _ h => h) (Or.inl ⟨by rfl, ?_⟩) (by assumption) ?_
  rotate_left
  · (intro w hSw; (try dsimp only at hSw); go_simp; first | done | with_reducible rfl)
  (try simp only [Act.put, List.setIfInBounds_toArray, List.set_cons_zero, List.set_cons_succ])
  refine wpAnyH_ready (rs := [2]) (by kernel_rfl) (by simp) ?_
  refine AllReadyH.cons rfl (fun K hK => ?_) ?_
  · go_simp
    (go_at_call 21; refine (HPC.out _ (HeldR.re (by assumption) HR.out HB0.out)).mono ?_; rintro e w2 ⟨u, rfl, hO2, hb2⟩)
    go_wp2_with fail
    refine hK.out _ _ ?_ (fun hHeld => ?_)
    · (first | assumption | exact HeldR.below (by assumption) hb2 hq0 | exact HeldR.below (by assumption) hb3 hq0)
    clear hK K
    (try simp only [Act.put, List.setIfInBounds_toArray, List.set_cons_zero, List.set_cons_succ])
    refine wpAnyH_ready (rs := [6]) (by kernel_rfl) (by simp) ?_
    refine AllReadyH.cons rfl (fun K hK => ?_) ?_
    · have HL2 := Lib.hid (hO2.slBl HPD.out)
      go_simp
      (go_at_call 24; refine (rintact_any vp vo va u r (pieces r) v s on _ (HeldR.re (by assumption) HR.out HB0.out) HL2.out).mono ?_; rintro e w3 ⟨u3, rfl, hO3, hb3⟩)
      go_wp2_with fail
      refine hK.out _ _ ?_ (fun hHeld => ?_)
      · (first | assumption | exact HeldR.below (by assumption) hb2 hq0 | exact HeldR.below (by assumption) hb3 hq0)
      clear hK K
      (try simp only [Act.put, List.setIfInBounds_toArray, List.set_cons_zero, List.set_cons_succ])
      refine takeD (i := 7) (d := 8) (v := ?_) rfl rfl (by kernel_rfl) (by kernel_rfl) (by kernel_rfl) (fun _ _ _ h => h) (Or.inl ⟨by rfl, ?_⟩) (by assumption) ?_
      rotate_left
      · (intro w hSw; (try dsimp only at hSw); go_simp; first | done | with_reducible rfl)
      (try simp only [Act.put, List.setIfInBounds_toArray, List.set_cons_zero, List.set_cons_succ])
      refine wpAnyH_done (by kernel_rfl) ?_ _
      have hbz := HeldR.bl (q := q) (by assumption)
      have hbz2 := HB0.out.trans (hbz.mono HB0.out.size)
      have hbl := HeldR.bl (W0 := W0) (q := q) (wc := w2) (by assumption)
      go_wp2_with fail
      go_ret
      exact ⟨_, rfl, hO3.base (Nat.le_trans HB0.out.size hbl.size), hbz2⟩
    exact AllReadyH.nil
  exact AllReadyH.nil
end Go.Proofs.Ytflembddbbkojaa
