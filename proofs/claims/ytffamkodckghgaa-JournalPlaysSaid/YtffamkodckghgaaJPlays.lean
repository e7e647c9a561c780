import Derived.Test.YtffamkodckghgaaJRefCrash
import Derived.Deep.CutBlock
namespace Go.Proofs.Ytffamkodckghgaa
open Go.RowKit
set_option linter.unusedVariables false
set_option linter.unusedSimpArgs false
/-- One call on a journal. -/
structure OpS where
  kind : Int
  term : Int
  keep : Int
  r : Rec
def OpAt (w : World) (R : Nat → Prop) (os : List OpS) (b off : Nat) : Prop :=
  ∀ k o, os[k]? = some o → ∃ va, w.cell? ⟨b, off + k * 5, none⟩ = some (.int .i64 o.kind) ∧ w.cell? ⟨b, off + k * 5 + 1, none⟩ = some (.int .i64 o.term) ∧ w.cell? ⟨b, off + k * 5 + 2, none⟩ = some (.int .i64 o.keep) ∧ w.cell? ⟨b, off + k * 5 + 3, none⟩ = some (.int .i64 o.r.kind) ∧ w.cell? ⟨b, off + k * 5 + 4, none⟩ = some va ∧ IntS w R va o.r.args
def OpsS (w : World) (R : Nat → Prop) (v : Value) (os : List OpS) : Prop := Row R v os.length (OpAt w R os) ∧ ∀ o ∈ os, I64 o.kind ∧ I64 o.term ∧ I64 o.keep ∧ I64 o.r.kind
theorem OpsS.form {w : World} {R : Nat → Prop} {v : Value} {os : List OpS} (h : OpsS w R v os) : ∃ A c, v = .slice A os.length c ∧ os.length ≤ c ∧ os.length ≤ maxLen := by
  obtain ⟨⟨A', c', e, h1, h2, h3⟩, h4⟩ := h
  exact ⟨A', c', e, h1, h2⟩
theorem OpsS.keep {w w' : World} {R : Nat → Prop} {v : Value} {os : List OpS} (h : OpsS w R v os) (hk : Kept R w w') : OpsS w' R v os :=
  ⟨h.1.imp (fun _ hb => hb) fun b off hb hc k o ho => by
    obtain ⟨va, h1, h2, h3, h4, h5, h6⟩ := hc k o ho
    exact ⟨va, (hk.cell hb).trans h1, (hk.cell hb).trans h2, (hk.cell hb).trans h3, (hk.cell hb).trans h4, (hk.cell hb).trans h5, h6.keep hk⟩, h.2⟩
theorem OpsS.at_ {w : World} {R : Nat → Prop} {A : Option Addr} {n c : Nat} {os : List OpS} (h : OpsS w R (.slice A n c) os) {k : Nat} (hk : k < os.length) :
    ∃ b off va, A = some ⟨b, off, none⟩ ∧ R b ∧ w.cell? ⟨b, off + k * 5, none⟩ = some (.int .i64 os[k].kind) ∧ w.cell? ⟨b, off + k * 5 + 1, none⟩ = some (.int .i64 os[k].term) ∧ w.cell? ⟨b, off + k * 5 + 2, none⟩ = some (.int .i64 os[k].keep) ∧ w.cell? ⟨b, off + k * 5 + 3, none⟩ = some (.int .i64 os[k].r.kind) ∧ w.cell? ⟨b, off + k * 5 + 4, none⟩ = some va ∧ IntS w R va os[k].r.args ∧ I64 os[k].kind ∧ I64 os[k].term ∧ I64 os[k].keep ∧ I64 os[k].r.kind := by
  obtain ⟨⟨A', c', e, _, _, h3⟩, h4⟩ := h
  obtain ⟨b, off, e2, hb, hc⟩ := h3 (by omega)
  obtain ⟨va, g1, g2, g3, g4, g5, g6⟩ := hc k os[k] (List.getElem?_eq_getElem hk)
  injection e with e
  exact ⟨b, off, va, e.trans e2, hb, g1, g2, g3, g4, g5, g6, h4 _ (List.getElem_mem hk)⟩
theorem appendS_cases (L : LogS) (t : Int) (r : Rec) (h : LogOk L) (ht : I64 t) : LogOk (appendS L t r).1 := by
  obtain ⟨h1, h2, h3⟩ := h
  unfold appendS
  split
  · exact ⟨h1, h2, h3⟩
  · split
    · exact ⟨h1, h2, h3⟩
    · split
      · exact ⟨h1, h2, h3⟩
      · have hf := frameB_length r
        have hl : (L.data ++ frameB r).length = L.data.length + 26 := by rw [List.length_append, hf]
        exact ⟨by show L.dur ≤ (L.data ++ frameB r).length; omega, by show (L.data ++ frameB r).length ≤ 32768; omega, ht⟩
theorem syncS_ok' (L : LogS) (t : Int) (h : LogOk L) (ht : I64 t) : LogOk (syncS L t).1 := by
  obtain ⟨h1, h2, h3⟩ := h
  unfold syncS
  split
  · exact ⟨h1, h2, h3⟩
  · exact ⟨Nat.le_refl _, h2, ht⟩
theorem fenceS_ok' (L : LogS) (t : Int) (h : LogOk L) (ht : I64 t) : LogOk (fenceS L t).1 := by
  obtain ⟨h1, h2, h3⟩ := h
  unfold fenceS
  split
  · exact ⟨h1, h2, h3⟩
  · exact ⟨h1, h2, ht⟩
theorem crashS_ok' (L : LogS) (k : Int) (h : LogOk L) : LogOk (crashS L k) := by
  obtain ⟨h1, h2, h3⟩ := h
  have hm := crashM_le L k
  refine ⟨?_, ?_, h3⟩
  · show crashM L k ≤ (L.data.take (crashM L k)).length
    rw [List.length_take]; omega
  · show (L.data.take (crashM L k)).length ≤ 32768
    rw [List.length_take]; omega
def OBlk (w : World) (b : Nat) (o : OpS) (va : Value) : Prop := w.heap[b]? = some (.cells #[.int .i64 o.kind, .int .i64 o.term, .int .i64 o.keep, .int .i64 o.r.kind, va] 54 (0, 0))
theorem OBlk.cells {w : World} {b : Nat} {o : OpS} {va : Value} (h : OBlk w b o va) :
    w.cell? ⟨b, 0, none⟩ = some (.int .i64 o.kind) ∧ w.cell? ⟨b, 1, none⟩ = some (.int .i64 o.term) ∧ w.cell? ⟨b, 2, none⟩ = some (.int .i64 o.keep) ∧ w.cell? ⟨b, 3, none⟩ = some (.int .i64 o.r.kind) ∧ w.cell? ⟨b, 4, none⟩ = some va ∧
      (∀ i, w.frozen? ⟨b, i, none⟩ = false) ∧ b < w.heap.size := by
  have h0 := cell_of_row w b 0 _ _ _ h
  have h1 := cell_of_row w b 1 _ _ _ h
  have h2 := cell_of_row w b 2 _ _ _ h
  have h3 := cell_of_row w b 3 _ _ _ h
  have h4 := cell_of_row w b 4 _ _ _ h
  exact ⟨by simpa using h0, by simpa using h1, by simpa using h2, by simpa using h3, by simpa using h4, fun i => frozen_of_row w b i _ _ h, block_lt_of_cell h0⟩

def RN (g h n : Nat) (b : Nat) : Prop := b < n ∧ b ≠ g ∧ b ≠ h
theorem RN.mono {g h n m : Nat} (e : n ≤ m) : ∀ b, RN g h n b → RN g h m b := fun _ hb => ⟨Nat.lt_of_lt_of_le hb.1 e, hb.2⟩
theorem RN.bl {g h n : Nat} : ∀ b, RN g h n b → Bl n b := fun _ hb => hb.1
theorem IntS.lit1e (w : World) (x : Int) (t : TypeId) (hx : I64 x) : IntS (w.alloc (.cells #[.int .i64 x] t)) (fun b => b = w.heap.size) (.slice (some ⟨w.heap.size, 0, none⟩) 1 1) [x] :=
  ⟨⟨_, 1, rfl, Nat.le_refl _, by unfold maxLen; simp, fun _ => ⟨_, _, rfl, rfl, fun k y hk => by
    match k, hk with
    | 0, hk => simp at hk; subst hk; simp
    | k + 1, hk => simp at hk⟩⟩, fun y hy => by simp at hy; subst hy; exact hx⟩
/-- The state between the calls of one round. -/
def PJ (w : World) (g h ob : Nat) (o : OpS) (va : Value) (L M : LogS) (W : World) : Prop :=
  LogAt 74 W g L ∧ LogAt 52 W h M ∧ OBlk W ob o va ∧ IntS W (RN g h W.heap.size) va o.r.args ∧ Below w.heap.size w W
section
variable {w W W' : World} {g h ob k : Nat} {o : OpS} {va : Value} {L M L' M' : LogS}
theorem PJ.c1 (hp : PJ w g h ob o va L M W) : W.cell? ⟨ob, 1, none⟩ = some (.int .i64 o.term) := hp.2.2.1.cells.2.1
theorem PJ.all (hp : PJ w g h ob o va L M W) : LogAt 74 W g L ∧ LogAt 52 W h M ∧ Below w.heap.size w W := ⟨hp.1, hp.2.1, hp.2.2.2.2⟩
theorem PJ.c2 (hp : PJ w g h ob o va L M W) : W.cell? ⟨ob, 2, none⟩ = some (.int .i64 o.keep) := hp.2.2.1.cells.2.2.1
theorem PJ.c3 (hp : PJ w g h ob o va L M W) : W.cell? ⟨ob, 1, none⟩ = some (.int .i64 o.term) ∧ W.cell? ⟨ob, 3, none⟩ = some (.int .i64 o.r.kind) ∧ W.cell? ⟨ob, 4, none⟩ = some va := ⟨hp.2.2.1.cells.2.1, hp.2.2.1.cells.2.2.2.1, hp.2.2.1.cells.2.2.2.2.1⟩
theorem PJ.drew (hp : PJ w g h ob o va L M W) : PJ w g h ob o va L M W.drew := ⟨hp.1, hp.2.1, hp.2.2.1, hp.2.2.2.1.keep (fun _ _ => rfl), hp.2.2.2.2.drew⟩
theorem PJ.left (hp : PJ w g h ob o va L M W) (hg : W.grownBy W' (some g)) (hw : w.heap.size ≤ g) (hog : ob ≠ g) (hgh : g ≠ h) (hL : LogAt 74 W' g L') : PJ w g h ob o va L' M W' :=
  ⟨hL, hp.2.1.grown hg (fun e => hgh e.symm), (hg.block ob hp.2.2.1.cells.2.2.2.2.2.2 (fun e => hog (by injection e))).trans hp.2.2.1,
    (hp.2.2.2.1.keep (fun b hb => hg.block b hb.1 (fun e => hb.2.1 (by injection e)))).mono (RN.mono hg.size), below_only hp.2.2.2.2 hg hw hp.2.2.2.2.size⟩
theorem PJ.right (hp : PJ w g h ob o va L M W) (hg : W.grownBy W' (some h)) (hw : w.heap.size ≤ h) (hog : ob ≠ h) (hgh : g ≠ h) (hT : LogAt 52 W' h M') : PJ w g h ob o va L M' W' :=
  ⟨hp.1.grown hg hgh, hT, (hg.block ob hp.2.2.1.cells.2.2.2.2.2.2 (fun e => hog (by injection e))).trans hp.2.2.1,
    (hp.2.2.2.1.keep (fun b hb => hg.block b hb.1 (fun e => hb.2.2 (by injection e)))).mono (RN.mono hg.size), below_only hp.2.2.2.2 hg hw hp.2.2.2.2.size⟩
end

/-- The state before the last test of a round. -/
def PK (w : World) (g h : Nat) (M : LogS) (vx : Value) (W : World) : Prop :=
  LogAt 74 W g M ∧ LogAt 52 W h M ∧ RecS W (Bl W.heap.size) vx (scan M.data) ∧ Below w.heap.size w W
section
variable {w W W' : World} {g h : Nat} {M : LogS} {vx : Value}
theorem PK.cs (hp : PK w g h M vx W) : W.cell? ⟨h, 0, none⟩ = some (.string ⟨M.data.toArray⟩) ∧ W.cell? ⟨h, 1, none⟩ = some (.int .i64 (M.dur : Nat)) ∧ W.cell? ⟨h, 2, none⟩ = some (.int .i64 M.term) := ⟨hp.2.1.cells.1, hp.2.1.cells.2.1, hp.2.1.cells.2.2.1⟩
theorem PK.all (hO : LogOk M) (hp : PK w g h M vx W) : LogAt 74 W g M ∧ LogAt 52 W h M ∧ LogOk M ∧ Below w.heap.size w W := ⟨hp.1, hp.2.1, hO, hp.2.2.2⟩
theorem PK.below (hp : PK w g h M vx W) (hb : Below W.heap.size W W') : PK w g h M vx W' :=
  ⟨hp.1.below hb hp.1.cells.2.2.2.2.2.2, hp.2.1.below hb hp.2.1.cells.2.2.2.2.2.2, (hp.2.2.1.keep (kept_below hb)).mono (Bl.mono hb.size), Below.on hp.2.2.2 hp.2.2.2.size hb⟩
theorem PK.drewN (hp : PK w g h M vx W) (n : Nat) : PK w g h M vx (W.drewN n) := hp.below (Below.drewN' (Below.refl _ _) n)
theorem PK.drew (hp : PK w g h M vx W) : PK w g h M vx W.drew := hp.below (Below.refl _ _).drew
end

set_option maxHeartbeats 6400000 in
set_option maxRecDepth 100000 in
theorem lawPlays_walk (vo : Value) (os : List OpS) (near : Bool) (w : World) (h0 : OpsS w (Bl w.heap.size) vo os) :
    Calls Try.prog 7 #[vo, .bool near] w fun e w' => e = .returned (.bool true) ∧ Below w.heap.size w w' := by
  obtain ⟨A, c, rfl, -, hm⟩ := h0.form
  unfold maxLen at hm
  by_cases h50 : 50 < os.length
  · have h51 : (50 : Int) < (os.length : Int) := by omega
    go_enter Try.func7, Try.ntmps7
    go_wp2_with fail
    refine (awake_any _).mono ?_
    rintro e w2 ⟨rfl, hb2⟩
    go_wp2
    go_ret
    exact ⟨rfl, hb2⟩
  · have h51 : ¬ (50 : Int) < (os.length : Int) := by omega
    have H0 := Lib.hid h0
    clear h0
    go_enter Try.func7, Try.ntmps7
    go_wp2_with fail
    refine (new_any _).mono ?_
    rintro e w1 ⟨rfl, hL1, hb1⟩
    obtain ⟨g, hg⟩ : ∃ g, g = w.heap.size := ⟨_, rfl⟩
    rw [← hg] at hL1 ⊢
    have hgW : w.heap.size ≤ g := by omega
    clear hg
    go_upto_if 23 with fail
    obtain ⟨h, hh⟩ : ∃ h, h = w1.heap.size := ⟨_, rfl⟩
    have hgh : g < h := by rw [hh]; exact hL1.cells.2.2.2.2.2.2
    obtain ⟨w2, hw2⟩ : ∃ w2, w2 = w1.alloc (.cells #[.string ⟨#[]⟩, .int .i64 0, .int .i64 0] 52) := ⟨_, rfl⟩
    have hb2' : Below w1.heap.size w1 w2 := by rw [hw2]; exact (Below.refl _ _).alloc (Nat.le_refl _) _
    have hT2 : LogAt 52 w2 h ⟨[], 0, 0⟩ := by rw [hw2, hh]; exact heap_alloc_new w1 _
    have hL2 := hL1.below hb2' hL1.cells.2.2.2.2.2.2
    have hb2 := Below.on hb1 hb1.size hb2'
    rw [← hw2, ← hh]
    have hhW : w.heap.size ≤ h := by omega
    clear hw2 hh hb2' hL1 hb1
    go_wp2_with fail
    go_loopg [7] os.length (fun n v7 wr => ∃ (j : Nat) (L : LogS), j ≤ os.length ∧ n = os.length - j ∧ v7 = .int .i64 (j : Nat) ∧ LogAt 74 wr g L ∧ LogAt 52 wr h L ∧ LogOk L ∧ Below w.heap.size w wr)
    case atStart => exact ⟨0, ⟨[], 0, 0⟩, by omega, rfl, rfl, hL2, hT2, ⟨by simp, by simp, by unfold I64; simp⟩, hb2⟩
    case round =>
      clear hL2 hT2 hb2
      obtain ⟨j, L, hj, rfl, rfl, hL, hT, hO, hbr⟩ := hrel
      by_cases hlt : j < os.length
      · have hsz := hbr.size
        obtain ⟨b, off, va, rfl, hR, c0, c1, c2, c3, c4, hva, i0, i1, i2, i3⟩ := H0.out.at_ hlt
        have d0 := (hbr.cell (p := ⟨b, off + j * 5, none⟩) hR).trans c0
        have d1 := (hbr.cell (p := ⟨b, off + j * 5 + 1, none⟩) hR).trans c1
        have d2 := (hbr.cell (p := ⟨b, off + j * 5 + 2, none⟩) hR).trans c2
        have d3 := (hbr.cell (p := ⟨b, off + j * 5 + 3, none⟩) hR).trans c3
        have d4 := (hbr.cell (p := ⟨b, off + j * 5 + 4, none⟩) hR).trans c4
        have hvaw := hva.keep (kept_below hbr)
        obtain ⟨o, ho⟩ : ∃ o, o = os[j] := ⟨_, rfl⟩
        rw [← ho] at d0 d1 d2 d3 hvaw i0 i1 i2 i3
        clear c0 c1 c2 c3 c4 hva ho
        obtain ⟨Av, cv, rfl, -, hmv⟩ := hvaw.form
        unfold maxLen at hmv
        by_cases h10 : 10 < o.r.args.length
        · go_wp2_with fail
          refine (awake_any _).mono ?_
          rintro e w3 ⟨rfl, hb3⟩
          go_wp2
          go_ret
          exact ⟨rfl, Below.on (hbr.alloc hsz _) (by simp; omega) hb3⟩
        · go_upto_if 40 with fail
          obtain ⟨ob, hob⟩ : ∃ ob, ob = wr.heap.size := ⟨_, rfl⟩
          obtain ⟨w3, hw3⟩ : ∃ w3, w3 = wr.alloc (.cells #[.int .i64 o.kind, .int .i64 o.term, .int .i64 o.keep, .int .i64 o.r.kind, .slice Av o.r.args.length cv] 54) := ⟨_, rfl⟩
          have hb3' : Below wr.heap.size wr w3 := by rw [hw3]; exact (Below.refl _ _).alloc (Nat.le_refl _) _
          have hB3 : OBlk w3 ob o (.slice Av o.r.args.length cv) := by rw [hw3, hob]; exact heap_alloc_new wr _
          have hL3 := hL.below hb3' hL.cells.2.2.2.2.2.2
          have hT3 := hT.below hb3' hT.cells.2.2.2.2.2.2
          have hva3 : IntS w3 (RN g h w3.heap.size) (.slice Av o.r.args.length cv) o.r.args := (hvaw.keep (fun b hb => hb3'.block b (Nat.lt_of_lt_of_le hb hsz))).mono (fun b hb => ⟨Nat.lt_of_lt_of_le hb (Nat.le_trans hsz hb3'.size), by unfold Bl at hb; omega, by unfold Bl at hb; omega⟩)
          have hb3 := Below.on hbr hsz hb3'
          have hgo : g < ob ∧ h < ob := ⟨by rw [hob]; exact hL.cells.2.2.2.2.2.2, by rw [hob]; exact hT.cells.2.2.2.2.2.2⟩
          rw [← hw3, ← hob]
          clear hw3 hob hb3' hL hT hvaw hbr d0 d1 d2 d3 d4 hsz
          generalize Value.slice Av o.r.args.length cv = va at *
          go_cut [8] from 40 to 56 (fun v8 wx => ∃ (o : OpS) (va : Value), v8 = .pointer (some ⟨ob, 0, none⟩) ∧ OBlk wx ob o va ∧ IntS wx (RN g h wx.heap.size) va o.r.args ∧ I64 o.kind ∧ I64 o.term ∧ I64 o.keep ∧ I64 o.r.kind ∧ LogAt 74 wx g L ∧ LogAt 52 wx h L ∧ Below w.heap.size w wx)
          case first =>
            cases near with
            | true =>
              obtain ⟨e0, e1, e2, e3, e4, fz, hobl⟩ := hB3.cells
              obtain ⟨t0, t1, t2, -⟩ := hT3.cells
              have f1 := fz 1
              have hne : ob ≠ h := by omega
              have HWI := Lib.hid (fun W' => within_any o.term 4 W' i1 (by unfold I64; omega))
              go_wp2_with fail
              go_region_with (go_at_call 12; refine (HWI.out _).mono ?_; rintro e w6 ⟨rfl, rfl⟩)
              all_goals
                obtain ⟨t', ht'⟩ : ∃ t', t' = IntKind.i64.wrap (IntKind.i64.wrap (L.term + within o.term 4) - 1) := ⟨_, rfl⟩
                have it' : I64 t' := by rw [ht', IntKind.wrap_i64]; unfold I64; omega
                have hbW : Below w.heap.size w (w3.setCell ⟨ob, 1, none⟩ (.int .i64 t')).drew := (hb3.setCell (by simp; omega) _).drew
                have hBW : OBlk (w3.setCell ⟨ob, 1, none⟩ (.int .i64 t')).drew ob { o with term := t' } va := heap_setCell_same w3 ob 1 _ _ _ hB3
                have hLW : LogAt 74 (w3.setCell ⟨ob, 1, none⟩ (.int .i64 t')).drew g L := (Below.heap_setCell w3 ⟨ob, 1, none⟩ (.int .i64 t') g (by simp; omega)).trans hL3
                have hTW : LogAt 52 (w3.setCell ⟨ob, 1, none⟩ (.int .i64 t')).drew h L := (Below.heap_setCell w3 ⟨ob, 1, none⟩ (.int .i64 t') h (by simp; omega)).trans hT3
                rw [← ht']
                clear ht' e0 e1 e2 e3 e4 t0 t1 t2 f1 fz hB3 hL3 hT3 hb3 hobl
                generalize (w3.setCell ⟨ob, 1, none⟩ (.int .i64 t')).drew = w4 at *
                obtain ⟨e0, e1, e2, e3, e4, fz, hobl⟩ := hBW.cells
                have f3 := fz 3
                have f4 := fz 4
                have HWK := Lib.hid (fun W' => within_any o.keep 9 W' i2 (by unfold I64; omega))
                go_wp2_with fail
                refine (HWK.out _).mono ?_
                rintro e w6 ⟨rfl, rfl⟩
                go_wp2_with fail
                go_meet
                have hws : ((w4.setCell ⟨ob, 3, none⟩ (.int .i64 8)).setCell ⟨ob, 4, none⟩ (.slice (some ⟨w4.heap.size, 0, none⟩) 1 1)).heap.size = w4.heap.size := by simp
                have hbs : Below w.heap.size w ((w4.setCell ⟨ob, 3, none⟩ (.int .i64 8)).setCell ⟨ob, 4, none⟩ (.slice (some ⟨w4.heap.size, 0, none⟩) 1 1)) := (hbW.setCell (by simp; omega) _).setCell (by simp; omega) _
                have hBs : OBlk ((w4.setCell ⟨ob, 3, none⟩ (.int .i64 8)).setCell ⟨ob, 4, none⟩ (.slice (some ⟨w4.heap.size, 0, none⟩) 1 1)) ob ⟨o.kind, t', o.keep, ⟨8, [within o.keep 9]⟩⟩ (.slice (some ⟨w4.heap.size, 0, none⟩) 1 1) := heap_setCell_same _ ob 4 _ _ _ (heap_setCell_same w4 ob 3 _ _ _ hBW)
                have hLs : LogAt 74 ((w4.setCell ⟨ob, 3, none⟩ (.int .i64 8)).setCell ⟨ob, 4, none⟩ (.slice (some ⟨w4.heap.size, 0, none⟩) 1 1)) g L := (Below.heap_setCell _ ⟨ob, 4, none⟩ _ g (by simp; omega)).trans ((Below.heap_setCell w4 ⟨ob, 3, none⟩ _ g (by simp; omega)).trans hLW)
                have hTs : LogAt 52 ((w4.setCell ⟨ob, 3, none⟩ (.int .i64 8)).setCell ⟨ob, 4, none⟩ (.slice (some ⟨w4.heap.size, 0, none⟩) 1 1)) h L := (Below.heap_setCell _ ⟨ob, 4, none⟩ _ h (by simp; omega)).trans ((Below.heap_setCell w4 ⟨ob, 3, none⟩ _ h (by simp; omega)).trans hTW)
                generalize (w4.setCell ⟨ob, 3, none⟩ (.int .i64 8)).setCell ⟨ob, 4, none⟩ (.slice (some ⟨w4.heap.size, 0, none⟩) 1 1) = w5 at *
                have hba : Below w5.heap.size w5 (w5.alloc (.cells #[.int .i64 (within o.keep 9)] 3)) := (Below.refl _ _).alloc (Nat.le_refl _) _
                have h9 := within_range o.keep 9 (by omega)
                have hi := IntS.lit1e w5 (within o.keep 9) 3 (by unfold I64; omega)
                rw [hws] at hi
                have hgw4 := hLW.cells.2.2.2.2.2.2
                have hhw4 := hTW.cells.2.2.2.2.2.2
                exact ⟨⟨o.kind, t', o.keep, ⟨8, [within o.keep 9]⟩⟩, _, rfl, hba.block ob (by omega) |>.trans hBs, hi.mono (fun b hb => ⟨by rw [hb]; simp; omega, by rw [hb]; omega, by rw [hb]; omega⟩), i0, it', i2, by unfold I64; simp, hLs.below hba (by omega), hTs.below hba (by omega), Below.on hbs hbs.size hba⟩
            | false =>
              go_wp2
              go_meet
              exact ⟨o, va, rfl, hB3, hva3, i0, i1, i2, i3, hL3, hT3, hb3⟩
          case rest =>
            obtain ⟨o, va, rfl, hB, hva, i0, i1, i2, i3, hL4, hT4, hb4⟩ := hcut
            have hp4 : PJ w g h ob o va L L wc := ⟨hL4, hT4, hB, hva, hb4⟩
            clear hL3 hT3 hva3 hb3 hB3 hL4 hT4 hva hb4 h10 hmv
            obtain ⟨e0, e1, e2, e3, e4, fz, hobl⟩ := hB.cells
            clear hB fz
            go_upto_block 2 with fail
            go_cut [9, 10] from 59 to 100 (fun v9 v10 wy => ∃ (M : LogS) (k : Int), v9 = .int .i64 k ∧ v10 = .int .i64 k ∧ LogOk M ∧ LogAt 74 wy g M ∧ LogAt 52 wy h M ∧ Below w.heap.size w wy)
            case first =>
              by_cases k2 : o.kind = 2
              · have hk : (o.kind == 2) = true := by simpa using k2
                clear k2
                have hO' := syncS_ok' L o.term hO i1
                have HPl := Lib.hid (fun M W' (hp : PJ w g h ob o va L M W') => (sync_any g L o.term W' hp.1 i1 hO).mono (fun e w' ⟨he, hl, hgr⟩ => (⟨he, hp.left hgr hgW (by omega) (by omega) hl⟩ : e = _ ∧ PJ w g h ob o va (syncS L o.term).1 M w')))
                have HPr := Lib.hid (fun M W' (hp : PJ w g h ob o va M L W') => (refsync_any h L o.term W' hp.2.1 i1 hO).mono (fun e w' ⟨he, hl, hgr⟩ => (⟨he, hp.right hgr hhW (by omega) (by omega) hl⟩ : e = _ ∧ PJ w g h ob o va M (syncS L o.term).1 w')))
                have hpd := hp4.drew
                go_wp2_with fail
                go_region_held3 (fun w' => w'.cell? ⟨ob, 1, none⟩ = some (.int .i64 o.term)) (first | assumption | exact PJ.c1 (by assumption) | go_keep)
                  (first
                    | (go_at_call 24; refine (HPl.out _ _ (by assumption)).mono ?_; rintro e w6 ⟨rfl, hp6⟩)
                    | (go_at_call 25; refine (HPr.out _ _ (by assumption)).mono ?_; rintro e w6 ⟨rfl, hp6⟩))
                all_goals
                  go_wp2_with fail
                  go_meet
                  exact ⟨(syncS L o.term).1, _, rfl, rfl, hO', PJ.all (o := o) (ob := ob) (va := va) (by assumption)⟩
              have hk2 : (o.kind == 2) = false := by simpa using k2
              clear k2
              by_cases k3 : o.kind = 3
              · have hk : (o.kind == 3) = true := by simpa using k3
                clear k3
                have hO' := fenceS_ok' L o.term hO i1
                have HPl := Lib.hid (fun M W' (hp : PJ w g h ob o va L M W') => (fence_any g L o.term W' hp.1 i1 hO).mono (fun e w' ⟨he, hl, hgr⟩ => (⟨he, hp.left hgr hgW (by omega) (by omega) hl⟩ : e = _ ∧ PJ w g h ob o va (fenceS L o.term).1 M w')))
                have HPr := Lib.hid (fun M W' (hp : PJ w g h ob o va M L W') => (reffence_any h L o.term W' hp.2.1 i1 hO).mono (fun e w' ⟨he, hl, hgr⟩ => (⟨he, hp.right hgr hhW (by omega) (by omega) hl⟩ : e = _ ∧ PJ w g h ob o va M (fenceS L o.term).1 w')))
                have hpd := hp4.drew
                go_wp2_with fail
                go_region_held3 (fun w' => w'.cell? ⟨ob, 1, none⟩ = some (.int .i64 o.term)) (first | assumption | exact PJ.c1 (by assumption) | go_keep)
                  (first
                    | (go_at_call 26; refine (HPl.out _ _ (by assumption)).mono ?_; rintro e w6 ⟨rfl, hp6⟩)
                    | (go_at_call 27; refine (HPr.out _ _ (by assumption)).mono ?_; rintro e w6 ⟨rfl, hp6⟩))
                all_goals
                  go_wp2_with fail
                  go_meet
                  exact ⟨(fenceS L o.term).1, _, rfl, rfl, hO', PJ.all (o := o) (ob := ob) (va := va) (by assumption)⟩
              have hk3 : (o.kind == 3) = false := by simpa using k3
              clear k3
              by_cases k4 : o.kind = 4
              · have hk : (o.kind == 4) = true := by simpa using k4
                clear k4
                have hO' := crashS_ok' L o.keep hO
                have HPl := Lib.hid (fun M W' (hp : PJ w g h ob o va L M W') => (crash_any g L o.keep W' hp.1 i2 hO).mono (fun e w' ⟨he, hl, hgr⟩ => (⟨he, hp.left hgr hgW (by omega) (by omega) hl⟩ : e = _ ∧ PJ w g h ob o va (crashS L o.keep) M w')))
                have HPr := Lib.hid (fun M W' (hp : PJ w g h ob o va M L W') => (refcrash_any h L o.keep W' hp.2.1 i2 hO).mono (fun e w' ⟨he, hl, hgr⟩ => (⟨he, hp.right hgr hhW (by omega) (by omega) hl⟩ : e = _ ∧ PJ w g h ob o va M (crashS L o.keep) w')))
                go_wp2_with fail
                refine (HPl.out _ _ hp4).mono ?_
                rintro e w6 ⟨rfl, hp6⟩
                have e26 := hp6.c2
                go_wp2_with fail
                refine (HPr.out _ _ hp6).mono ?_
                rintro e w7 ⟨rfl, hp7⟩
                go_wp2_with fail
                go_meet
                exact ⟨_, _, rfl, rfl, hO', hp7.1, hp7.2.1, hp7.2.2.2.2⟩
              have hk4 : (o.kind == 4) = false := by simpa using k4
              clear k4
              have hO' := appendS_cases L o.term o.r hO i1
              have HPl := Lib.hid (fun M W' (hp : PJ w g h ob o va L M W') => (append_any g L o.term o.r.kind va o.r.args W' hp.1 i1 hO i3 (hp.2.2.2.1.mono RN.bl)).mono (fun e w' ⟨he, hl, hgr⟩ => (⟨he, hp.left hgr hgW (by omega) (by omega) hl⟩ : e = Ending.returned (.int .i64 (appendS L o.term o.r).2) ∧ PJ w g h ob o va (appendS L o.term o.r).1 M w')))
              have HPr := Lib.hid (fun M W' (hp : PJ w g h ob o va M L W') => (refappend_any h L o.term o.r.kind va o.r.args W' hp.2.1 i1 hO i3 (hp.2.2.2.1.mono RN.bl)).mono (fun e w' ⟨he, hl, hgr⟩ => (⟨he, hp.right hgr hhW (by omega) (by omega) hl⟩ : e = Ending.returned (.int .i64 (appendS L o.term o.r).2) ∧ PJ w g h ob o va M (appendS L o.term o.r).1 w')))
              have hpd := hp4.drew
              go_wp2_with fail
              go_region_held3 (fun w' => w'.cell? ⟨ob, 1, none⟩ = some (.int .i64 o.term) ∧ w'.cell? ⟨ob, 3, none⟩ = some (.int .i64 o.r.kind) ∧ w'.cell? ⟨ob, 4, none⟩ = some va) (first | assumption | exact PJ.c3 (by assumption) | go_keep)
                (first
                  | (go_at_call 30; refine (HPl.out _ _ (by assumption)).mono ?_; rintro e w6 ⟨rfl, hp6⟩)
                  | (go_at_call 31; refine (HPr.out _ _ (by assumption)).mono ?_; rintro e w6 ⟨rfl, hp6⟩))
              all_goals
                go_wp2_with fail
                go_meet
                exact ⟨(appendS L o.term o.r).1, _, rfl, rfl, hO', PJ.all (o := o) (ob := ob) (va := va) (by assumption)⟩
            case rest =>
              clear hp4 e0 e1 e2 e3 e4 hobl
              obtain ⟨M, k, rfl, rfl, hO', hL5, hT5, hb5⟩ := hcut
              have HSC := Lib.hid (fun W' => refscan_any ⟨M.data.toArray⟩ W' (by have := hO'.2.1; show M.data.toArray.size ≤ _; simp; omega))
              have HBY := Lib.hid (bytes_any g M wc hL5)
              go_wp2_with fail
              refine HBY.out.mono ?_
              rintro e w6 ⟨rfl, n6, rfl⟩
              have t0 : (wc.drewN n6).cell? ⟨h, 0, none⟩ = some (.string ⟨M.data.toArray⟩) := hT5.cells.1
              go_wp2_with fail
              refine (HSC.out _).mono ?_
              rintro e w7 ⟨vx, rfl, hvx, hb7⟩
              obtain ⟨Ax, cx, rfl, -, -⟩ := hvx.form
              have hp7 : PK w g h M (.slice Ax (scan M.data).length cx) w7 := ⟨(hL5.drewN n6).below hb7 hL5.cells.2.2.2.2.2.2, (hT5.drewN n6).below hb7 hT5.cells.2.2.2.2.2.2, hvx, Below.on (Below.drewN' hb5 n6) hb5.size hb7⟩
              have hpd := hp7.drew
              have HT := Lib.hid (fun W' (hp : PK w g h M (.slice Ax (scan M.data).length cx) W') => term_any g M W' hp.1)
              have HR := Lib.hid (fun W' (hp : PK w g h M (.slice Ax (scan M.data).length cx) W') => (records_any g M W' hp.1 hO').mono (fun e w' ⟨v, he, hv, hb⟩ => (⟨v, he, hv, hp.below hb⟩ : ∃ v, e = Ending.returned v ∧ RecS w' (Bl w'.heap.size) v (scan M.data) ∧ PK w g h M (.slice Ax (scan M.data).length cx) w')))
              have HS := Lib.hid (fun W' v (hp : PK w g h M (.slice Ax (scan M.data).length cx) W') (hv : RecS W' (Bl W'.heap.size) v (scan M.data)) => (sameRecs_any _ _ _ _ _ _ W' hv hp.2.2.1).mono (fun e w' ⟨he, n, hn⟩ => (⟨by rw [he, eqB_true rfl], by rw [hn]; exact hp.drewN n⟩ : e = Ending.returned (.bool true) ∧ PK w g h M (.slice Ax (scan M.data).length cx) w')))
              clear hL5 hT5 hb5 hvx hb7 HBY HSC t0
              go_wp2_with fail
              go_region_held3 (fun w' => w'.cell? ⟨h, 0, none⟩ = some (.string ⟨M.data.toArray⟩) ∧ w'.cell? ⟨h, 1, none⟩ = some (.int .i64 (M.dur : Nat)) ∧ w'.cell? ⟨h, 2, none⟩ = some (.int .i64 M.term)) (first | assumption | exact PK.cs (by assumption) | go_keep)
                (first
                  | (go_at_call 33; refine (HT.out _ (by assumption)).mono ?_; rintro e w8 ⟨rfl, rfl⟩)
                  | (go_at_call 34; refine (HR.out _ (by assumption)).mono ?_; rintro e w8 ⟨v8, rfl, hv8, hp8⟩)
                  | (go_at_call 21; refine (HS.out _ _ (by assumption) (by assumption)).mono ?_; rintro e w9 ⟨rfl, hp9⟩))
              all_goals
                go_wp2_with fail
                go_roundg (os.length - (j + 1))
                case measure => omega
                case rel => exact ⟨j + 1, M, by omega, rfl, by go_num, PK.all (vx := .slice Ax (scan M.data).length cx) hO' (by assumption)⟩
      · go_wp2_with fail
        refine (awake_any _).mono ?_
        rintro e w3 ⟨rfl, hb3⟩
        go_wp2
        go_ret
        exact ⟨rfl, Below.on hbr hbr.size hb3⟩
end Go.Proofs.Ytffamkodckghgaa
