/- Blocks of bytes and of rows of bytes. -/
import Derived.Test.YtkpfndhocgmgjaaGW1
import Derived.Deep.LoopGhost
import Derived.Deep.DeepCutAuto
import Derived.Deep.RegionHeld3
import Derived.Deep.RegionLaw
namespace Go.Proofs.Ytkpfndhocgmgjaa
open Go.RowKit
set_option linter.unusedVariables false
set_option linter.unusedSimpArgs false
theorem info_u8 : (Try.prog.info? 5).map (fun i => (i.zero, i.size, i.bytes)) = some (some (.int .u8 0), 1, 1) := by kernel_rfl
theorem info_row : (Try.prog.info? 25).map (fun i => (i.zero, i.size, i.bytes)) = some (some (.slice none 0 0), 1, 24) := by kernel_rfl
theorem madeCells_one (v : Value) (n : Nat) : madeCells #[v] n = Array.replicate n v := by
  apply Array.ext
  · simp [madeCells]
  · intro i h1 h2; simp [madeCells, Nat.mod_one]
theorem mk_u8 (n : Nat) (hn : n ≤ 1048576) : ∀ w : World, (Instr.makeSlice 25 (.int .i64 (n : Int)) (.int .i64 (n : Int))).run Try.prog w = .ok (.slice (some ⟨w.heap.size, 0, none⟩) n n) (w.alloc (.cells (Array.replicate n (.int .u8 0)) 5)) := by
  intro w
  obtain ⟨i0, hi0, hz0, hz1, hz2⟩ := info_parts info_u8
  have h := run_make (P := Try.prog) w 25 5 i0 _ Try.underlying25 hi0 hz0 .i64 .i64 (n : Int) (n : Int) (by omega) (by omega) (by rw [hz2]; omega) (by omega)
  rw [hz1] at h
  simpa [madeCells_one, Value.cells] using h
theorem mk_rows (n : Nat) (hn : n ≤ 1048576) : ∀ w : World, (Instr.makeSlice 35 (.int .i64 (n : Int)) (.int .i64 (n : Int))).run Try.prog w = .ok (.slice (some ⟨w.heap.size, 0, none⟩) n n) (w.alloc (.cells (Array.replicate n (.slice none 0 0)) 25)) := by
  intro w
  obtain ⟨i0, hi0, hz0, hz1, hz2⟩ := info_parts info_row
  have h := run_make (P := Try.prog) w 35 25 i0 _ Try.underlying35 hi0 hz0 .i64 .i64 (n : Int) (n : Int) (by omega) (by omega) (by rw [hz2]; omega) (by omega)
  rw [hz1] at h
  simpa [madeCells_one, Value.cells] using h
/-- Block g holds the bytes l and nothing else. -/
def BlkB (W : World) (g : Nat) (l : List UInt8) : Prop := W.heap[g]? = some (.cells (bys l).toArray 5 (0, 0))
theorem BlkB.lt {W : World} {g : Nat} {l : List UInt8} (h : BlkB W g l) : g < W.heap.size := by
  unfold BlkB at h
  rcases Nat.lt_or_ge g W.heap.size with h1 | h1
  · exact h1
  · rw [Array.getElem?_eq_none h1] at h; cases h
theorem BlkB.cell {W : World} {g : Nat} {l : List UInt8} (h : BlkB W g l) {j : Nat} (hj : j < l.length) : W.cell? ⟨g, j, none⟩ = some (.int .u8 (l[j].toNat : Int)) := by
  rw [cell_of_row W g j _ _ _ h]; simp [bys, hj]
theorem BlkB.cellD {W : World} {g : Nat} {l : List UInt8} (h : BlkB W g l) {j : Nat} (hj : j < l.length) : W.cell? ⟨g, j, none⟩ = some (.int .u8 ((l.getD j 0).toNat : Int)) := by
  rw [h.cell hj, getD_lt _ _ hj]
theorem BlkB.free {W : World} {g : Nat} {l : List UInt8} (h : BlkB W g l) (j : Nat) : W.frozen? ⟨g, j, none⟩ = false := frozen_of_row W g j _ _ h
theorem BlkB.set {W : World} {g : Nat} {l : List UInt8} (h : BlkB W g l) (j : Nat) (y : UInt8) : BlkB (W.setCell ⟨g, j, none⟩ (.int .u8 (y.toNat : Int))) g (l.set j y) := by
  unfold BlkB
  rw [heap_setCell_same W g j _ _ _ h]
  simp [bys, List.map_set]
theorem BlkB.other {W : World} {g b j : Nat} {l : List UInt8} (h : BlkB W g l) (hb : g ≠ b) (v : Value) : BlkB (W.setCell ⟨b, j, none⟩ v) g l := (heap_setCell_other W ⟨b, j, none⟩ g v hb).trans h
theorem BlkB.below {W W' : World} {g B : Nat} {l : List UInt8} (h : BlkB W g l) (hb : Below B W W') (hg : g < B) : BlkB W' g l := (hb.block g hg).trans h
theorem BlkB.drewN {W : World} {g : Nat} {l : List UInt8} (h : BlkB W g l) (n : Nat) : BlkB (W.drewN n) g l := h
theorem BlkB.new (W : World) (n : Nat) : BlkB (W.alloc (.cells (Array.replicate n (.int .u8 0)) 5)) W.heap.size (List.replicate n 0) := by
  unfold BlkB
  rw [heap_alloc_new]
  simp [bys]
theorem BlkB.byS {W : World} {g c : Nat} {l : List UInt8} (h : BlkB W g l) (hc : l.length ≤ c) (hm : l.length ≤ maxLen) {R : Nat → Prop} (hR : R g) : ByS W R (.slice (some ⟨g, 0, none⟩) l.length c) l :=
  ⟨_, c, rfl, hc, hm, fun _ => ⟨g, 0, rfl, hR, fun k x hk => by
    have hj : k < l.length := (List.getElem?_eq_some_iff.1 hk).1
    have hx : l[k] = x := (List.getElem?_eq_some_iff.1 hk).2
    rw [Nat.zero_add, h.cell hj, hx]⟩⟩
theorem ByS.form {w : World} {R : Nat → Prop} {v : Value} {l : List UInt8} (h : ByS w R v l) : ∃ A c, v = .slice A l.length c ∧ l.length ≤ c ∧ l.length ≤ maxLen := by
  obtain ⟨A', c', e, h1, h2, h3⟩ := h
  exact ⟨A', c', e, h1, h2⟩
theorem ByS.at_ {w : World} {R : Nat → Prop} {A : Option Addr} {n c : Nat} {l : List UInt8} (h : ByS w R (.slice A n c) l) {k : Nat} (hk : k < l.length) : ∃ b off, A = some ⟨b, off, none⟩ ∧ R b ∧ w.cell? ⟨b, off + k, none⟩ = some (.int .u8 (l[k].toNat : Int)) := by
  obtain ⟨A', c', e, _, _, h3⟩ := h
  obtain ⟨b, off, e2, hb, hc⟩ := h3 (by omega)
  injection e with e
  exact ⟨b, off, e.trans e2, hb, hc k _ (List.getElem?_eq_getElem hk)⟩
/-- All elements, where there is one. -/
theorem ByS.all {w : World} {R : Nat → Prop} {A : Option Addr} {n c : Nat} {l : List UInt8} (h : ByS w R (.slice A n c) l) (hk : 0 < l.length) : ∃ b off, A = some ⟨b, off, none⟩ ∧ R b ∧ ∀ k (h : k < l.length), w.cell? ⟨b, off + k, none⟩ = some (.int .u8 (l[k].toNat : Int)) := by
  obtain ⟨A', c', e, _, _, h3⟩ := h
  obtain ⟨b, off, e2, hb, hc⟩ := h3 hk
  injection e with e
  exact ⟨b, off, e.trans e2, hb, fun k hk => hc k _ (List.getElem?_eq_getElem hk)⟩
/-- A [][]byte that reads as t. -/
def MatAt (w : World) (R : Nat → Prop) (t : Mat) (b off : Nat) : Prop := ∀ k r, t[k]? = some r → ∃ va, w.cell? ⟨b, off + k, none⟩ = some va ∧ ByS w R va r
def MatS (w : World) (R : Nat → Prop) (v : Value) (t : Mat) : Prop := Row R v t.length (MatAt w R t)
theorem MatS.keep {w w' : World} {R : Nat → Prop} {v : Value} {t : Mat} (h : MatS w R v t) (hk : Kept R w w') : MatS w' R v t :=
  h.imp (fun _ hb => hb) fun b off hb hc k r hr => by
    obtain ⟨va, h1, h2⟩ := hc k r hr
    exact ⟨va, (hk.cell hb).trans h1, h2.keep hk⟩
theorem MatS.mono {w : World} {R R' : Nat → Prop} {v : Value} {t : Mat} (h : MatS w R v t) (hr : ∀ b, R b → R' b) : MatS w R' v t :=
  h.imp hr fun b off hb hc k r hk => by
    obtain ⟨va, h1, h2⟩ := hc k r hk
    exact ⟨va, h1, h2.mono hr⟩
theorem MatS.nil (w : World) (R : Nat → Prop) (c : Nat) : MatS w R (.slice none 0 c) [] := Row.nil _ _ _
theorem MatS.form {w : World} {R : Nat → Prop} {v : Value} {t : Mat} (h : MatS w R v t) : ∃ A c, v = .slice A t.length c ∧ t.length ≤ c ∧ t.length ≤ maxLen := by
  obtain ⟨A', c', e, h1, h2, h3⟩ := h
  exact ⟨A', c', e, h1, h2⟩
theorem MatS.at_ {w : World} {R : Nat → Prop} {A : Option Addr} {n c : Nat} {t : Mat} (h : MatS w R (.slice A n c) t) {k : Nat} (hk : k < t.length) : ∃ b off va, A = some ⟨b, off, none⟩ ∧ R b ∧ w.cell? ⟨b, off + k, none⟩ = some va ∧ ByS w R va t[k] := by
  obtain ⟨A', c', e, _, _, h3⟩ := h
  obtain ⟨b, off, e2, hb, hc⟩ := h3 (by omega)
  obtain ⟨va, g1, g2⟩ := hc k _ (List.getElem?_eq_getElem hk)
  injection e with e
  exact ⟨b, off, va, e.trans e2, hb, g1, g2⟩
theorem MatS.below {w w' : World} {v : Value} {t : Mat} (h : MatS w (Bl w.heap.size) v t) (hb : Below w.heap.size w w') : MatS w' (Bl w'.heap.size) v t := (h.keep (kept_below hb)).mono (Bl.mono hb.size)
theorem ByS.below {w w' : World} {v : Value} {l : List UInt8} (h : ByS w (Bl w.heap.size) v l) (hb : Below w.heap.size w w') : ByS w' (Bl w'.heap.size) v l := (h.keep (kept_below hb)).mono (Bl.mono hb.size)
theorem MatS.takeS {w : World} {R : Nat → Prop} {A : Option Addr} {n c k : Nat} {t : Mat} (h : MatS w R (.slice A n c) t) (hk : k ≤ t.length) {c' : Nat} (hc' : k ≤ c') : MatS w R (.slice A k c') (t.take k) := by
  obtain ⟨A', c1, e, h1, h2, h3⟩ := h
  injection e with e1 e2 e3
  subst e1
  have hl : (t.take k).length = k := by rw [List.length_take]; omega
  refine ⟨_, _, by rw [hl], by rw [hl]; exact hc', by rw [hl]; omega, fun hn => ?_⟩
  obtain ⟨b, off, e2, hb, hc⟩ := h3 (by omega)
  refine ⟨b, off, e2, hb, fun j r hr => hc j r ?_⟩
  have hj : j < (t.take k).length := (List.getElem?_eq_some_iff.1 hr).1
  rw [hl] at hj
  rwa [List.getElem?_take_of_lt hj] at hr
/-- Blocks that the call has made. -/
def Fr (B n : Nat) (b : Nat) : Prop := B ≤ b ∧ b < n
theorem Fr.bl {B n : Nat} : ∀ b, Fr B n b → Bl n b := fun _ h => h.2
end Go.Proofs.Ytkpfndhocgmgjaa
