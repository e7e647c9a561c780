/- Rows of any numbers, walked. -/
import Derived.Test.YtkpfndhocgmgjaaGN
import Derived.Test.YtkpfndhocgmgjaaGD2
namespace Go.Proofs.Ytkpfndhocgmgjaa
open Go.RowKit
set_option linter.unusedVariables false
set_option linter.unusedSimpArgs false
/-- A [][]byte that the call has built of new blocks alone. -/
def OwnF (w : World) (base : Nat) (v : Value) (t : Mat) : Prop := ∃ xs, w.ownsRow base 25 1 v t.length xs ∧ ∀ j, j < t.length → ByS w (fun b => base ≤ b ∧ b < w.heap.size ∧ v.ownBlock ≠ some b) (xs.getD j undef) (t.getD j [])
theorem OwnF.nil (w : World) (base : Nat) : OwnF w base (.slice none 0 0) [] := ⟨[], World.ownsRow_nil _ _ _ _, fun j hj => by cases hj⟩
theorem OwnF.form {w : World} {base : Nat} {v : Value} {t : Mat} (h : OwnF w base v t) : ∃ A c, v = .slice A t.length c := by
  obtain ⟨xs, ho, -⟩ := h
  exact own_form ho
theorem OwnF.grown {w w2 : World} {base g : Nat} {v : Value} {t : Mat} (h : OwnF w base v t) (hg : w.grownBy w2 (some g)) (hgb : g < base) : OwnF w2 base v t := by
  obtain ⟨xs, ho, hc⟩ := h
  refine ⟨xs, ho.kept hg ?_, fun j hj => ((hc j hj).keep (fun b hbb => hg.block b hbb.2.1 (fun e => by injection e with e; omega))).mono (fun b hbb => ⟨hbb.1, Nat.lt_of_lt_of_le hbb.2.1 hg.size, hbb.2.2⟩)⟩
  cases hv : v.ownBlock with
  | none => exact .inl rfl
  | some q => exact .inr (fun e => by injection e with e; have := (ho.lt q hv).1; omega)
theorem OwnF.matS {w : World} {base : Nat} {v : Value} {t : Mat} (h : OwnF w base v t) : MatS w (Fr base w.heap.size) v t := by
  obtain ⟨xs, ho, hc⟩ := h
  have hxl : xs.length = t.length := by have := ho.1; omega
  rcases ho.2 with ⟨rfl, h0⟩ | ⟨g, cap, cur, rfl, hg0, hg1, h2, h3, hg2⟩
  · unfold MatS; rw [h0]; exact Row.nil _ _ _
  · have ho' : w.ownsRow base 25 1 (rowC g t.length cap) t.length xs := ho
    refine ⟨_, cap, rfl, h2, Nat.le_trans h2 h3, fun _ => ⟨g, 0, rfl, own_lt ho', fun k r hk => ?_⟩⟩
    have hj : k < t.length := (List.getElem?_eq_some_iff.1 hk).1
    have hx : t[k] = r := (List.getElem?_eq_some_iff.1 hk).2
    have h1 := hc k hj
    rw [getD_lt t [] hj, hx] at h1
    refine ⟨xs.getD k undef, ?_, h1.mono (fun b hb => ⟨hb.1, hb.2.1⟩)⟩
    rw [Nat.zero_add, ho.cellAt k (by omega), List.getElem?_eq_getElem (by omega), getD_lt _ _ (by omega)]
theorem OwnF.push {w w' : World} {base : Nat} {v v' va : Value} {t : Mat} {r : List UInt8} {xs : List Value} (ho : w.ownsRow base 25 1 v t.length xs) (hc : ∀ j, j < t.length → ByS w (fun b => base ≤ b ∧ b < w.heap.size ∧ v.ownBlock ≠ some b) (xs.getD j undef) (t.getD j []))
    (ha : ByS w (fun b => base ≤ b ∧ b < w.heap.size ∧ v.ownBlock ≠ some b) va r)
    (ho' : w'.ownsRow base 25 1 v' (t.length + 1) (xs ++ [va])) (hg : w.grownBy w' v.ownBlock) (hat : v'.ownBlock = v.ownBlock ∨ v'.ownBlock = some (w.heap.size + 1)) : OwnF w' base v' (t ++ [r]) := by
  have hxl : xs.length = t.length := by have := ho.1; omega
  have hR : ∀ b, (base ≤ b ∧ b < w.heap.size ∧ v.ownBlock ≠ some b) → (base ≤ b ∧ b < w'.heap.size ∧ v'.ownBlock ≠ some b) := fun b hb => ⟨hb.1, Nat.lt_of_lt_of_le hb.2.1 hg.size, by
    rcases hat with e | e
    · rw [e]; exact hb.2.2
    · rw [e]; intro e2; injection e2 with e2; have := hb.2.1; omega⟩
  have hkp : Kept (fun b => base ≤ b ∧ b < w.heap.size ∧ v.ownBlock ≠ some b) w w' := fun b hb => hg.block b hb.2.1 (fun e => hb.2.2 e.symm)
  refine ⟨xs ++ [va], by rw [List.length_append]; exact ho', fun j hj => ?_⟩
  rw [List.length_append, List.length_singleton] at hj
  by_cases h1 : j < t.length
  · rw [getD_append_lt _ _ _ (by omega), getD_append_lt _ _ _ h1]
    exact ((hc j h1).keep hkp).mono hR
  · have h2 : j = t.length := by omega
    rw [h2, getD_last _ _ _ _ hxl, getD_last _ _ _ _ rfl]
    exact (ha.keep hkp).mono hR
theorem conv_u8 (x : Int) (h : 0 ≤ x ∧ x < 256) : (x = ((UInt8.ofNat x.toNat).toNat : Int)) := by rw [UInt8.toNat_ofNat']; omega
theorem grown_alloc {a w : World} {g : Nat} (h : a.grownBy w (some g)) (o : Obj) : a.grownBy (w.alloc o) (some g) :=
  ⟨h.os, h.tape, h.output, Nat.le_trans h.size (by simp), fun k hk hne => (Below.heap_alloc w o k (Nat.lt_of_lt_of_le hk h.size)).trans (h.block k hk hne)⟩
theorem grown_trans {a b c : World} {g : Nat} (h : a.grownBy b (some g)) (k : b.grownBy c (some g)) : a.grownBy c (some g) :=
  ⟨k.os.trans h.os, k.tape.trans h.tape, k.output.trans h.output, Nat.le_trans h.size k.size, fun i hi hne => (k.block i (Nat.lt_of_lt_of_le hi h.size) hne).trans (h.block i hi hne)⟩
theorem grown_new {a w w2 : World} {g : Nat} {row : Option Nat} (h : a.grownBy w (some g)) (k : w.grownBy w2 row) (hr : ∀ b, row = some b → a.heap.size ≤ b) : a.grownBy w2 (some g) :=
  ⟨k.os.trans h.os, k.tape.trans h.tape, k.output.trans h.output, Nat.le_trans h.size k.size, fun i hi hne => (k.block i (Nat.lt_of_lt_of_le hi h.size) (fun e => by have := hr i e.symm; omega)).trans (h.block i hi hne)⟩

set_option maxRecDepth 100000 in
set_option maxHeartbeats 1600000 in
theorem rows_any (gt : Nat) (vl : Value) (xs : List Int) (I k n : Nat) (w : World) (R : Nat → Prop) (hT : TapeB w gt vl I) (hx : IntS w R vl xs) (hR : ∀ b, R b → b < w.heap.size ∧ b ≠ gt) (hI : I + k * n ≤ 4611686018427387904) (hk : k ≤ 64) (hn : n ≤ 65536) :
    Calls Try.prog 10 #[.pointer (some ⟨gt, 0, none⟩), .int .i64 (k : Int), .int .i64 (n : Int)] w fun e w' => ∃ v D I', e = .returned v ∧ D.length = k ∧ Wide D n ∧ MatS w' (Fr w.heap.size w'.heap.size) v D ∧ TapeB w' gt vl I' ∧ I' = I + k * n ∧ w.grownBy w' (some gt) := by
  have hgt := hT.cells.2.2.2
  have hmk := mk_u8 n (by omega)
  have HMK := Lib.hid hmk
  clear hmk
  go_enter Try.func10, Try.ntmps10
  go_wp2
  go_loopg [7, 8] k (fun z v7 v8 wr => ∃ (i : Nat) (D : Mat), i ≤ k ∧ z = k - i ∧ v8 = .int .i64 (i : Int) ∧ OwnF wr w.heap.size v7 D ∧ Hid (D.length = i) ∧ Hid (Wide D n) ∧ TapeB wr gt vl (I + i * n) ∧ w.grownBy wr (some gt))
  case atStart => exact ⟨0, [], by omega, rfl, rfl, OwnF.nil _ _, rfl, (fun r hr => by cases hr), by rw [Nat.zero_mul]; exact hT, only_refl2 _ _⟩
  case round =>
    clear hT
    obtain ⟨i, D, hi, rfl, rfl, hO, HDL, HDW, hT, hg⟩ := hrel
    obtain ⟨A7, c7, hv7⟩ := hO.form
    rw [HDL.out] at hv7
    subst hv7
    have hszw := hg.size
    by_cases hlt : i < k
    · have hmul : (i + 1) * n ≤ k * n := Nat.mul_le_mul_right n hlt
      rw [Nat.succ_mul] at hmul
      obtain ⟨wo, rfl⟩ : ∃ wo : World, wo = wr := ⟨_, rfl⟩
      have hmk := HMK.out
      have hB := BlkB.new wo n
      go_wp2_with fail
      obtain ⟨g, hgg⟩ : ∃ g, g = wo.heap.size := ⟨_, rfl⟩
      have hgA := grown_alloc hg (.cells (Array.replicate n (.int .u8 0)) 5)
      have hgo := grown_alloc (only_refl2 wo gt) (.cells (Array.replicate n (.int .u8 0)) 5)
      have hT1 : TapeB (wo.alloc (.cells (Array.replicate n (.int .u8 0)) 5)) gt vl (I + i * n) := (Below.heap_alloc wo _ gt hT.cells.2.2.2).trans hT
      have hsa : (wo.alloc (.cells (Array.replicate n (.int .u8 0)) 5)).heap.size = wo.heap.size + 1 := by simp
      rw [← hgg] at hB hsa ⊢
      have hgw : w.heap.size ≤ g := by omega
      have hgo1 : wo.heap.size ≤ g := by omega
      have hgo2 : g ≤ wo.heap.size := by omega
      clear hgg hmk
      generalize wo.alloc (.cells (Array.replicate n (.int .u8 0)) 5) = w1 at *
      go_loopg [10] n (fun z v10 wr => ∃ (j : Nat) (l : List UInt8), j ≤ n ∧ z = n - j ∧ v10 = .int .i64 (j : Int) ∧ BlkB wr g l ∧ Hid (l.length = n) ∧ TapeB wr gt vl (I + i * n + j) ∧ wo.grownBy wr (some gt) ∧ g < wr.heap.size)
      case atStart => exact ⟨0, _, by omega, rfl, rfl, hB, List.length_replicate, hT1, hgo, by omega⟩
      case round =>
        clear hB hT1 hgo hgA
        obtain ⟨j, l, hj, rfl, rfl, hB, HL, hT2, hgo, hgl⟩ := hrel
        have hgr := grown_trans hg hgo
        by_cases hjn : j < n
        · have hxr := hx.keep (w' := wr) (fun b hb => hgr.block b (hR b hb).1 (fun e => (hR b hb).2 (by injection e)))
          have hnx := next_any gt vl xs (I + i * n + j) 256 wr R hT2 hxr (by omega) (by unfold I64; omega)
          have hwr := within_range (tapeX xs (I + i * n + j)) 256 (by omega)
          obtain ⟨y, hy⟩ : ∃ y, y = within (tapeX xs (I + i * n + j)) 256 := ⟨_, rfl⟩
          rw [← hy] at hnx hwr
          have hy2 := conv_u8 y hwr
          obtain ⟨u, hu⟩ : ∃ u, u = UInt8.ofNat y.toNat := ⟨_, rfl⟩
          rw [← hu] at hy2
          rw [hy2] at hnx
          have hub := byte_lt u
          have HNX := Lib.hid hnx
          clear hnx hwr hy hy2 hu hxr
          have hgne : gt ≠ g := by omega
          go_wp2_with fail
          refine HNX.out.mono ?_
          rintro e w3 ⟨rfl, hT3, hg3⟩
          have hB3 : BlkB w3 g l := (hg3.block g hgl (fun e => hgne (by injection e with e; exact e.symm))).trans hB
          have c3 := hB3.cellD (j := j) (by rw [HL.out]; exact hjn)
          have f3 := hB3.free j
          have hB4 := hB3.set j u
          have hT4 : TapeB (w3.setCell ⟨g, j, none⟩ (.int .u8 (u.toNat : Int))) gt vl (I + i * n + j + 1) := (Below.heap_setCell w3 ⟨g, j, none⟩ _ gt (by simp; omega)).trans hT3
          have hsz3 := hg3.size
          have hgo3 := grown_trans hgo hg3
          have HB4 := Lib.hid hB4
          have HT4 := Lib.hid hT4
          generalize l.getD j 0 = y0 at c3
          clear hB3 hB4 hT4
          go_wp2
          go_roundg (n - (j + 1))
          case measure => omega
          case rel => exact ⟨j + 1, _, by omega, rfl, by go_num, HB4.out, by rw [List.length_set]; exact HL.out, HT4.out, grown_new hgo3 (only_set2 (only_refl2 w3 g) j _) (fun b hb => by injection hb with hb; omega), by simp; omega⟩
        · obtain rfl : n = j := by omega
          clear hT
          obtain ⟨xs0, hox, hcx⟩ := hO
          have hxl : xs0.length = D.length := by have := hox.1; omega
          have hgO : ∀ b, (Value.slice A7 i c7).ownBlock = some b → w.heap.size ≤ b ∧ b < wo.heap.size := fun b hb => hox.lt b hb
          have hoc := hox.kept hgo (by
            cases hv : (Value.slice A7 i c7).ownBlock with
            | none => exact .inl rfl
            | some q => exact .inr (fun e => by injection e with e; have := (hgO q hv).1; omega))
          rw [HDL.out] at hoc
          have hcc : ∀ r, r < D.length → ByS wr (fun b => w.heap.size ≤ b ∧ b < wr.heap.size ∧ (Value.slice A7 i c7).ownBlock ≠ some b) (xs0.getD r undef) (D.getD r []) := fun r hr => ((hcx r hr).keep (fun b hbb => hgo.block b hbb.2.1 (fun e => by injection e with e; omega))).mono (fun b hbb => ⟨hbb.1, Nat.lt_of_lt_of_le hbb.2.1 hgo.size, hbb.2.2⟩)
          have hbs : ByS wr (fun b => w.heap.size ≤ b ∧ b < wr.heap.size ∧ (Value.slice A7 i c7).ownBlock ≠ some b) (.slice (some ⟨g, 0, none⟩) n n) l := by
            have h0 := hB.byS (R := fun b => w.heap.size ≤ b ∧ b < wr.heap.size ∧ (Value.slice A7 i c7).ownBlock ≠ some b) (c := n) (by rw [HL.out]; exact Nat.le_refl _) (by rw [HL.out]; unfold maxLen; omega) ⟨hgw, hgl, fun e => by have := (hgO g e).2; omega⟩
            rw [HL.out] at h0
            exact h0
          have HCC := Lib.hid hcc
          have HBS := Lib.hid hbs
          have HT2 := Lib.hid hT2
          have hszr := hgr.size
          clear hcc hbs hT2 hcx hox hgO hB
          go_wp2_with (at_builtin; refine app_row (.tmp 29) (.tmp 31) rfl rfl _ _ _ _ (by rfl) hoc (by rfl) rfl (by omega) hszr ?_; intro v' w1' hown' hg2 hat)
          go_roundg (k - (i + 1))
          case measure => omega
          case rel =>
            have hlt7 := hoc.lt
            rw [← HDL.out] at hoc hown' hg2 hat HCC HBS
            refine ⟨i + 1, D ++ [l], by omega, rfl, by go_num, OwnF.push hoc HCC.out HBS.out hown' hg2 hat, ?_, ?_, ?_, ?_⟩
            · show (D ++ [l]).length = i + 1
              rw [List.length_append, HDL.out]; rfl
            · intro r hr
              rcases List.mem_append.1 hr with h | h
              · exact HDW.out r h
              · rw [List.mem_singleton.1 h]; exact HL.out
            · have h1 : TapeB w1' gt vl (I + i * n + n) := (hg2.block gt (by have := HT2.out.cells.2.2.2; omega) (fun e => by have := (hlt7 gt (by rw [← HDL.out]; exact e.symm)).1; omega)).trans HT2.out
              rw [Nat.succ_mul, ← Nat.add_assoc]
              exact h1
            · exact grown_new hgr hg2 (fun b hb => (hlt7 b (by rw [← HDL.out]; exact hb)).1)
    · obtain rfl : k = i := by omega
      obtain ⟨g0, hg0⟩ : ∃ A, A = A7 := ⟨_, rfl⟩
      have HO := Lib.hid hO
      have HT := Lib.hid hT
      clear hO hT
      go_wp2
      go_ret
      exact ⟨_, D, _, rfl, HDL.out, HDW.out, HO.out.matS, HT.out, rfl, hg⟩
end Go.Proofs.Ytkpfndhocgmgjaa
