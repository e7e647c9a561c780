/- The intact fragments: the program's intact and Intact, walked. -/
import Derived.Test.YtmehadfhcdpfcaaGreatMd12
import Derived.Laws.AppendOwnNone
import Derived.Test.YtmehadfhcdpfcaaGreatMd01
import Derived.Test.YtmehadfhcdpfcaaGreatMd07
namespace Go.Proofs.YtmehadfhcdpfcaaGreat
open Go.RowKit
set_option linter.unusedVariables false
set_option linter.unusedSimpArgs false
def bools8 (js : Nat → Bool) : Array Value := #[.bool (js 0), .bool (js 1), .bool (js 2), .bool (js 3), .bool (js 4), .bool (js 5), .bool (js 6), .bool (js 7)]
def SetB (W : World) (g : Nat) (js : Nat → Bool) : Prop := W.heap[g]? = some (.cells (bools8 js) 164 (0, 0))
theorem index8_0 (js : Nat → Bool) (w : World) : (Instr.index 164 (.agg #[.bool (js 0), .bool (js 1), .bool (js 2), .bool (js 3), .bool (js 4), .bool (js 5), .bool (js 6), .bool (js 7)]) (.int .i64 0)).run Tryz.prog w = .ok (.bool (js 0)) w := by kernel_rfl
theorem index8_1 (js : Nat → Bool) (w : World) : (Instr.index 164 (.agg #[.bool (js 0), .bool (js 1), .bool (js 2), .bool (js 3), .bool (js 4), .bool (js 5), .bool (js 6), .bool (js 7)]) (.int .i64 1)).run Tryz.prog w = .ok (.bool (js 1)) w := by kernel_rfl
theorem index8_2 (js : Nat → Bool) (w : World) : (Instr.index 164 (.agg #[.bool (js 0), .bool (js 1), .bool (js 2), .bool (js 3), .bool (js 4), .bool (js 5), .bool (js 6), .bool (js 7)]) (.int .i64 2)).run Tryz.prog w = .ok (.bool (js 2)) w := by kernel_rfl
theorem index8_3 (js : Nat → Bool) (w : World) : (Instr.index 164 (.agg #[.bool (js 0), .bool (js 1), .bool (js 2), .bool (js 3), .bool (js 4), .bool (js 5), .bool (js 6), .bool (js 7)]) (.int .i64 3)).run Tryz.prog w = .ok (.bool (js 3)) w := by kernel_rfl
theorem index8_4 (js : Nat → Bool) (w : World) : (Instr.index 164 (.agg #[.bool (js 0), .bool (js 1), .bool (js 2), .bool (js 3), .bool (js 4), .bool (js 5), .bool (js 6), .bool (js 7)]) (.int .i64 4)).run Tryz.prog w = .ok (.bool (js 4)) w := by kernel_rfl
theorem index8_5 (js : Nat → Bool) (w : World) : (Instr.index 164 (.agg #[.bool (js 0), .bool (js 1), .bool (js 2), .bool (js 3), .bool (js 4), .bool (js 5), .bool (js 6), .bool (js 7)]) (.int .i64 5)).run Tryz.prog w = .ok (.bool (js 5)) w := by kernel_rfl
theorem index8_6 (js : Nat → Bool) (w : World) : (Instr.index 164 (.agg #[.bool (js 0), .bool (js 1), .bool (js 2), .bool (js 3), .bool (js 4), .bool (js 5), .bool (js 6), .bool (js 7)]) (.int .i64 6)).run Tryz.prog w = .ok (.bool (js 6)) w := by kernel_rfl
theorem index8_7 (js : Nat → Bool) (w : World) : (Instr.index 164 (.agg #[.bool (js 0), .bool (js 1), .bool (js 2), .bool (js 3), .bool (js 4), .bool (js 5), .bool (js 6), .bool (js 7)]) (.int .i64 7)).run Tryz.prog w = .ok (.bool (js 7)) w := by kernel_rfl
theorem index8 (js : Nat → Bool) (j : Nat) (hj : j < 8) (w : World) : (Instr.index 164 (.agg #[.bool (js 0), .bool (js 1), .bool (js 2), .bool (js 3), .bool (js 4), .bool (js 5), .bool (js 6), .bool (js 7)]) (.int .i64 (j : Int))).run Tryz.prog w = .ok (.bool (js j)) w := by
 match j, hj with
 | 0, _ => exact index8_0 js w
 | 1, _ => exact index8_1 js w
 | 2, _ => exact index8_2 js w
 | 3, _ => exact index8_3 js w
 | 4, _ => exact index8_4 js w
 | 5, _ => exact index8_5 js w
 | 6, _ => exact index8_6 js w
 | 7, _ => exact index8_7 js w
theorem SetB.cell {W : World} {g : Nat} {js : Nat → Bool} (h : SetB W g js) (j : Nat) (hj : j < 8) : W.cell? ⟨g, j, none⟩ = some (.bool (js j)) := by
 rw [cell_of_row W g j _ _ _ h]
 match j, hj with
 | 0, _ => rfl
 | 1, _ => rfl
 | 2, _ => rfl
 | 3, _ => rfl
 | 4, _ => rfl
 | 5, _ => rfl
 | 6, _ => rfl
 | 7, _ => rfl
theorem SetB.free {W : World} {g : Nat} {js : Nat → Bool} (h : SetB W g js) (j : Nat) : W.frozen? ⟨g, j, none⟩ = false := frozen_of_row W g j _ _ h
theorem SetB.set {W : World} {g : Nat} {js : Nat → Bool} (h : SetB W g js) (j : Nat) (hj : j < 8) : SetB (W.setCell ⟨g, j, none⟩ (.bool true)) g (fun i => if i = j then true else js i) := by
 have h1 := heap_setCell_same W g j _ _ (.bool true) h
 unfold SetB
 rw [h1]
 congr 2
 match j, hj with
 | 0, _ => rfl
 | 1, _ => rfl
 | 2, _ => rfl
 | 3, _ => rfl
 | 4, _ => rfl
 | 5, _ => rfl
 | 6, _ => rfl
 | 7, _ => rfl
theorem SetB.below {W W' : World} {g : Nat} {js : Nat → Bool} (h : SetB W g js) (hb : Below W.heap.size W W') : SetB W' g js := by
 have hlt : g < W.heap.size := (Array.getElem?_eq_some_iff.1 h).1
 exact (hb.block g hlt).trans h
def hasB (r : Re) (up : Bool) (l : List Fd) (i : Nat) : Bool := l.any fun x => x.p.frag == (i : Int) && (!up || onB r x.drive)
theorem hasB_succ (r : Re) (up : Bool) (l : List Fd) (j : Nat) (h : j < l.length) (i : Nat) : hasB r up (l.take (j + 1)) i = (hasB r up (l.take j) i || (l[j].p.frag == (i : Int) && (!up || onB r l[j].drive))) := by
 unfold hasB
 rw [List.take_succ_eq_append_getElem h, List.any_append]
 simp
def outTo (r : Re) (up : Bool) (l : List Fd) (n : Int) (j : Nat) : List Int := (List.range j).filterMap fun i : Nat => if hasB r up l i = true ∧ (i : Int) < n then some (i : Int) else none
theorem outTo_succ (r : Re) (up : Bool) (l : List Fd) (n : Int) (j : Nat) : outTo r up l n (j + 1) = outTo r up l n j ++ (if hasB r up l j = true ∧ (j : Int) < n then [(j : Int)] else []) := by
 unfold outTo
 rw [List.range_succ, List.filterMap_append]
 congr 1
 by_cases h : hasB r up l j = true ∧ (j : Int) < n
 ·simp [h]
 ·rw [if_neg h]
  simp only [List.filterMap_cons, List.filterMap_nil]
  rw [if_neg h]
theorem outTo_yes {r : Re} {up : Bool} {l : List Fd} {n : Int} {j : Nat} (h : hasB r up l j = true) (h2 : (j : Int) < n) : outTo r up l n (j + 1) = outTo r up l n j ++ [(j : Int)] := by rw [outTo_succ, if_pos ⟨h, h2⟩]
theorem outTo_no {r : Re} {up : Bool} {l : List Fd} {n : Int} {j : Nat} (h : ¬ (hasB r up l j = true ∧ (j : Int) < n)) : outTo r up l n (j + 1) = outTo r up l n j := by rw [outTo_succ, if_neg h, List.append_nil]
theorem outTo_length {r : Re} {up : Bool} {l : List Fd} {n : Int} {j : Nat} : (outTo r up l n j).length ≤ j := by
 unfold outTo
 exact Nat.le_trans (List.length_filterMap_le _ _) (by simp)
theorem outTo_mem {r : Re} {up : Bool} {l : List Fd} {n : Int} {j : Nat} : ∀ x ∈ outTo r up l n j, 0 ≤ x ∧ x < j := by
 intro x hx
 simp only [outTo, List.mem_filterMap, List.mem_range] at hx
 obtain ⟨i, hi, he⟩ := hx
 by_cases h : hasB r up l i = true ∧ (i : Int) < n
 ·rw [if_pos h] at he; simp at he; omega
 ·rw [if_neg h] at he; cases he
theorem srcI_has (r : Re) (l : List Fd) (v f s : Int) (on : Bool) : 0 ≤ srcI r l v f s on ↔ l.any (srcB r v f s on) = true := by
 unfold srcI
 cases h : l.findIdx? (srcB r v f s on) with
 | none =>
  rw [List.findIdx?_eq_none_iff] at h
  constructor
  ·intro h2; simp at h2
  ·intro h2
   obtain ⟨x, hx, e⟩ := List.any_eq_true.1 h2
   rw [h x hx] at e; cases e
 | some i =>
  obtain ⟨hi, hb, -⟩ := List.findIdx?_eq_some_iff_getElem.1 h
  constructor
  ·intro _; exact List.any_eq_true.2 ⟨l[i], List.getElem_mem hi, hb⟩
  ·intro _; simp
theorem src_stripe (r : Re) (l : List Fd) (v s : Int) (on : Bool) (i : Nat) : l.any (srcB r v (i : Int) s on) = hasB r on (stripeP l v s) i := by
 unfold hasB stripeP
 rw [List.any_filter]
 congr 1
 funext x
 unfold srcB
 rw [isB_eq]
 cases (x.p.vol == v && x.p.stripe == s) <;> cases (x.p.frag == (i : Int)) <;> simp
theorem intTo_out (r : Re) (l : List Fd) (v s : Int) (on : Bool) (j : Nat) (n : Int) (hj : (j : Int) ≤ n) : intTo r l v s on j = outTo r on (stripeP l v s) n j := by
 induction j with
 | zero => rfl
 | succ j ih =>
  have h1 := srcI_has r l v (j : Int) s on
  rw [src_stripe] at h1
  rw [intTo_succ, outTo_succ, ih (by omega)]
  congr 1
  by_cases h : 0 ≤ srcI r l v (j : Int) s on
  ·rw [if_pos h, if_pos ⟨h1.1 h, by omega⟩]
  ·rw [if_neg h, if_neg (fun h2 => h (h1.2 h2.1))]
set_option maxRecDepth 100000 in
set_option maxHeartbeats 3200000 in
theorem intact_any (vp vo va vl : Value) (r : Re) (l : List Fd) (n : Int) (up : Bool) (w : World) (h : ReS w (Bl w.heap.size) vp vo va r) (hl : SlS 7 FdK w (Bl w.heap.size) vl l) (hfr : ∀ x ∈ l, 0 ≤ x.p.frag ∧ x.p.frag < 8) (hn : I64 n) :
  Calls Tryz.prog 42 #[.agg #[vp, vo, va], vl, .int .i64 n, .bool up] w fun e w' => ∃ u, e = .returned u ∧ OwnI w' w.heap.size u (outTo r up l n 8) ∧ Below w.heap.size w w' := by
 obtain ⟨Al, cl, rfl, -, hm⟩ := hl.form
 unfold maxLen at hm
 have HR := Lib.hid h
 have HL := Lib.hid hl
 have HFR := Lib.hid hfr
 obtain ⟨W0, hW0⟩ : ∃ W0, W0 = (w.alloc (.cells #[vp, vo, va] 27)).alloc (.cells #[.bool false, .bool false, .bool false, .bool false, .bool false, .bool false, .bool false, .bool false] 164) := ⟨_, rfl⟩
 obtain ⟨q, hq⟩ : ∃ q, q = w.heap.size := ⟨_, rfl⟩
 have c0 : W0.cell? ⟨q, 0, none⟩ = some vp := by rw [hW0, hq]; simp
 have c1 : W0.cell? ⟨q, 1, none⟩ = some vo := by rw [hW0, hq]; simp
 have c2 : W0.cell? ⟨q, 2, none⟩ = some va := by rw [hW0, hq]; simp
 have hb0 : Below w.heap.size w W0 := by rw [hW0]; exact ((Below.refl _ _).alloc (Nat.le_refl _) _).alloc (by simp) _
 have hs0 : SetB W0 (q + 1) (fun _ => false) := by rw [hW0, hq]; exact heap_alloc_at _ _ _ (by simp)
 have hq0 : W0.heap.size = q + 2 := by rw [hW0, hq]; simp
 have HQ := Lib.hid hq
 have HW0 := Lib.hid hW0
 have HB0 := Lib.hid hb0
 have HC := Lib.hid (⟨c0, c1, c2⟩ : _ ∧ _ ∧ _)
 have HS0 := Lib.hid hs0
 have HQ0 := Lib.hid hq0
 clear h hl hfr hW0 hq hb0 c0 c1 c2 hs0 hq0
 go_enter Tryz.func42, Tryz.ntmps42
 go_wp2_with fail
 rw [← HW0.out, ← HQ.out]
 go_loopg [17] l.length (fun z v17 wr => ∃ j : Nat, j ≤ l.length ∧ z = l.length - j ∧ v17 = .int .i64 (j : Int) ∧ Hid (SetB wr (q + 1) (hasB r up (l.take j))) ∧ Below (q + 1) W0 wr ∧ q + 2 ≤ wr.heap.size)
 case atStart => exact ⟨0, by omega, rfl, rfl, HS0.out, Below.refl _ _, by rw [HQ0.out]; exact Nat.le_refl _⟩
 case round =>
  obtain ⟨j, hj, rfl, rfl, HS, hbr, hsz⟩ := hrel
  have hqw : w.heap.size ≤ q + 1 := by rw [HQ.out]; omega
  have hbw := HB0.out.trans (hbr.mono hqw)
  by_cases hlt : j < l.length
  ·-- L1{
   obtain ⟨b, off, cs, rfl, hRb, -, hcs, hfk, hdr⟩ := HL.out.at_ hlt
   obtain ⟨k0, k1, k2, k3, k4, k5, k6⟩ := seven hcs hfk
   have hnx := hasB_succ r up l j hlt
   have hfg := HFR.out _ (List.getElem_mem hlt)
   obtain ⟨x, hx⟩ : ∃ x, x = l[j] := ⟨_, rfl⟩
   rw [← hx] at k0 k1 k2 k3 k4 k5 k6 hdr hnx hfg
   have kk : ∀ i u, w.cell? ⟨b, i, none⟩ = some u → wr.cell? ⟨b, i, none⟩ = some u := fun i u e => (hbw.cell (p := ⟨b, i, none⟩) hRb).trans e
   obtain ⟨dr, ⟨pa, pb, pc, pg, pr, px⟩⟩ := x
   simp only at k0 k1 k2 k3 k4 k5 k6 hdr hfg hnx
   obtain ⟨fr, rfl⟩ : ∃ fr : Nat, pb = (fr : Int) := ⟨pb.toNat, by omega⟩
   have hfr8 : fr < 8 := by omega
   have m0 := kk _ _ k0
   have m1 := kk _ _ k1
   have m2 := kk _ _ k2
   have m3 := kk _ _ k3
   have m4 := kk _ _ k4
   have m5 := kk _ _ k5
   have m6 := kk _ _ k6
   obtain ⟨y, hy⟩ : ∃ y : ByteArray, y = ⟨px.toArray⟩ := ⟨_, rfl⟩
   rw [← hy] at m6
   obtain ⟨W3, hW3⟩ : ∃ W3, W3 = wr.alloc (.cells #[.int .i64 (dr : Int), .int .i64 pa, .int .i64 (fr : Int), .int .i64 pc, .int .i64 pg, .int .i64 pr, .string y] 116) := ⟨_, rfl⟩
   obtain ⟨g, hg⟩ : ∃ g, g = wr.heap.size := ⟨_, rfl⟩
   have n0 : W3.cell? ⟨g, 0, none⟩ = some (.int .i64 (dr : Int)) := by rw [hW3, hg]; simp
   have n2 : W3.cell? ⟨g, 2, none⟩ = some (.int .i64 (fr : Int)) := by rw [hW3, hg]; simp
   have hb3 : Below (q + 1) W0 W3 := by rw [hW3]; exact hbr.alloc (by omega) _
   have d0 := (hb3.cell (p := ⟨q, 0, none⟩) (show q < q + 1 by omega)).trans HC.out.1
   have d1 := (hb3.cell (p := ⟨q, 1, none⟩) (show q < q + 1 by omega)).trans HC.out.2.1
   have d2 := (hb3.cell (p := ⟨q, 2, none⟩) (show q < q + 1 by omega)).trans HC.out.2.2
   have hS3 : SetB W3 (q + 1) (hasB r up (l.take j)) := by rw [hW3]; exact HS.out.below ((Below.refl _ _).alloc (Nat.le_refl _) _)
   have hc3 := hS3.cell fr hfr8
   have hf3 := hS3.free fr
   have HST := Lib.hid (hS3.set fr hfr8)
   have hR3 : ReS W3 (Bl W3.heap.size) vp vo va r := HR.out.below (HB0.out.trans (hb3.mono hqw))
   have HON := Lib.hid (on_any vp vo va r dr W3 hR3 hdr)
   have hsz3 : q + 2 ≤ W3.heap.size := by rw [hW3]; simp; omega
   have HNX := Lib.hid hnx
   have HB3 := Lib.hid hb3
   have HS3 := Lib.hid hS3
   have HW3 := Lib.hid hW3
   have HG3 := Lib.hid hg
   have HONL := Lib.hid (online_any vp vo va r dr W3 hR3 hdr)
   clear k0 k1 k2 k3 k4 k5 k6 hcs hfk hx hnx hy kk cs hRb hb3 hS3 hW3 hg hR3 HON hfg
   have hyes : (!up || onB r dr) = true → ∀ i, (if i = fr then true else hasB r up (l.take j) i) = hasB r up (l.take (j + 1)) i := fun hb i => by
    rw [HNX.out i, hb]
    by_cases e : i = fr
    ·rw [if_pos e, e]; simp
    ·rw [if_neg e]
     have : ((fr : Int) == (i : Int)) = false := by rw [beq_eq_false_iff_ne]; omega
     rw [this]; simp
   have hno : (!up || onB r dr) = false → ∀ i, hasB r up (l.take j) i = hasB r up (l.take (j + 1)) i := fun hb i => by
    rw [HNX.out i, hb]; simp
   have HY := Lib.hid hyes
   have HNO := Lib.hid hno
   clear hyes hno
   cases up with
   | false =>
    have HF := Lib.hid (funext (HY.out rfl))
    go_upto_region 5 with fail
    rw [← HW3.out, ← HG3.out]
    go_wp2_with fail
    go_roundg (l.length - (j + 1))
    case measure => omega
    case rel => exact ⟨j + 1, by omega, rfl, by go_num, by have h := HST.out; rw [HF.out] at h; exact h, HB3.out.setCell (by simp) _, by simpa using hsz3⟩
   | true =>
    cases ho : onB r dr with
    | false =>
     have HF := Lib.hid (funext (HNO.out (by rw [ho]; rfl)))
     rw [ho] at HONL
     clear ho
     go_upto_region 5 with fail
     rw [← HW3.out, ← HG3.out]
     go_wp2_with fail
     refine HONL.out.mono ?_
     rintro e w4 ⟨rfl, hb4⟩
     have hS4 := HS3.out.below hb4
     have hb5 := HB3.out.trans (hb4.mono (by omega))
     have hs4 := hb4.size
     have HS4 := Lib.hid hS4
     clear hS4
     go_wp2_with fail
     go_roundg (l.length - (j + 1))
     case measure => omega
     case rel => exact ⟨j + 1, by omega, rfl, by go_num, by have h := HS4.out; rw [HF.out] at h; exact h, hb5, by omega⟩
    | true =>
     have HF := Lib.hid (funext (HY.out (by rw [ho]; rfl)))
     rw [ho] at HONL
     clear ho
     go_upto_region 5 with fail
     rw [← HW3.out, ← HG3.out]
     go_wp2_with fail
     refine HONL.out.mono ?_
     rintro e w4 ⟨rfl, hb4⟩
     have hS4 := HS3.out.below hb4
     have hb5 := HB3.out.trans (hb4.mono (by omega))
     have hs4 := hb4.size
     have hg4 : g < W3.heap.size := by rw [HW3.out, HG3.out]; simp
     have p0 := (hb4.cell (p := ⟨g, 0, none⟩) hg4).trans n0
     have p2 := (hb4.cell (p := ⟨g, 2, none⟩) hg4).trans n2
     have hc4 := hS4.cell fr hfr8
     have hf4 := hS4.free fr
     have HST4 := Lib.hid (hS4.set fr hfr8)
     clear hS4
     go_wp2_with fail
     go_roundg (l.length - (j + 1))
     case measure => omega
     case rel => exact ⟨j + 1, by omega, rfl, by go_num, by have h := HST4.out; rw [HF.out] at h; exact h, hb5.setCell (by simp) _, by simpa using (by omega : q + 2 ≤ w4.heap.size)⟩
  ·-- L2{
   have hS := HS.out
   rw [List.take_of_length_le (by omega)] at hS
   have s0 := hS.cell 0 (by omega)
   have s1 := hS.cell 1 (by omega)
   have s2 := hS.cell 2 (by omega)
   have s3 := hS.cell 3 (by omega)
   have s4 := hS.cell 4 (by omega)
   have s5 := hS.cell 5 (by omega)
   have s6 := hS.cell 6 (by omega)
   have s7 := hS.cell 7 (by omega)
   have hix := index8 (hasB r up l)
   have hoy := fun j h h2 => outTo_yes (r := r) (up := up) (l := l) (n := n) (j := j) h h2
   have hon := fun j h => outTo_no (r := r) (up := up) (l := l) (n := n) (j := j) h
   obtain ⟨js, hjs⟩ : ∃ js, js = hasB r up l := ⟨_, rfl⟩
   rw [← hjs] at s0 s1 s2 s3 s4 s5 s6 s7 hix
   have hjs2 : ∀ i, hasB r up l i = js i := fun i => by rw [hjs]
   have HOY := Lib.hid hoy
   have HON := Lib.hid hon
   have HJS := Lib.hid hjs2
   have HIX := Lib.hid hix
   have HBW := Lib.hid hbw
   have HB := Lib.hid hbr
   clear hS hoy hon hjs hjs2 hix HS hbw
   go_wp2_with fail
   obtain ⟨wo, rfl⟩ : ∃ wo : World, wo = wr := ⟨_, rfl⟩
   clear s0 s1 s2 s3 s4 s5 s6 s7
   go_loopg [12, 35] 8 (fun z v12 v35 wx => ∃ j : Nat, j ≤ 8 ∧ z = 8 - j ∧ v35 = .int .i64 (j : Int) ∧ OwnI wx wo.heap.size v12 (outTo r up l n j) ∧ Below wo.heap.size wo wx)
   case atStart => exact ⟨0, by omega, rfl, rfl, OwnI.nil _ _, Below.refl _ _⟩
   case round =>
    obtain ⟨j2, hj2, rfl, rfl, hO, hbx⟩ := hrel
    have hszx := hbx.size
    by_cases hlt2 : j2 < 8
    ·have hix2 := HIX.out j2 hlt2
     have hlen : (outTo r up l n j2).length + 1 ≤ 16777216 := by have := outTo_length (r := r) (up := up) (l := l) (n := n) (j := j2); omega
     have hy2 := HOY.out j2
     have hn2 := HON.out j2
     obtain ⟨xs, hxs⟩ : ∃ xs, xs = outTo r up l n j2 := ⟨_, rfl⟩
     rw [← hxs] at hO hlen hy2 hn2
     rw [HJS.out j2] at hy2 hn2
     have HY2 := Lib.hid hy2
     have HN2 := Lib.hid hn2
     obtain ⟨A3, c3, rfl⟩ := hO.form
     have HO := Lib.hid hO
     obtain ⟨bj, hbj⟩ : ∃ bj, bj = js j2 := ⟨_, rfl⟩
     rw [← hbj] at hix2 HY2 HN2
     clear hy2 hn2 hxs hO hbj
     cases bj with
     | false =>
      have HE := Lib.hid (HN2.out (fun h => by cases h.1))
      go_wp2_with fail
      go_roundg (8 - (j2 + 1))
      case measure => omega
      case rel => exact ⟨j2 + 1, by omega, rfl, by go_num, by rw [HE.out]; exact HO.out, hbx⟩
     | true =>
      by_cases hjn : (j2 : Int) < n
      ·have HE := Lib.hid (HY2.out rfl hjn)
       have hO3 : wr.ownsRow wo.heap.size 3 1 (.slice A3 xs.length c3) xs.length (xs.map (Value.int .i64)) := HO.out
       go_wp2_with (at_builtin; refine app_i (j2 : Int) (.tmp 45) (.tmp 47) rfl rfl wo.heap.size _ xs.length xs rfl (by rfl) hO3 (by rfl) hlen hszx ?_; intro v' w5 hown' hg hat)
       go_roundg (8 - (j2 + 1))
       case measure => omega
       case rel => exact ⟨j2 + 1, by omega, rfl, by go_num, by rw [HE.out]; exact hown', hbx.grown hg hszx (fun b h => (HO.out.lt b h).1)⟩
      ·have HE := Lib.hid (HN2.out (fun h => hjn h.2))
       go_wp2_with fail
       go_roundg (8 - (j2 + 1))
       case measure => omega
       case rel => exact ⟨j2 + 1, by omega, rfl, by go_num, by rw [HE.out]; exact HO.out, hbx⟩
    ·obtain rfl : j2 = 8 := by omega
     have HO := Lib.hid hO
     have hbz := HBW.out.trans (hbx.mono HBW.out.size)
     clear hO
     go_wp2_with fail
     go_ret
     exact ⟨_, rfl, HO.out.base HBW.out.size, hbz⟩
set_option maxRecDepth 100000 in
set_option maxHeartbeats 1600000 in
theorem Intact_any (vp vo va : Value) (r : Re) (v s : Int) (up : Bool) (w : World) (h : ReS w (Bl w.heap.size) vp vo va r) (hp : r.plat.length ≤ 1000) (hl : ∀ l ∈ r.plat, l.length ≤ 1000) (hac : r.acks.length ≤ 1000000) (hv : I64 v) (hs : I64 s) :
  Calls Tryz.prog 29 #[.agg #[vp, vo, va], .int .i64 v, .int .i64 s, .bool up] w fun e w' => ∃ u, e = .returned u ∧ OwnI w' w.heap.size u (intI r v s up) ∧ Below w.heap.size w w' := by
 have HR := Lib.hid h
 have HIX := Lib.hid (fun w1 h1 => index_any vp vo va r w1 h1 hp hl hac)
 have hpa := piecesTo_all r r.plat.length
 have hpd := pieces_drive r (by omega)
 have heq : outTo r up (stripeP (pieces r) v s) 8 8 = intI r v s up := (intTo_out r (pieces r) v s up 8 8 (by omega)).symm
 have hsd : ∀ x ∈ stripeP (pieces r) v s, x.drive ≤ 1048576 := fun x hx => hpd x (List.mem_filter.1 hx).1
 have hfr : ∀ x ∈ stripeP (pieces r) v s, 0 ≤ x.p.frag ∧ x.p.frag < 8 := fun x hx => by
  have h1 := validP_iff.1 (hpa x (List.mem_filter.1 hx).1).1
  exact ⟨h1.2.2.1, h1.2.2.2.1⟩
 obtain ⟨l, hpl⟩ : ∃ l, l = stripeP (pieces r) v s := ⟨_, rfl⟩
 rw [← hpl] at heq hsd hfr
 have HPA := Lib.hid hpa
 have HPL := Lib.hid hpl
 have HEQ := Lib.hid heq
 have HSD := Lib.hid hsd
 have HFR := Lib.hid hfr
 obtain ⟨W0, hW0⟩ : ∃ W0, W0 = w.alloc (.cells #[vp, vo, va] 27) := ⟨_, rfl⟩
 obtain ⟨q, hq⟩ : ∃ q, q = w.heap.size := ⟨_, rfl⟩
 have c0 : W0.cell? ⟨q, 0, none⟩ = some vp := by rw [hW0, hq]; simp
 have c1 : W0.cell? ⟨q, 1, none⟩ = some vo := by rw [hW0, hq]; simp
 have c2 : W0.cell? ⟨q, 2, none⟩ = some va := by rw [hW0, hq]; simp
 have hb0 : Below w.heap.size w W0 := by rw [hW0]; exact (Below.refl _ _).alloc (Nat.le_refl _) _
 have hq0 : q < W0.heap.size := by rw [hW0, hq]; simp
 have HQ := Lib.hid hq
 have HW0 := Lib.hid hW0
 have HB0 := Lib.hid hb0
 have HS0 := Lib.hid (⟨c0, c1, c2, (Below.refl _ _).drew⟩ : HeldR W0 q vp vo va W0.drew)
 clear h hp hl hac hpa hpd heq hpl hsd hfr hW0 hq hb0 c0 c1 c2
 go_enter Tryz.func29, Tryz.ntmps29
 go_upto_region 1 with fail
 rw [← HW0.out, ← HQ.out]
 refine wp_region_held_drew (S := (fun w' => w'.cell? ⟨q, 0, none⟩ = some vp ∧ w'.cell? ⟨q, 1, none⟩ = some vo ∧ w'.cell? ⟨q, 2, none⟩ = some va ∧ Below W0.heap.size W0 w')) (by kernel_rfl) HS0.out (fun hHeld => ?_)
 refine takeD (i := 0) (d := 9) (v := ?_) rfl rfl (by kernel_rfl) (by kernel_rfl) (by kernel_rfl) (fun _ _ _ h => h) (Or.inl ⟨by rfl, ?_⟩) (by assumption) ?_
 rotate_left
 ·(intro w hSw; (try dsimp only at hSw); go_simp; first | done | with_reducible rfl)
 (try simp only [Act.put, List.setIfInBounds_toArray, List.set_cons_zero, List.set_cons_succ])
 refine takeD (i := 1) (d := 10) (v := ?_) rfl rfl (by kernel_rfl) (by kernel_rfl) (by kernel_rfl) (fun _ _ _ h => h) (Or.inl ⟨by rfl, ?_⟩) (by assumption) ?_
 rotate_left
 ·(intro w hSw; (try dsimp only at hSw); go_simp; first | done | with_reducible rfl)
 (try simp only [Act.put, List.setIfInBounds_toArray, List.set_cons_zero, List.set_cons_succ])
 refine takeD (i := 3) (d := 12) (v := ?_) rfl rfl (by kernel_rfl) (by kernel_rfl) (by kernel_rfl) (fun _ _ _ h => h) (Or.inl ⟨by rfl, ?_⟩) (by assumption) ?_
 rotate_left
 ·(intro w hSw; (try dsimp only at hSw); go_simp; first | done | with_reducible rfl)
 (try simp only [Act.put, List.setIfInBounds_toArray, List.set_cons_zero, List.set_cons_succ])
 refine takeD (i := 4) (d := 13) (v := ?_) rfl rfl (by kernel_rfl) (by kernel_rfl) (by kernel_rfl) (fun _ _ _ h => h) (Or.inl ⟨by rfl, ?_⟩) (by assumption) ?_
 rotate_left
 ·(intro w hSw; (try dsimp only at hSw); go_simp; first | done | with_reducible rfl)
 (try simp only [Act.put, List.setIfInBounds_toArray, List.set_cons_zero, List.set_cons_succ])
 refine takeD (i := 5) (d := 14) (v := ?_) rfl rfl (by kernel_rfl) (by kernel_rfl) (by kernel_rfl) (fun _ _ _ h => h) (Or.inl ⟨by rfl, ?_⟩) (by assumption) ?_
 rotate_left
 ·(intro w hSw; (try dsimp only at hSw); go_simp; first | done | with_reducible rfl)
 (try simp only [Act.put, List.setIfInBounds_toArray, List.set_cons_zero, List.set_cons_succ])
 refine takeD (i := 7) (d := 16) (v := ?_) rfl rfl (by kernel_rfl) (by kernel_rfl) (by kernel_rfl) (fun _ _ _ h => h) (Or.inl ⟨by rfl, ?_⟩) (by assumption) ?_
 rotate_left
 ·(intro w hSw; (try dsimp only at hSw); go_simp; first | done | with_reducible rfl)
 (try simp only [Act.put, List.setIfInBounds_toArray, List.set_cons_zero, List.set_cons_succ])
 refine wpAnyH_ready (rs := [2]) (by kernel_rfl) (by simp) ?_
 refine AllReadyH.cons rfl (fun K hK => ?_) ?_
 ·go_simp
  (go_at_call 38; refine (HIX.out _ (HeldR.re (by assumption) HR.out HB0.out)).mono ?_; rintro e w2 ⟨b, n, fm, rfl, hbb, hM, hG, hb2⟩)
  go_wp2_with fail
  have hown := hG.at_ (fun x hx => (HPA.out x hx).2) hv hs
  have hlk := hM.look key_two Tryz.underlying97 (zero_fds w2) hv hs
  rw [show stripeP (pieces r) v s = l from HPL.out.symm] at hown
  obtain ⟨A, c, hfm⟩ := own_form hown
  rw [hfm] at hown hlk
  unfold kv at hlk
  have HL2 := Lib.hid (OwnFd.slBl hown HSD.out)
  clear hM hG hown hfm
  refine hK.out _ _ ?_ (fun hHeld => ?_)
  ·(first | assumption | exact HeldR.below (by assumption) hb2 hq0 | exact HeldR.below (by assumption) hb3 hq0)
  clear hK K
  (try simp only [Act.put, List.setIfInBounds_toArray, List.set_cons_zero, List.set_cons_succ])
  refine wpAnyH_ready (rs := [6]) (by kernel_rfl) (by simp) ?_
  refine AllReadyH.cons rfl (fun K hK => ?_) ?_
  ·go_simp
   refine hK.out _ _ ?_ (fun hHeld => ?_)
   ·(first | assumption | exact HeldR.below (by assumption) hb2 hq0 | exact HeldR.below (by assumption) hb3 hq0)
   clear hK K
   (try simp only [Act.put, List.setIfInBounds_toArray, List.set_cons_zero, List.set_cons_succ])
   refine wpAnyH_ready (rs := [8]) (by kernel_rfl) (by simp) ?_
   refine AllReadyH.cons rfl (fun K hK => ?_) ?_
   ·go_simp
    (go_at_call 42; refine (intact_any vp vo va (.slice A l.length c) r l 8 up _ (HeldR.re (by assumption) HR.out HB0.out) HL2.out HFR.out (by unfold I64; omega)).mono ?_; rintro e w3 ⟨u3, rfl, hO3, hb3⟩)
    go_wp2_with fail
    refine hK.out _ _ ?_ (fun hHeld => ?_)
    ·(first | assumption | exact HeldR.below (by assumption) hb2 hq0 | exact HeldR.below (by assumption) hb3 hq0)
    clear hK K
    (try simp only [Act.put, List.setIfInBounds_toArray, List.set_cons_zero, List.set_cons_succ])
    refine takeD (i := 9) (d := 8) (v := ?_) rfl rfl (by kernel_rfl) (by kernel_rfl) (by kernel_rfl) (fun _ _ _ h => h) (Or.inl ⟨by rfl, ?_⟩) (by assumption) ?_
    rotate_left
    ·(intro w hSw; (try dsimp only at hSw); go_simp; first | done | with_reducible rfl)
    (try simp only [Act.put, List.setIfInBounds_toArray, List.set_cons_zero, List.set_cons_succ])
    refine wpAnyH_done (by kernel_rfl) ?_ _
    have hbz := HeldR.bl (q := q) (by assumption)
    have hbz2 := HB0.out.trans (hbz.mono HB0.out.size)
    have hbl := HeldR.bl (W0 := W0) (q := q) (wc := w2) (by assumption)
    go_wp2_with fail
    go_ret
    refine ⟨_, rfl, ?_, hbz2⟩
    have h1 := hO3
    rw [HEQ.out] at h1
    exact h1.base (Nat.le_trans HB0.out.size hbl.size)
   exact AllReadyH.nil
  exact AllReadyH.nil
 exact AllReadyH.nil
def u32V (x : Nat) : Value := .int .u32 (x : Int)
def LS (w : World) (R : Nat → Prop) (v : Value) (l : List Nat) : Prop :=
 ((v = .slice none 0 0 ∧ l = []) ∨ ∃ b off c, v = .slice (some ⟨b, off, none⟩) l.length c ∧ l.length ≤ c ∧ c ≤ maxLen ∧ R b ∧ ∀ k x, l[k]? = some x → w.cell? ⟨b, off + k, none⟩ = some (u32V x)) ∧ (∀ x ∈ l, x < 4294967296)
theorem LS.keep {w w' : World} {R : Nat → Prop} {v : Value} {l : List Nat} (h : LS w R v l) (hk : Kept R w w') : LS w' R v l := by
 refine ⟨?_, h.2⟩
 rcases h.1 with h1 | ⟨b, off, c, h1, h2, h3, h4, h5⟩
 ·exact .inl h1
 ·exact .inr ⟨b, off, c, h1, h2, h3, h4, fun k x hx => (hk.cell h4).trans (h5 k x hx)⟩
theorem LS.mono {w : World} {R R' : Nat → Prop} {v : Value} {l : List Nat} (h : LS w R v l) (hr : ∀ b, R b → R' b) : LS w R' v l := by
 refine ⟨?_, h.2⟩
 rcases h.1 with h1 | ⟨b, off, c, h1, h2, h3, h4, h5⟩
 ·exact .inl h1
 ·exact .inr ⟨b, off, c, h1, h2, h3, hr b h4, h5⟩
theorem LS.below {w w' : World} {v : Value} {l : List Nat} (h : LS w (Bl w.heap.size) v l) (hb : Below w.heap.size w w') : LS w' (Bl w'.heap.size) v l := (h.keep (kept_below hb)).mono (Bl.mono hb.size)
theorem LS.form {w : World} {R : Nat → Prop} {v : Value} {l : List Nat} (h : LS w R v l) : ∃ A c, v = .slice A l.length c ∧ l.length ≤ c ∧ l.length ≤ maxLen := by
 rcases h.1 with ⟨rfl, rfl⟩ | ⟨b, off, c, h1, h2, h3, h4, h5⟩
 ·exact ⟨none, 0, rfl, Nat.le_refl _, by unfold maxLen; simp⟩
 ·exact ⟨_, c, h1, h2, Nat.le_trans h2 h3⟩
theorem LS.at_ {w : World} {R : Nat → Prop} {A : Option Addr} {n c : Nat} {l : List Nat} (h : LS w R (.slice A n c) l) {k : Nat} (hk : k < l.length) : ∃ b off, A = some ⟨b, off, none⟩ ∧ R b ∧ w.cell? ⟨b, off + k, none⟩ = some (.int .u32 (l[k] : Int)) ∧ l[k] < 4294967296 := by
 rcases h.1 with ⟨_, rfl⟩ | ⟨b, off, c', h1, h2, h3, h4, h5⟩
 ·cases hk
 ·injection h1 with h1
  exact ⟨b, off, h1, h4, h5 k _ (List.getElem?_eq_getElem hk), h.2 _ (List.getElem_mem hk)⟩
theorem LS.nil (w : World) (R : Nat → Prop) : LS w R (.slice none 0 0) [] := ⟨.inl ⟨rfl, rfl⟩, fun x h => by cases h⟩
def OwnL (w : World) (base : Nat) (v : Value) (l : List Nat) : Prop := w.ownsRow base 92 1 v l.length (l.map u32V)
theorem OwnL.nil (w : World) (base : Nat) : OwnL w base (.slice none 0 0) [] := World.ownsRow_nil _ _ _ _
theorem OwnL.lt {w : World} {base : Nat} {v : Value} {l : List Nat} (h : OwnL w base v l) : ∀ b, v.ownBlock = some b → base ≤ b ∧ b < w.heap.size := World.ownsRow.lt h
theorem OwnL.base {w : World} {B B' : Nat} {v : Value} {l : List Nat} (h : OwnL w B v l) (hB : B' ≤ B) : OwnL w B' v l := own_base h hB
theorem OwnL.below {w w2 : World} {base : Nat} {v : Value} {l : List Nat} (h : OwnL w base v l) (hb : Below w.heap.size w w2) : OwnL w2 base v l := own_below h hb
theorem OwnL.ls {w : World} {base : Nat} {v : Value} {l : List Nat} (h : OwnL w base v l) (hx : ∀ x ∈ l, x < 4294967296) : LS w (Fr base w.heap.size) v l := by
 have h1 : w.ownsRow base 92 1 v l.length (l.map u32V) := h
 have hc := fun g => h1.cells (g := g)
 have hlt := h1.lt
 refine ⟨?_, hx⟩
 rcases h1.2 with ⟨rfl, h0⟩ | ⟨g, cap, cur, rfl, _, _, h2, h3, _⟩
 ·exact .inl ⟨rfl, List.eq_nil_of_length_eq_zero h0⟩
 ·refine .inr ⟨g, 0, cap, rfl, h2, h3, hlt g rfl, fun k x hk => ?_⟩
  have := hc g rfl k (u32V x) (by simp [hk])
  rw [← this]
  unfold Addr.add; split <;> simp_all
theorem OwnL.lsBl {w : World} {base : Nat} {v : Value} {l : List Nat} (h : OwnL w base v l) (hx : ∀ x ∈ l, x < 4294967296) : LS w (Bl w.heap.size) v l := (h.ls hx).mono (fun _ hb => hb.2)
theorem info_u32 : (Tryz.prog.info? 92).map (fun i => (i.zero, i.size, i.bytes)) = some (some (.int .u32 0), 1, 4) := by kernel_rfl
def trimL (l : List Nat) : List Nat := (l.reverse.dropWhile (· == 0)).reverse
theorem dropWhile_zeros : ∀ (a b : List Nat), (∀ x ∈ a, x = 0) → (a ++ b).dropWhile (· == 0) = b.dropWhile (· == 0)
 | [], _, _ => rfl
 | x :: a, b, h => by
  have hx : x = 0 := h x (by simp)
  subst hx
  simp only [List.cons_append, List.dropWhile_cons]
  exact dropWhile_zeros a b (fun y hy => h y (List.mem_cons_of_mem _ hy))
theorem trim_at (l : List Nat) (j : Nat) (hj : j ≤ l.length) (hz : ∀ i (h : i < l.length), j ≤ i → l[i] = 0) (hn : ∀ k (h : k < l.length), j = k + 1 → l[k] ≠ 0) : trimL l = l.take j := by
 unfold trimL
 have e : l.reverse = (l.drop j).reverse ++ (l.take j).reverse := by rw [← List.reverse_append, List.take_append_drop]
 rw [e, dropWhile_zeros]
 ·cases j with
  | zero => simp
  | succ k =>
   have hk : k < l.length := by omega
   have h1 : (l.take (k + 1)).reverse = l[k] :: (l.take k).reverse := by rw [List.take_succ_eq_append_getElem hk, List.reverse_append]; rfl
   have h2 : (l[k] == 0) = false := by simpa using hn k hk rfl
   rw [h1, List.dropWhile_cons, h2]
   simp only [Bool.false_eq_true, if_false]
   rw [← h1, List.reverse_reverse]
 ·intro x hx
  rw [List.mem_reverse] at hx
  obtain ⟨i, hi, rfl⟩ := List.getElem_of_mem hx
  rw [List.getElem_drop]
  exact hz _ _ (by omega)
theorem trimL_length (l : List Nat) : (trimL l).length ≤ l.length := by
 unfold trimL
 rw [List.length_reverse]
 exact Nat.le_trans (List.dropWhile_sublist _).length_le (by simp)
def natL (n : Nat) : List Nat := if n = 0 then [] else [n]
theorem natL_zero : natL 0 = [] := rfl
theorem natL_pos {n : Nat} (h : 0 < n) : natL n = [n] := if_neg (by omega)
theorem trim_natL (n : Nat) : trimL (natL n) = natL n := by
 by_cases h : n = 0
 ·subst h; rfl
 ·rw [natL_pos (by omega)]; simp [trimL, h]
theorem trim_two (n : Nat) : trimL [n, 0] = natL n := by
 by_cases h : n = 0
 ·subst h; rfl
 ·rw [natL_pos (by omega)]; simp [trimL, h]
theorem natL_mem {n : Nat} (h : n < 4294967296) : ∀ x ∈ natL n, x < 4294967296 := by
 intro x hx
 unfold natL at hx
 split at hx
 ·cases hx
 ·simp at hx; omega
theorem natL_length (n : Nat) : (natL n).length ≤ 1 := by unfold natL; split <;> simp
theorem below_none {w w' : World} (hg : w.grownBy w' (Value.slice none 0 0).ownBlock) : Below w.heap.size w w' := ⟨hg.os, hg.tape, hg.output, hg.size, fun k hk => hg.block k hk (fun e => by cases e)⟩
set_option maxRecDepth 100000 in
set_option maxHeartbeats 800000 in
theorem trim_any (v : Value) (l : List Nat) (R : Nat → Prop) (w : World) (h : LS w R v l) (hR : ∀ b, R b → b < w.heap.size) (hl : l.length ≤ 1048576) :
  Calls Tryz.prog 153 #[v] w fun e w' => ∃ u, e = .returned u ∧ OwnL w' w.heap.size u (trimL l) ∧ Below w.heap.size w w' := by
 obtain ⟨i0, hi0, hz0, hz1, hz2⟩ := info_parts info_u32
 have HL := Lib.hid h
 rcases h.1 with ⟨rfl, rfl⟩ | ⟨b, off, c, rfl, hlc, hcm, hRb, hcs⟩
 ·clear h
  go_enter Tryz.func153, Tryz.ntmps153
  go_wp2_with fail
  go_loopg [3] 0 (fun z v3 wr => w = wr ∧ v3 = .int .i64 0)
  case atStart => exact ⟨rfl, rfl⟩
  case round =>
   obtain ⟨rfl, rfl⟩ := hrel
   go_wp2_with (at_builtin; refine wpList_append_own_none rfl _ _ _ rfl w.heap.size 92 i0 1 Tryz.underlying59 hi0 (.slice none 0 0) 0 [] (by rfl) (World.ownsRow_nil _ _ _ _) (by rfl) ?_)
   go_ret
   exact ⟨_, rfl, OwnL.nil _ _, Below.refl _ _⟩
 ·clear h
  unfold maxLen at hcm
  have hRl := hR b hRb
  have HCS := Lib.hid hcs
  clear hcs
  go_enter Tryz.func153, Tryz.ntmps153
  go_wp2_with fail
  go_loopg [3] l.length (fun z v3 wr => w = wr ∧ ∃ j : Nat, j ≤ l.length ∧ z = 0 + j ∧ v3 = .int .i64 (j : Int) ∧ Hid (∀ i (h : i < l.length), j ≤ i → l[i] = 0))
  case atStart => exact ⟨rfl, l.length, Nat.le_refl _, (Nat.zero_add _).symm, rfl, fun i h h2 => by omega⟩
  case round =>
   obtain ⟨rfl, j, hj, rfl, rfl, HZ⟩ := hrel
   by_cases h0 : j = 0
   ·subst h0
    have htl : trimL l = l.take 0 := trim_at l 0 hj HZ.out (fun k _ e => by omega)
    have HT := Lib.hid htl
    have hnews : ∀ j2 u, ((l.take 0).map u32V)[j2]? = some u → w.cell? ((⟨b, off, none⟩ : Addr).add j2) = some u := by
     intro j2 u hu
     have e1 : (⟨b, off, none⟩ : Addr).add j2 = ⟨b, off + j2, none⟩ := by unfold Addr.add; split <;> simp_all
     rw [e1]
     rw [List.getElem?_map] at hu
     cases hx : (l.take 0)[j2]? with
     | none => rw [hx] at hu; cases hu
     | some x =>
      rw [hx] at hu
      injection hu with hu
      rw [← hu]
      refine HCS.out j2 x ?_
      rw [List.getElem?_take] at hx
      split at hx
      ·exact hx
      ·cases hx
    have hlt : ((l.take 0).map u32V).length = 0 * 1 := by simp <;> omega
    have HNW := Lib.hid hnews
    have HLT := Lib.hid hlt
    clear htl hnews hlt
    go_wp2_with (at_builtin; refine wpList_append_own_at (P := Tryz.prog) _ rfl _ _ _ rfl w.heap.size 92 i0 _ 1 4 Tryz.underlying59 hi0 hz0 hz1 hz2 rfl (by decide) (.slice none 0 0) 0 [] (by rfl) (World.ownsRow_nil _ _ _ _) ⟨b, off, none⟩ 0 c ((l.take 0).map u32V) (by rfl) HLT.out HNW.out (fun u hu => by obtain ⟨x, -, rfl⟩ := List.mem_map.1 hu; rfl) (by unfold maxLen; omega) (by omega) (Nat.le_refl _) ?_; intro v' w' hown' hg' _ hat')
    go_ret
    refine ⟨_, rfl, ?_, below_none hg'⟩
    have h2 := hown'
    rw [Nat.zero_add, List.nil_append] at h2
    unfold OwnL
    rw [HT.out, show (l.take 0).length = 0 by simp]
    exact h2
   ·obtain ⟨k, rfl⟩ : ∃ k, j = k + 1 := ⟨j - 1, by omega⟩
    have hkl : k < l.length := by omega
    have hck := HCS.out k l[k] (List.getElem?_eq_getElem hkl)
    unfold u32V at hck
    have hpos : (0 : Int) < ((k + 1 : Nat) : Int) := by omega
    have hsub : IntKind.i64.wrap (((k + 1 : Nat) : Int) - 1) = (k : Int) := by rw [show ((k + 1 : Nat) : Int) - 1 = (k : Int) by omega]; exact IntWalk.i64_in _ (by omega)
    have hi0' : (0 : Int) ≤ (k : Int) := by omega
    have hi1' : (k : Int) < (l.length : Int) := by omega
    have hz2' : l[k] = 0 → ∀ i (h : i < l.length), k ≤ i → l[i] = 0 := fun e i h1 h2 => by
     by_cases e2 : i = k
     ·subst e2; exact e
     ·exact HZ.out i h1 (by omega)
    have hnz : l[k] ≠ 0 → trimL l = l.take (k + 1) := fun e => trim_at l (k + 1) hj HZ.out (fun k2 h2 e2 => by
     have e3 : k2 = k := by omega
     subst e3; exact e)
    have HZ2 := Lib.hid hz2'
    have HNZ := Lib.hid hnz
    obtain ⟨x, hx⟩ : ∃ x, x = l[k] := ⟨_, rfl⟩
    rw [← hx] at hck HZ2 HNZ
    obtain ⟨K1, hK1⟩ : ∃ K1, K1 = k + 1 := ⟨_, rfl⟩
    rw [← hK1] at hpos hsub HNZ hj ⊢
    have HK1 := Lib.hid hK1
    clear hz2' hnz hx HZ hK1
    by_cases hx0 : x = 0
    ·have HZ3 := Lib.hid (HZ2.out hx0)
     have q1 : ((x : Int) == 0) = true := by simpa using hx0
     clear hx0
     go_wp2_with fail
     go_roundg k
     case measure => omega
     case rel => exact ⟨rfl, k, by omega, (Nat.zero_add _).symm, rfl, HZ3⟩
    ·have q1 : ((x : Int) == 0) = false := by simpa using hx0
     have hnz2 := HNZ.out hx0
     have htl : trimL l = l.take K1 := hnz2
     have HT := Lib.hid htl
     have hnews : ∀ j2 u, ((l.take K1).map u32V)[j2]? = some u → w.cell? ((⟨b, off, none⟩ : Addr).add j2) = some u := by
      intro j2 u hu
      have e1 : (⟨b, off, none⟩ : Addr).add j2 = ⟨b, off + j2, none⟩ := by unfold Addr.add; split <;> simp_all
      rw [e1]
      rw [List.getElem?_map] at hu
      cases hx : (l.take K1)[j2]? with
      | none => rw [hx] at hu; cases hu
      | some x =>
       rw [hx] at hu
       injection hu with hu
       rw [← hu]
       refine HCS.out j2 x ?_
       rw [List.getElem?_take] at hx
       split at hx
       ·exact hx
       ·cases hx
     have hlt : ((l.take K1).map u32V).length = K1 * 1 := by simp <;> omega
     have HNW := Lib.hid hnews
     have HLT := Lib.hid hlt
     clear htl hnews hlt hnz2
     go_wp2_with (at_builtin; refine wpList_append_own_at (P := Tryz.prog) _ rfl _ _ _ rfl w.heap.size 92 i0 _ 1 4 Tryz.underlying59 hi0 hz0 hz1 hz2 rfl (by decide) (.slice none 0 0) 0 [] (by rfl) (World.ownsRow_nil _ _ _ _) ⟨b, off, none⟩ K1 c ((l.take K1).map u32V) (by rfl) HLT.out HNW.out (fun u hu => by obtain ⟨x, -, rfl⟩ := List.mem_map.1 hu; rfl) (by unfold maxLen; omega) (by omega) (Nat.le_refl _) ?_; intro v' w' hown' hg' _ hat')
     go_ret
     refine ⟨_, rfl, ?_, below_none hg'⟩
     have h2 := hown'
     rw [Nat.zero_add, List.nil_append] at h2
     unfold OwnL
     rw [HT.out, show (l.take K1).length = K1 by simp; omega]
     exact h2
theorem LS.two (w : World) (a b : Nat) (ha : a < 4294967296) (hb : b < 4294967296) : LS (w.alloc (.cells #[.int .u32 (a : Int), .int .u32 (b : Int)] 92)) (Bl (w.heap.size + 1)) (.slice (some ⟨w.heap.size, 0, none⟩) 2 2) [a, b] := by
 refine ⟨.inr ⟨w.heap.size, 0, 2, rfl, Nat.le_refl _, by unfold maxLen; decide, Nat.lt_succ_self _, fun k x hk => ?_⟩, fun x hx => ?_⟩
 ·rw [Nat.zero_add, cell_of_row _ _ _ _ _ _ (heap_alloc_new w _)]
  match k, hk with
  | 0, hk => simp at hk; subst hk; rfl
  | 1, hk => simp at hk; subst hk; rfl
 ·simp at hx
  rcases hx with rfl | rfl
  ·exact ha
  ·exact hb
set_option maxRecDepth 100000 in
set_option maxHeartbeats 400000 in
theorem rmake_any (v : Nat) (w : World) (hv : v < 4294967296) :
  Calls Tryz.prog 124 #[.int .u64 (v : Int)] w fun e w' => ∃ u, e = .returned u ∧ OwnL w' w.heap.size u (natL v) ∧ Below w.heap.size w w' := by
 have hv0 : (0 : Int) ≤ (v : Int) := by omega
 have hv1 : (v : Int) < 4294967296 := by omega
 go_enter Tryz.func124, Tryz.ntmps124
 go_wp2_with fail
 have e0 : ((v : Int) / 4294967296) = ((0 : Nat) : Int) := by omega
 rw [e0]
 refine (trim_any _ [v, 0] _ _ (LS.two w v 0 hv (by omega)) (fun b hb => by simpa [Bl] using hb) (by simp)).mono ?_
 rintro e w2 ⟨u, rfl, hO, hb⟩
 rw [trim_two] at hO
 have HO := Lib.hid (hO.base (B' := w.heap.size) (by simp))
 have hbz := below_box hb
 clear hO
 go_wp2_with fail
 go_ret
 exact ⟨_, rfl, HO.out, hbz⟩
set_option maxRecDepth 100000 in
set_option maxHeartbeats 400000 in
theorem rlarge_any (v : Value) (l : List Nat) (R : Nat → Prop) (w : World) (h : LS w R v l) (hR : ∀ b, R b → b < w.heap.size) (hl : l.length ≤ 512) :
  Calls Tryz.prog 178 #[v] w fun e w' => e = .returned (.bool false) ∧ Below w.heap.size w w' := by
 have HT := Lib.hid (trim_any v l R w h hR (by omega))
 have hlen := trimL_length l
 clear h
 go_enter Tryz.func178, Tryz.ntmps178
 go_wp2_with fail
 refine HT.out.mono ?_
 rintro e w2 ⟨u, rfl, hO, hb⟩
 obtain ⟨A, c, rfl⟩ := own_form hO
 have q : ¬ ((512 : Int) < ((trimL l).length : Int)) := by omega
 generalize (trimL l).length = n at *
 clear hO
 go_wp2_with fail
 go_ret
 exact ⟨ret_bool (decide_eq_false (by omega)), hb⟩
def cmpI (n m : Nat) : Int := if n < m then -1 else if m < n then 1 else 0
theorem natL_len {n : Nat} : ((natL n).length = 0 ↔ n = 0) ∧ ((natL n).length = 1 ↔ 0 < n) := by
 unfold natL
 split <;> simp <;> omega
theorem LS.one {w : World} {R : Nat → Prop} {A : Option Addr} {k c : Nat} {n : Nat} (h : LS w R (.slice A k c) (natL n)) (h0 : 0 < n) : ∃ b off, A = some ⟨b, off, none⟩ ∧ R b ∧ w.cell? ⟨b, off, none⟩ = some (.int .u32 (n : Int)) := by
 have hl : 0 < (natL n).length := by rw [natL_pos h0]; simp
 obtain ⟨b, off, e, hR, hc, -⟩ := h.at_ hl
 have e2 : (natL n)[0] = n := by simp [natL_pos h0]
 rw [e2, Nat.add_zero] at hc
 exact ⟨b, off, e, hR, hc⟩
set_option maxRecDepth 100000 in
set_option maxHeartbeats 800000 in
theorem rcmp_any (va vb : Value) (n m : Nat) (R R' : Nat → Prop) (w : World) (ha : LS w R va (natL n)) (hb : LS w R' vb (natL m)) (hR : ∀ b, R b → b < w.heap.size) (hR' : ∀ b, R' b → b < w.heap.size) :
  Calls Tryz.prog 176 #[va, vb] w fun e w' => e = .returned (.int .i64 (cmpI n m)) ∧ Below w.heap.size w w' := by
 have HA := Lib.hid (trim_any va _ R w ha hR (by have := natL_length n; omega))
 have HB := Lib.hid (fun w' h h2 => trim_any vb (natL m) R' w' h h2 (by have := natL_length m; omega))
 have HLB := Lib.hid hb
 have hn32 : ∀ x ∈ natL n, x < 4294967296 := ha.2
 have hm32 : ∀ x ∈ natL m, x < 4294967296 := hb.2
 have HN := Lib.hid hn32
 have HM := Lib.hid hm32
 have HR' := Lib.hid hR'
 clear ha hb hR hR' hn32 hm32
 go_enter Tryz.func176, Tryz.ntmps176
 go_wp2_with fail
 refine HA.out.mono ?_
 rintro e w2 ⟨u, rfl, hO, hb1⟩
 rw [trim_natL] at hO
 have HB1 := Lib.hid hb1
 have HO := Lib.hid hO
 clear hO hb1
 go_wp2_with fail
 refine (HB.out _ (HLB.out.keep (fun b hb => HB1.out.block b (HR'.out b hb))) (fun b hb => Nat.lt_of_lt_of_le (HR'.out b hb) HB1.out.size)).mono ?_
 rintro e w3 ⟨u2, rfl, hO2, hb2⟩
 rw [trim_natL] at hO2
 have hb3 := HB1.out.trans (hb2.mono HB1.out.size)
 have h1 := (HO.out.below hb2).lsBl HN.out
 have h2 := hO2.lsBl HM.out
 obtain ⟨A, c, rfl, -, -⟩ := h1.form
 obtain ⟨B, d, rfl, -, -⟩ := h2.form
 have hln := natL_len (n := n)
 have hlm := natL_len (n := m)
 obtain ⟨N, hN⟩ : ∃ N, N = (natL n).length := ⟨_, rfl⟩
 obtain ⟨M, hM⟩ : ∃ M, M = (natL m).length := ⟨_, rfl⟩
 have hN1 : N ≤ 1 := by rw [hN]; exact natL_length n
 have hM1 : M ≤ 1 := by rw [hM]; exact natL_length m
 rw [← hN] at h1 hln ⊢
 rw [← hM] at h2 hlm ⊢
 have H1 := Lib.hid h1
 have H2 := Lib.hid h2
 clear hO2 hb2 h1 h2 HO HB1 HA HB HLB HR' hN hM
 by_cases hne : N = M
 ·subst hne
  have q0 : ((N : Int) != (N : Int)) = false := by simp
  have hsub : IntKind.i64.wrap ((N : Int) - 1) = (N : Int) - 1 := IntWalk.i64_in _ (by omega)
  go_wp2_with fail
  go_loopg [5] N (fun z v5 wr => wr.heap.size = w3.heap.size ∧ Hid (Below w3.heap.size w3 wr) ∧ ((z = 0 ∧ v5 = .int .i64 (-1) ∧ n = m) ∨ (z = 1 ∧ v5 = .int .i64 0 ∧ 0 < n ∧ 0 < m)))
  case atStart =>
   refine ⟨rfl, Below.refl _ _, ?_⟩
   rcases Nat.lt_or_ge 0 N with h | h
   ·have e1 : N = 1 := by omega
    subst e1
    exact .inr ⟨rfl, rfl, hln.2.1 rfl, hlm.2.1 rfl⟩
   ·have e1 : N = 0 := by omega
    subst e1
    exact .inl ⟨rfl, rfl, by have := hln.1.1 rfl; have := hlm.1.1 rfl; omega⟩
  case round =>
   obtain ⟨hs, hbr, h⟩ := hrel
   rcases h with ⟨rfl, rfl, he⟩ | ⟨rfl, rfl, h0, h0'⟩
   ·have HE := Lib.hid he
    have HBR := Lib.hid hbr
    clear he hbr
    go_wp2_with fail
    go_ret
    exact ⟨ret_int (by unfold cmpI; rw [HE.out]; simp), hb3.trans (HBR.out.out.mono hb3.size)⟩
   ·have hbr := hbr.out
    have e1 : N = 1 := by
     have h3 := hln.2.2 h0
     omega
    subst e1
    obtain ⟨b1, o1, rfl, hR1, hc1⟩ := H1.out.one h0
    obtain ⟨b2, o2, rfl, hR2, hc2⟩ := H2.out.one h0'
    have k1 := (hbr.cell (p := ⟨b1, o1, none⟩) hR1).trans hc1
    have k2 := (hbr.cell (p := ⟨b2, o2, none⟩) hR2).trans hc2
    have HS := Lib.hid hs
    have HBZ := Lib.hid (hb3.trans (hbr.mono hb3.size))
    have HBR := Lib.hid hbr
    have n0 : (0 : Int) < (n : Int) := by omega
    clear hc1 hc2 hR1 hR2 hln hlm hsub hN1 hs h0 h0' hb3 hbr
    by_cases hlt : n < m
    ·have q1 : (n : Int) < (m : Int) := by omega
     have HE := Lib.hid (show cmpI n m = -1 by unfold cmpI; rw [if_pos hlt])
     clear hlt
     go_wp2_with fail
     go_quiet (fail)
     go_wp2_with fail
     go_ret
     exact ⟨ret_int HE.out.symm, Below.drewN' HBZ.out _⟩
    ·have q1 : ¬ (n : Int) < (m : Int) := by omega
     by_cases hgt : m < n
     ·have q2 : (m : Int) < (n : Int) := by omega
      have HE := Lib.hid (show cmpI n m = 1 by unfold cmpI; rw [if_neg hlt, if_pos hgt])
      clear hlt hgt
      go_wp2_with fail
      go_quiet (fail)
      go_wp2_with fail
      go_quiet (fail)
      go_wp2_with fail
      go_ret
      exact ⟨ret_int HE.out.symm, Below.drewN' (Below.drewN' HBZ.out _) _⟩
     ·have q2 : ¬ (m : Int) < (n : Int) := by omega
      have he : n = m := by omega
      have HE := Lib.hid he
      clear hlt hgt he
      go_wp2_with fail
      go_quiet (fail)
      go_wp2_with fail
      go_quiet (fail)
      go_wp2_with fail
      go_roundg 0
      case measure => omega
      case rel => exact ⟨HS.out, Below.drewN' HBR.out _, .inl ⟨rfl, rfl, HE.out⟩⟩
 ·have q0 : ((N : Int) != (M : Int)) = true := by simp; omega
  by_cases hlt : N < M
  ·have e1 : N = 0 := by omega
   have e2 : M = 1 := by omega
   have HE := Lib.hid (show cmpI n m = -1 by
    have h3 := hln.1.1 e1
    have h4 := hlm.2.1 e2
    unfold cmpI; rw [if_pos (by omega)])
   have q1 : (N : Int) < (M : Int) := by omega
   clear hne hlt e1 e2
   go_wp2_with fail
   go_ret
   exact ⟨ret_int HE.out.symm, hb3⟩
  ·have e1 : M = 0 := by omega
   have e2 : N = 1 := by omega
   have HE := Lib.hid (show cmpI n m = 1 by
    have h3 := hlm.1.1 e1
    have h4 := hln.2.1 e2
    unfold cmpI; rw [if_neg (by omega), if_pos (by omega)])
   have q1 : ¬ (N : Int) < (M : Int) := by omega
   clear hne hlt e1 e2
   go_wp2_with fail
   go_ret
   exact ⟨ret_int HE.out.symm, hb3⟩
end Go.Proofs.YtmehadfhcdpfcaaGreat
