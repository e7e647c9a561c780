/- The margin of copies, walked. -/
import Derived.Test.YtmehadfhcdpfcaaGreatMc15
import Derived.Test.YtmehadfhcdpfcaaGreatMc08
import Derived.Test.YtmehadfhcdpfcaaGreatMc09
import Derived.Test.YtmehadfhcdpfcaaGreatMc10
namespace Go.Proofs.YtmehadfhcdpfcaaGreat
open Go.RowKit
set_option linter.unusedVariables false
set_option linter.unusedSimpArgs false
def memT (s n : Nat) : List Int := (List.range n).filterMap fun i : Nat => if s / 2 ^ i % 2 = 1 then some (i : Int) else none
theorem memT_succ (s n : Nat) : memT s (n + 1) = memT s n ++ (if s / 2 ^ n % 2 = 1 then [(n : Int)] else []) := by
 unfold memT
 rw [List.range_succ, List.filterMap_append]
 congr 1
 by_cases h : s / 2 ^ n % 2 = 1 <;> simp [h]
theorem memT_length (s n : Nat) : (memT s n).length ≤ n := by
 unfold memT
 exact Nat.le_trans (List.length_filterMap_le _ _) (by simp)
def orS (fs : List Nat) : Nat := fs.foldl (fun s f => s ||| 2 ^ f) 0
theorem orS_snoc (fs : List Nat) (f : Nat) : orS (fs ++ [f]) = orS fs ||| 2 ^ f := by unfold orS; rw [List.foldl_append]; rfl
theorem orS_bit (fs : List Nat) (i : Nat) : (orS fs).testBit i = decide (i ∈ fs) := by
 have h : ∀ (fs : List Nat) (s : Nat), (fs.foldl (fun s f => s ||| 2 ^ f) s).testBit i = (s.testBit i || decide (i ∈ fs)) := by
  intro fs
  induction fs with
  | nil => intro s; simp
  | cons f fs ih =>
   intro s
   rw [List.foldl_cons, ih, Nat.testBit_or, Nat.testBit_two_pow]
   by_cases e : f = i
   ·subst e; simp
   ·have e2 : ¬ i = f := fun h => e h.symm
    simp [e, e2]
 have := h fs 0
 simpa [orS] using this
theorem orS_lt (fs : List Nat) (h : ∀ f ∈ fs, f < 8) : orS fs < 256 := by
 have : ∀ (fs : List Nat) (s : Nat), s < 2 ^ 8 → (∀ f ∈ fs, f < 8) → fs.foldl (fun s f => s ||| 2 ^ f) s < 2 ^ 8 := by
  intro fs
  induction fs with
  | nil => intro s hs _; exact hs
  | cons f fs ih =>
   intro s hs hf
   rw [List.foldl_cons]
   exact ih _ (Nat.or_lt_two_pow hs (Nat.pow_lt_pow_right (by omega) (hf f (by simp)))) (fun x hx => hf x (List.mem_cons_of_mem _ hx))
 exact this fs 0 (by decide) h
theorem memT_or (fs : List Nat) (h : ∀ f ∈ fs, f < 8) : (memT (orS fs) 63).length = ((List.range 8).filter (fun i => decide (i ∈ fs))).length := by
 have e : ∀ n, memT (orS fs) n = ((List.range n).filter (fun i => decide (i ∈ fs))).map (fun i : Nat => (i : Int)) := by
  intro n
  induction n with
  | zero => rfl
  | succ n ih =>
   rw [memT_succ, ih, List.range_succ, List.filter_append, List.map_append]
   congr 1
   have hb := orS_bit fs n
   rw [Nat.testBit_eq_decide_div_mod_eq] at hb
   by_cases hm : n ∈ fs
   ·rw [decide_eq_true hm] at hb
    rw [if_pos (of_decide_eq_true hb)]; simp [hm]
   ·rw [decide_eq_false hm] at hb
    rw [if_neg (of_decide_eq_false hb)]; simp [hm]
 rw [e, List.length_map]
 have e2 : List.range 63 = List.range 8 ++ (List.range' 8 55) := by decide
 rw [e2, List.filter_append, List.length_append]
 have e3 : (List.range' 8 55).filter (fun i => decide (i ∈ fs)) = [] := by
  rw [List.filter_eq_nil_iff]
  intro i hi
  rw [List.mem_range'_1] at hi
  have : i ∉ fs := fun hm => by have := h i hm; omega
  simp [this]
 rw [e3]; rfl
theorem shr_and (s j : Nat) (hs : s < 256) : bits .and .i64 ((s : Int) / 2 ^ j) 1 = ((s / 2 ^ j % 2 : Nat) : Int) := by
 have e : (s : Int) / 2 ^ j = ((s / 2 ^ j : Nat) : Int) := by push_cast; rfl
 have h1 : s / 2 ^ j ≤ s := Nat.div_le_self _ _
 rw [e]
 show IntKind.i64.wrap ((BitVec.ofInt 64 ((s / 2 ^ j : Nat) : Int) &&& BitVec.ofInt 64 ((1 : Nat) : Int)).toNat : Int) = _
 have ofn : ∀ a : Nat, a < 9223372036854775808 → (BitVec.ofInt 64 (a : Int)).toNat = a := fun a ha => by
  rw [BitVec.ofInt_natCast, BitVec.toNat_ofNat]; exact Nat.mod_eq_of_lt (by omega)
 rw [BitVec.toNat_and, ofn _ (by omega), ofn 1 (by omega), IntKind.wrap_i64, Nat.and_one_is_mod]
 omega
theorem i64_or (a b : Nat) (ha : a < 256) (hb : b < 256) : bits .or .i64 (a : Int) (b : Int) = ((a ||| b : Nat) : Int) := by
 have hx : a ||| b < 2 ^ 8 := Nat.or_lt_two_pow ha hb
 show IntKind.i64.wrap ((BitVec.ofInt 64 (a : Int) ||| BitVec.ofInt 64 (b : Int)).toNat : Int) = _
 have ofn : ∀ a : Nat, a < 9223372036854775808 → (BitVec.ofInt 64 (a : Int)).toNat = a := fun a ha => by
  rw [BitVec.ofInt_natCast, BitVec.toNat_ofNat]; exact Nat.mod_eq_of_lt (by omega)
 rw [BitVec.toNat_or, ofn a (by omega), ofn b (by omega), IntKind.wrap_i64]
 omega
set_option maxRecDepth 100000 in
set_option maxHeartbeats 800000 in
theorem members_any (s : Nat) (hs : s < 256) (w : World) :
  Calls Tryz.prog 80 #[.int .i64 (s : Int)] w fun e w' => ∃ u, e = .returned u ∧ OwnI w' w.heap.size u (memT s 63) ∧ Below w.heap.size w w' := by
 have HB := Lib.hid (fun j => shr_and s j hs)
 clear hs
 go_enter Tryz.func80, Tryz.ntmps80
 go_wp2_with fail
 go_loopg [3, 5] 63 (fun z v3 v5 wr => ∃ j : Nat, j ≤ 63 ∧ z = 63 - j ∧ v5 = .int .i64 (j : Int) ∧ Hid (OwnI wr w.heap.size v3 (memT s j)) ∧ Hid (Below w.heap.size w wr))
 case atStart => exact ⟨0, by omega, rfl, rfl, OwnI.nil _ _, Below.refl _ _⟩
 case round =>
  obtain ⟨j, hj, rfl, rfl, HO, HBR⟩ := hrel
  by_cases hlt : j < 63
  ·have hb := HB.out j
   obtain ⟨A3, c3, hv3⟩ := HO.out.form
   obtain ⟨n3, hn3⟩ : ∃ n, n = (memT s j).length := ⟨_, rfl⟩
   rw [← hn3] at hv3
   subst hv3
   have hle : n3 ≤ 63 := by rw [hn3]; have := memT_length s j; omega
   have HN := Lib.hid hn3.symm
   have HLE := Lib.hid hle
   by_cases hm : s / 2 ^ j % 2 = 1
   ·have HM := Lib.hid hm
    rw [hm] at hb
    clear hn3 hle hm
    go_wp2_with (at_builtin; refine app_i (j : Int) (.tmp 13) (.tmp 15) rfl rfl w.heap.size (.slice A3 n3 c3) n3 (memT s j) HN.out (by rfl) (by have h1 := HO.out; unfold OwnI at h1; rw [HN.out] at h1; exact h1) (by rfl) (by have := HLE.out; omega) HBR.out.size ?_; intro v5 w5 hown5 hg5 hat5; have HO5 := Lib.hid hown5; have HG5 := Lib.hid hg5; clear hown5 hg5 hat5)
    go_roundg (63 - (j + 1))
    case measure => omega
    case rel => exact ⟨j + 1, by omega, rfl, by go_num, by rw [memT_succ, if_pos HM.out]; exact HO5.out, HBR.out.grown HG5.out HBR.out.size (fun b e => (HO.out.lt b e).1)⟩
   ·have hm0 : s / 2 ^ j % 2 = 0 := by omega
    have HM := Lib.hid hm0
    rw [hm0] at hb
    clear hn3 hle hm hm0
    go_wp2_with fail
    go_roundg (63 - (j + 1))
    case measure => omega
    case rel => exact ⟨j + 1, by omega, rfl, by go_num, by rw [memT_succ, if_neg (by rw [HM.out]; decide), List.append_nil]; exact HO.out, HBR.out⟩
  ·obtain rfl : j = 63 := by omega
   go_wp2_with fail
   go_ret
   exact ⟨_, rfl, HO.out, HBR.out⟩
def cpC (x : Nat × Int) : List Value := [.int .i64 (x.1 : Int), .int .i64 x.2, .int .i64 1]
def CpK (w : World) (R : Nat → Prop) (cs : List Value) (x : Nat × Int) : Prop := cs = cpC x
theorem cpK : Steady CpK := ⟨fun _ h => h, fun _ h => h⟩
theorem three_cp {cs : List Value} {x : Nat × Int} {w : World} {p o : Nat} (h : ∀ i c, cs[i]? = some c → w.cell? ⟨p, o + i, none⟩ = some c) (e : cs = cpC x) :
  w.cell? ⟨p, o, none⟩ = some (.int .i64 (x.1 : Int)) ∧ w.cell? ⟨p, o + 1, none⟩ = some (.int .i64 x.2) ∧ w.cell? ⟨p, o + 2, none⟩ = some (.int .i64 1) := by
 subst e
 exact ⟨h 0 _ rfl, h 1 _ rfl, h 2 _ rfl⟩
set_option maxRecDepth 100000 in
set_option maxHeartbeats 800000 in
theorem mcounts_any (f : Nat) (d : Int) (w : World) (hf : f < 8) :
  Calls Tryz.prog 114 #[.agg #[.int .i64 (f : Int), .int .i64 d, .int .i64 1]] w fun e w' => e = .returned (.bool true) ∧ Below w.heap.size w w' := by
 have f1 : decide ((0 : Int) ≤ (f : Int)) = true := decide_eq_true (by omega)
 have f2 : (f : Int) < 8 := by omega
 go_enter Tryz.func114, Tryz.ntmps114
 go_wp2_with fail
 go_ret
 exact ⟨rfl, (Below.refl _ _).alloc (Nat.le_refl _) _⟩
set_option maxRecDepth 100000 in
set_option maxHeartbeats 800000 in
theorem mvalid_any (k : Int) (w : World) (h1 : 1 ≤ k) (h2 : k ≤ 6) :
  Calls Tryz.prog 51 #[.int .i64 k, .int .i64 1] w fun e w' => e = .returned (.bool true) ∧ w = w' := by
 have f1 : decide ((1 : Int) ≤ k) = true := decide_eq_true h1
 have f2 : decide (k ≤ (6 : Int)) = true := decide_eq_true h2
 go_enter Tryz.func51, Tryz.ntmps51
 go_wp2_with fail
 go_ret
 exact ⟨rfl, rfl⟩
def orT (cs : List (Nat × Int)) : Nat := orS (cs.map (·.1))
theorem orT_lt (cs : List (Nat × Int)) (h : ∀ x ∈ cs, x.1 < 8) : orT cs < 256 := orS_lt _ (fun f hf => by obtain ⟨x, hx, rfl⟩ := List.mem_map.1 hf; exact h x hx)
theorem orT_take (cs : List (Nat × Int)) (j : Nat) (hj : j < cs.length) : orT (cs.take (j + 1)) = orT (cs.take j) ||| 2 ^ cs[j].1 := by
 unfold orT
 rw [List.take_succ_eq_append_getElem hj, List.map_append]
 exact orS_snoc _ _
set_option maxRecDepth 100000 in
set_option maxHeartbeats 800000 in
theorem fragments_any (v : Value) (cs : List (Nat × Int)) (w : World) (h : SlS 3 CpK w (Bl w.heap.size) v cs) (hf : ∀ x ∈ cs, x.1 < 8) :
  Calls Tryz.prog 81 #[v, .int .i64 0] w fun e w' => e = .returned (.int .i64 (orT cs : Int)) ∧ Below w.heap.size w w' := by
 obtain ⟨A, c, rfl, -, hm⟩ := h.form
 unfold maxLen at hm
 have HS := Lib.hid h
 have HF := Lib.hid hf
 obtain ⟨L, hL⟩ : ∃ L, L = cs.length := ⟨_, rfl⟩
 rw [← hL] at HS hm ⊢
 have HL := Lib.hid hL
 obtain ⟨t, ht⟩ : ∃ t : Nat → Nat, t = fun j => orT (cs.take j) := ⟨_, rfl⟩
 have HT := Lib.hid (fun j (hj : j < cs.length) => (show t (j + 1) = t j ||| 2 ^ cs[j].1 from by rw [ht]; exact orT_take cs j hj))
 have HTL := Lib.hid (fun j => (show t j < 256 from by rw [ht]; exact orT_lt _ (fun x hx => hf x (List.mem_of_mem_take hx))))
 have h0 : t 0 = 0 := by rw [ht]; rfl
 have HE := Lib.hid (show t L = orT cs from by rw [ht, hL]; simp)
 rw [← HE.out]
 clear h hf hL ht
 go_enter Tryz.func81, Tryz.ntmps81
 go_wp2_with fail
 go_loopg [5, 10] L (fun z v5 v10 wr => ∃ j : Nat, j ≤ L ∧ z = L - j ∧ v5 = .int .i64 (t j : Int) ∧ v10 = .int .i64 (j : Int) ∧ Hid (Below w.heap.size w wr))
 case atStart => exact ⟨0, by omega, rfl, by rw [h0]; rfl, rfl, Below.refl _ _⟩
 case round =>
  obtain ⟨j, hj, rfl, rfl, rfl, HBR⟩ := hrel
  by_cases hlt : j < L
  ·have hjl : j < cs.length := by rw [← HL.out]; exact hlt
   obtain ⟨b, off, cs', rfl, hR, -, hc, hcs⟩ := HS.out.at_ (k := j) hjl
   obtain ⟨c0, c1, c2⟩ := three_cp hc hcs
   have hfj := HF.out _ (List.getElem_mem hjl)
   have htj := HT.out j hjl
   have hor := i64_or (t j) (2 ^ cs[j].1) (HTL.out j) (Nat.pow_lt_pow_right (by omega) hfj)
   obtain ⟨f, hfe⟩ : ∃ f, f = cs[j].1 := ⟨_, rfl⟩
   obtain ⟨d, hde⟩ : ∃ f, f = cs[j].2 := ⟨_, rfl⟩
   rw [← hfe] at c0 hfj htj hor
   rw [← hde] at c1
   have hw := fun i x (hx : w.cell? ⟨b, off + j * 3 + i, none⟩ = some x) => (HBR.out.cell (p := ⟨b, off + j * 3 + i, none⟩) hR).trans hx
   have l0 := hw 0 _ c0
   have l1 := hw 1 _ c1
   have l2 := hw 2 _ c2
   rw [Nat.add_zero] at l0
   have HMC := Lib.hid (fun w => mcounts_any f d w hfj)
   have HTJ := Lib.hid htj
   have hpw : ((2 : Int) ^ f) = ((2 ^ f : Nat) : Int) := by push_cast; rfl
   have hpl : 2 ^ f < 2 ^ 8 := Nat.pow_lt_pow_right (by omega) hfj
   have hwp : IntKind.i64.wrap ((2 : Int) ^ f) = ((2 ^ f : Nat) : Int) := by rw [hpw]; have h8 : 2 ^ f < 256 := hpl; revert h8; generalize 2 ^ f = y; intro h8; exact IntWalk.i64_in _ (by omega)
   obtain ⟨W3, hW3⟩ : ∃ W, W = wr.alloc (.cells #[.int .i64 (f : Int), .int .i64 d, .int .i64 1] 69) := ⟨_, rfl⟩
   obtain ⟨g, hg⟩ : ∃ q, q = wr.heap.size := ⟨_, rfl⟩
   have hb3 : Below wr.heap.size wr W3 := by rw [hW3]; exact (Below.refl _ _).alloc (Nat.le_refl _) _
   have hgk : W3.heap[g]? = some (.cells #[.int .i64 (f : Int), .int .i64 d, .int .i64 1] 69 (0, 0)) := by rw [hW3, hg]; exact heap_alloc_new _ _
   obtain ⟨d0, d1, d2, -⟩ := cells3 hgk
   have HGK := Lib.hid hgk
   have HB3 := Lib.hid (HBR.out.trans (hb3.mono HBR.out.size))
   have HW3 := Lib.hid hW3
   have HG := Lib.hid hg
   have HOR := Lib.hid (show bits .or .i64 (t j : Int) (IntKind.i64.wrap ((2 : Int) ^ f)) = ((t j ||| 2 ^ f : Nat) : Int) from by rw [hwp]; exact hor)
   have hb11 : bits .and .i64 1 1 = 1 := by decide
   clear hc hcs c0 c1 c2 hw hfe hde htj hpw hpl hwp hor hW3 hg hb3 hgk hR
   go_upto_region 5 with fail
   rw [← HW3.out, ← HG.out]
   clear l0 l1 l2
   go_wp2_with fail
   refine (HMC.out _).mono ?_
   rintro e w5 ⟨rfl, hb5⟩
   have hgk5 := (hb5.block g (Array.getElem?_eq_some_iff.1 HGK.out).1).trans HGK.out
   clear d0 d1 d2
   obtain ⟨d0, d1, d2, -⟩ := cells3 hgk5
   have HB5 := Lib.hid (HB3.out.trans (hb5.mono HB3.out.size))
   clear hb5 hgk5
   go_wp2_with fail
   go_roundg (L - (j + 1))
   case measure => omega
   case rel => exact ⟨j + 1, by omega, rfl, by rw [HTJ.out]; have h := HOR.out; rw [IntWalk.i64_left] at h; exact congrArg (Value.int .i64) h, by go_num, HB5.out⟩
  ·obtain rfl : L = j := by omega
   go_wp2_with fail
   go_ret
   exact ⟨rfl, HBR.out⟩
set_option maxRecDepth 100000 in
set_option maxHeartbeats 800000 in
theorem mintact_any (v : Value) (cs : List (Nat × Int)) (w : World) (h : SlS 3 CpK w (Bl w.heap.size) v cs) (hf : ∀ x ∈ cs, x.1 < 8) :
  Calls Tryz.prog 52 #[v, .int .i64 0] w fun e w' => ∃ u, e = .returned u ∧ OwnI w' w.heap.size u (memT (orT cs) 63) ∧ Below w.heap.size w w' := by
 have HF := Lib.hid (fragments_any v cs w h hf)
 have HM := Lib.hid (fun w => members_any (orT cs) (orT_lt cs hf) w)
 obtain ⟨A, c, rfl, -, -⟩ := h.form
 obtain ⟨t, ht⟩ : ∃ t, t = orT cs := ⟨_, rfl⟩
 rw [← ht] at HF HM ⊢
 clear h hf ht
 go_enter Tryz.func52, Tryz.ntmps52
 go_wp2_with fail
 refine HF.out.mono ?_
 rintro e w1 ⟨rfl, hb1⟩
 have HB1 := Lib.hid hb1
 clear hb1
 go_wp2_with fail
 refine (HM.out _).mono ?_
 rintro e w2 ⟨u, rfl, ho, hb2⟩
 have HO := Lib.hid ho
 have HB2 := Lib.hid hb2
 clear ho hb2
 go_wp2_with fail
 go_ret
 exact ⟨_, rfl, HO.out.base HB1.out.size, HB1.out.trans (HB2.out.mono HB1.out.size)⟩
set_option maxRecDepth 100000 in
set_option maxHeartbeats 800000 in
theorem margin_any (k : Int) (v : Value) (cs : List (Nat × Int)) (w : World) (hk1 : 1 ≤ k) (hk6 : k ≤ 6) (h : SlS 3 CpK w (Bl w.heap.size) v cs) (hf : ∀ x ∈ cs, x.1 < 8) :
  Calls Tryz.prog 23 #[.int .i64 k, .int .i64 1, v] w fun e w' => e = .returned (.tuple #[.int .i64 ((((List.range 8).filter (fun i => decide (i ∈ cs.map (·.1)))).length : Int) - k), .int .i64 0]) ∧ Below w.heap.size w w' := by
 have hlen : (memT (orT cs) 63).length = ((List.range 8).filter (fun i => decide (i ∈ cs.map (·.1)))).length := memT_or _ (fun f hm => by obtain ⟨x, hx, rfl⟩ := List.mem_map.1 hm; exact hf x hx)
 obtain ⟨n, hn⟩ : ∃ n, n = ((List.range 8).filter (fun i => decide (i ∈ cs.map (·.1)))).length := ⟨_, rfl⟩
 have hn8 : n ≤ 8 := by rw [hn]; exact Nat.le_trans (List.length_filter_le _ _) (by simp)
 rw [← hn] at hlen ⊢
 have HI := Lib.hid (show Calls Tryz.prog 52 #[v, .int .i64 0] w (fun e w' => ∃ A c, e = .returned (.slice A n c) ∧ Below w.heap.size w w') from (mintact_any v cs w h hf).mono fun e w' ⟨u, he, ho, hb⟩ => by
  obtain ⟨A, c, hu⟩ := ho.form
  rw [hlen] at hu
  exact ⟨A, c, by rw [he, hu], hb⟩)
 have HV := Lib.hid (mvalid_any k w hk1 hk6)
 obtain ⟨A, c, rfl, -, -⟩ := h.form
 have hmn : min (8 : Int) (n : Int) = (n : Int) := by omega
 have hsb : IntKind.i64.wrap ((n : Int) - k) = (n : Int) - k := IntWalk.i64_in _ (by omega)
 have hs9 : wrap64 ((8 : Int) - k) = (8 : Int) - k := IntWalk.wrap64_in _ (by omega)
 have hs8 : IntKind.i64.wrap ((8 : Int) - k) = (8 : Int) - k := IntWalk.i64_in _ (by omega)
 clear h hf hlen hn hk1 hk6
 go_enter Tryz.func23, Tryz.ntmps23
 go_wp2_with fail
 refine HV.out.mono ?_
 rintro e w1 ⟨rfl, rfl⟩
 go_wp2_with fail
 refine wp_loop_rounds 2 ?_
 rw [rounds_succ]
 go_wp2_with fail
 refine HI.out.mono ?_
 rintro e w2 ⟨A2, c2, rfl, hb2⟩
 have HB2 := Lib.hid hb2
 clear hb2
 go_wp2_with fail
 all_goals rw [rounds_succ]
 all_goals go_wp2_with fail
 all_goals go_ret2
 all_goals first | exact ⟨rfl, HB2.out⟩ | (obtain rfl : n = 8 := (by omega); exact ⟨rfl, HB2.out⟩)
set_option maxRecDepth 100000 in
set_option maxHeartbeats 800000 in
theorem nlength_any (v : Value) (l : List Nat) (R : Nat → Prop) (w : World) (h : LS w R v l) (hl : l.length ≤ 1048576) :
  Calls Tryz.prog 164 #[v] w fun e w' => e = .returned (.int .i64 ((trimL l).length : Int)) ∧ w = w' := by
 rcases h.1 with ⟨rfl, rfl⟩ | ⟨b, off, c, rfl, hlc, hcm, hRb, hcs⟩
 ·clear h
  go_enter Tryz.func164, Tryz.ntmps164
  go_wp2_with fail
  go_loopg [3] 0 (fun z v3 wr => w = wr ∧ v3 = .int .i64 0)
  case atStart => exact ⟨rfl, rfl⟩
  case round =>
   obtain ⟨rfl, rfl⟩ := hrel
   go_wp2_with fail
   go_ret
   exact ⟨rfl, rfl⟩
 ·clear h
  unfold maxLen at hcm
  have HCS := Lib.hid hcs
  clear hcs
  go_enter Tryz.func164, Tryz.ntmps164
  go_wp2_with fail
  go_loopg [3] l.length (fun z v3 wr => w = wr ∧ ∃ j : Nat, j ≤ l.length ∧ z = 0 + j ∧ v3 = .int .i64 (j : Int) ∧ Hid (∀ i (h : i < l.length), j ≤ i → l[i] = 0))
  case atStart => exact ⟨rfl, l.length, Nat.le_refl _, (Nat.zero_add _).symm, rfl, fun i h h2 => by omega⟩
  case round =>
   obtain ⟨rfl, j, hj, rfl, rfl, HZ⟩ := hrel
   by_cases h0 : j = 0
   ·subst h0
    have HT := Lib.hid (show (trimL l).length = 0 by rw [trim_at l 0 hj HZ.out (fun k _ e => by omega)]; rfl)
    go_wp2_with fail
    go_ret
    exact ⟨by rw [HT.out]; rfl, rfl⟩
   ·obtain ⟨k, rfl⟩ : ∃ k, j = k + 1 := ⟨j - 1, by omega⟩
    have hkl : k < l.length := by omega
    have hck := HCS.out k l[k] (List.getElem?_eq_getElem hkl)
    unfold u32V at hck
    have hpos : (0 : Int) < ((k + 1 : Nat) : Int) := by omega
    have hsub : IntKind.i64.wrap (((k + 1 : Nat) : Int) - 1) = (k : Int) := by rw [show ((k + 1 : Nat) : Int) - 1 = (k : Int) by omega]; exact IntWalk.i64_in _ (by omega)
    have hi0' : (0 : Int) ≤ (k : Int) := by omega
    have hi1' : (k : Int) < (l.length : Int) := by omega
    have hz2' : l[k] = 0 → ∀ i (h : i < l.length), k ≤ i → l[i] = 0 := fun e i h1 h2 => by
     by_cases e2 : i = k
     ·subst e2; exact e
     ·exact HZ.out i h1 (by omega)
    have hnz : l[k] ≠ 0 → (trimL l).length = k + 1 := fun e => by
     rw [trim_at l (k + 1) hj HZ.out (fun k2 h2 e2 => by
      have e3 : k2 = k := by omega
      subst e3; exact e), List.length_take]
     omega
    have HZ2 := Lib.hid hz2'
    have HNZ := Lib.hid hnz
    obtain ⟨x, hx⟩ : ∃ x, x = l[k] := ⟨_, rfl⟩
    rw [← hx] at hck HZ2 HNZ
    obtain ⟨K1, hK1⟩ : ∃ K1, K1 = k + 1 := ⟨_, rfl⟩
    rw [← hK1] at hpos hsub HNZ hj ⊢
    have HK1 := Lib.hid hK1
    clear hz2' hnz hx HZ hK1
    by_cases hx0 : x = 0
    ·have HZ3 := Lib.hid (HZ2.out hx0)
     have q1 : ((x : Int) == 0) = true := by simpa using hx0
     clear hx0
     go_wp2_with fail
     go_roundg k
     case measure => omega
     case rel => exact ⟨rfl, k, by omega, (Nat.zero_add _).symm, rfl, HZ3⟩
    ·have q1 : ((x : Int) == 0) = false := by simpa using hx0
     have HT := Lib.hid (HNZ.out hx0)
     clear hx0
     go_wp2_with fail
     go_ret
     exact ⟨by rw [HT.out]; rfl, rfl⟩
theorem LS.take {w : World} {R : Nat → Prop} {A : Option Addr} {n c : Nat} {l : List Nat} (h : LS w R (.slice A n c) l) (j c' : Nat) (hj : j ≤ l.length) (hc : j ≤ c') (hc' : c' ≤ maxLen) (hA : 0 < l.length) : LS w R (.slice A j c') (l.take j) := by
 rcases h.1 with ⟨h1, h2⟩ | ⟨b, off, c2, h1, hlc, hcm, hRb, hcs⟩
 ·rw [h2] at hA; simp at hA
 ·injection h1 with h1 h2 h3
  refine ⟨.inr ⟨b, off, c', by rw [h1, List.length_take, Nat.min_eq_left hj], by rw [List.length_take]; omega, by omega, hRb, fun k x hk => hcs k x ?_⟩, fun x hx => h.2 x (List.mem_of_mem_take hx)⟩
  rw [List.getElem?_take] at hk
  split at hk
  ·exact hk
  ·cases hk
theorem trimL_take (l : List Nat) : trimL l = l.take (trimL l).length := by
 have h : trimL l <+: l := by
  unfold trimL
  have h1 : l.reverse.dropWhile (· == 0) <:+ l.reverse := List.dropWhile_suffix _
  have h2 := List.reverse_prefix.2 h1
  simpa using h2
 exact (List.prefix_iff_eq_take.1 h)
theorem LS.only {w : World} {R R' : Nat → Prop} {A : Option Addr} {n c : Nat} {l : List Nat} (h : LS w R (.slice A n c) l) (hr : ∀ b o, A = some ⟨b, o, none⟩ → R' b) : LS w R' (.slice A n c) l := by
 refine ⟨?_, h.2⟩
 rcases h.1 with h1 | ⟨b, off, c2, h1, h2, h3, h4, h5⟩
 ·exact .inl h1
 ·have hA : A = some ⟨b, off, none⟩ := by injection h1
  exact .inr ⟨b, off, c2, h1, h2, h3, hr b off hA, h5⟩
theorem LS.cap {w : World} {R : Nat → Prop} {A : Option Addr} {n c : Nat} {l : List Nat} (h : LS w R (.slice A n c) l) (hA : 0 < l.length) : ∃ b off, A = some ⟨b, off, none⟩ ∧ n = l.length ∧ n ≤ c ∧ c ≤ maxLen := by
 rcases h.1 with ⟨h1, h2⟩ | ⟨b, off, c2, h1, h2, h3, -⟩
 ·rw [h2] at hA; simp at hA
 ·injection h1 with h5 h6 h4
  subst h4
  subst h6
  exact ⟨b, off, h5, rfl, h2, h3⟩
theorem LS.trim {w : World} {R : Nat → Prop} {A : Option Addr} {n c : Nat} {l : List Nat} (h : LS w R (.slice A n c) l) (hA : 0 < l.length) : LS w R (.slice A (trimL l).length c) (trimL l) := by
 have hc : l.length ≤ c ∧ c ≤ maxLen := by
  rcases h.1 with ⟨h1, h2⟩ | ⟨b, off, c2, h1, h2, h3, -⟩
  ·rw [h2] at hA; simp at hA
  ·injection h1 with _ _ h4
   subst h4
   exact ⟨h2, h3⟩
 have hl := trimL_length l
 have ht : trimL l = l.take (trimL l).length := trimL_take l
 have h3 := h.take (trimL l).length c hl (by omega) hc.2 hA
 rw [← ht] at h3
 exact h3
theorem Fr.wider {a b c d : Nat} (h : c ≤ a) (k : b ≤ d) : ∀ x, Fr a b x → Fr c d x := fun x hx => ⟨Nat.le_trans h hx.1, Nat.lt_of_lt_of_le hx.2 k⟩
def bl (n : Nat) : Nat := if n = 0 then 0 else Nat.log2 n + 1
theorem bl_zero : bl 0 = 0 := rfl
theorem bl_half {n : Nat} (h : 0 < n) : bl n = bl (n / 2) + 1 := by
 unfold bl
 rw [if_neg (by omega)]
 by_cases h1 : n = 1
 ·subst h1; decide
 ·rw [if_neg (by omega), Nat.log2_def, if_pos (by omega)]
theorem bl_le : ∀ (k n : Nat), n < 2 ^ k → bl n ≤ k
 | 0, n, h => by
  have h0 : n = 0 := by simpa using h
  rw [h0]; exact Nat.le_refl _
 | k + 1, n, h => by
  rcases Nat.eq_zero_or_pos n with h0 | h0
  ·rw [h0]; exact Nat.zero_le _
  ·rw [bl_half h0]
   have := bl_le k (n / 2) (by rw [Nat.pow_succ] at h; omega)
   omega
theorem bl_32 {n : Nat} (h : n < 4294967296) : bl n ≤ 32 := bl_le 32 n (by simpa using h)
theorem bl_pos {n : Nat} : 0 < bl n ↔ 0 < n := by
 unfold bl
 split <;> omega
theorem bl_one : bl 1 = 1 := by decide
set_option maxRecDepth 100000 in
set_option maxHeartbeats 800000 in
theorem nlarge_any (v : Value) (l : List Nat) (R : Nat → Prop) (w : World) (h : LS w R v l) (hl : l.length ≤ 512) :
  Calls Tryz.prog 180 #[v] w fun e w' => e = .returned (.bool false) ∧ w = w' := by
 have HL := Lib.hid (nlength_any v l R w h (by omega))
 have hlen := trimL_length l
 go_enter Tryz.func180, Tryz.ntmps180
 go_wp2_with fail
 refine HL.out.mono ?_
 rintro e w2 ⟨rfl, rfl⟩
 have q : ¬ ((512 : Int) < ((trimL l).length : Int)) := by omega
 generalize (trimL l).length = n at *
 go_wp2_with fail
 go_ret
 exact ⟨ret_bool (decide_eq_false (by omega)), rfl⟩
set_option maxRecDepth 100000 in
set_option maxHeartbeats 800000 in
theorem nbits_any (v : Value) (n : Nat) (R : Nat → Prop) (w : World) (h : LS w R v (natL n)) :
  Calls Tryz.prog 128 #[v] w fun e w' => e = .returned (.int .i64 (bl n : Int)) ∧ ∃ k, w' = w.drewN k := by
 have HL := Lib.hid (nlength_any v _ R w h (by have := natL_length n; omega))
 rw [trim_natL] at HL
 rcases Nat.eq_zero_or_pos n with h0 | h0
 ·subst h0
  go_enter Tryz.func128, Tryz.ntmps128
  go_wp2_with fail
  refine HL.out.mono ?_
  rintro e w2 ⟨rfl, rfl⟩
  go_wp2_with fail
  go_ret
  exact ⟨rfl, 0, rfl⟩
 ·obtain ⟨A, c, rfl, -, -⟩ := h.form
  obtain ⟨b, off, rfl, -, hc⟩ := h.one h0
  have h32 : n < 4294967296 := h.2 n (by rw [natL_pos h0]; simp)
  have l1 : (natL n).length = 1 := by rw [natL_pos h0]; rfl
  rw [l1] at HL ⊢
  have n0 : (0 : Int) ≤ (n : Int) := by omega
  have n1 : (n : Int) < 4294967296 := by omega
  have e0 : IntKind.i64.wrap (((1 : Nat) : Int) - 1) = 0 := IntWalk.i64_in _ (by omega)
  clear h l1
  go_enter Tryz.func128, Tryz.ntmps128
  go_wp2_with fail
  refine HL.out.mono ?_
  rintro e w2 ⟨rfl, rfl⟩
  have q0 : ¬ ((1 : Int) == 0) = true := by decide
  go_wp2_with fail
  have hbn := bl_32 h32
  have HBN := Lib.hid hbn
  clear hbn q0
  go_loopg [4, 5] n (fun z v4 v5 wr => w = wr ∧ ∃ k : Nat, v4 = .int .i64 (k : Int) ∧ v5 = .int .u32 (z : Int) ∧ Hid (k + bl z = bl n) ∧ z < 4294967296)
  case atStart => exact ⟨rfl, 0, rfl, rfl, Nat.zero_add _, h32⟩
  case round =>
   obtain ⟨rfl, k, rfl, rfl, HK, hz⟩ := hrel
   rcases Nat.eq_zero_or_pos gk with hg | hg
   ·subst hg
    have HE := Lib.hid (show bl n = k by have := HK.out; rw [bl_zero] at this; omega)
    go_wp2_with fail
    go_ret
    exact ⟨by rw [HE.out]; rfl, 0, rfl⟩
   ·have hk : (k : Int) ≤ 32 := by have := HK.out; have := HBN.out; omega
    have HH := Lib.hid (show k + 1 + bl (gk / 2) = bl n by have h1 := HK.out; have h2 := bl_half hg; omega)
    have g0 : (0 : Int) < (gk : Int) := by omega
    have g1 : (gk : Int) < 4294967296 := by omega
    go_wp2_with fail
    go_roundg (gk / 2)
    case measure => omega
    case rel => exact ⟨rfl, k + 1, by go_num, by go_num, HH, by omega⟩
theorem addr_add0 (b off j : Nat) : (⟨b, off, none⟩ : Addr).add j = ⟨b, off + j, none⟩ := by unfold Addr.add; split <;> simp_all
set_option maxRecDepth 100000 in
set_option maxHeartbeats 400000 in
theorem nmake_any (v : Nat) (w : World) (hv : v < 4294967296) :
  Calls Tryz.prog 129 #[.int .u64 (v : Int)] w fun e w' => ∃ u, e = .returned u ∧ LS w' (Fr w.heap.size w'.heap.size) u (natL v) ∧ Below w.heap.size w w' := by
 have hv0 : (0 : Int) ≤ (v : Int) := by omega
 have hv1 : (v : Int) < 4294967296 := by omega
 obtain ⟨W, hW⟩ : ∃ W, W = w.alloc (.cells #[.int .u32 (v : Int), .int .u32 0] 92) := ⟨_, rfl⟩
 have hls := LS.two w v 0 hv (by omega)
 rw [show ((0 : Nat) : Int) = 0 from rfl, ← hW] at hls
 have hb : Below w.heap.size w W := by rw [hW]; exact (Below.refl _ _).alloc (Nat.le_refl _) _
 have hsz : W.heap.size = w.heap.size + 1 := by rw [hW]; simp
 have HL := Lib.hid (nlength_any _ _ _ W hls (by simp))
 have hr := (hls.trim (by simp)).only (R' := Fr w.heap.size W.heap.size) (fun b o hb => by
  injection hb with hb
  injection hb with hb
  exact ⟨by omega, by omega⟩)
 rw [trim_two] at HL hr
 have hn1 := natL_length v
 have HLS := Lib.hid hls
 have HR := Lib.hid hr
 have HB := Lib.hid hb
 have HW := Lib.hid hW
 have HSZ := Lib.hid hsz
 obtain ⟨N, hN⟩ : ∃ N, N = (natL v).length := ⟨_, rfl⟩
 rw [← hN] at HL HR hn1
 clear hls hr hb hW hN hsz
 go_enter Tryz.func129, Tryz.ntmps129
 go_wp2_with fail
 have e0 : ((v : Int) / 4294967296) = 0 := by omega
 rw [e0]
 rw [← HW.out]
 refine HL.out.mono ?_
 rintro e w2 ⟨rfl, rfl⟩
 go_wp2_with fail
 go_ret
 exact ⟨_, rfl, HR.out, HB.out⟩
set_option maxRecDepth 100000 in
set_option maxHeartbeats 800000 in
theorem ntrim_any (v : Value) (l : List Nat) (R : Nat → Prop) (w : World) (h : LS w R v l) (hR : ∀ b, R b → b < w.heap.size) (hl : l.length ≤ 1048576) :
  Calls Tryz.prog 169 #[v] w fun e w' => ∃ u, e = .returned u ∧ OwnL w' w.heap.size u (trimL l) ∧ Below w.heap.size w w' := by
 obtain ⟨i0, hi0, hz0, hz1, hz2⟩ := info_parts info_u32
 have HL := Lib.hid (nlength_any v l R w h (by omega))
 rcases h.1 with ⟨rfl, rfl⟩ | ⟨b, off, c, rfl, hlc, hcm, hRb, hcs⟩
 ·clear h
  go_enter Tryz.func169, Tryz.ntmps169
  go_wp2_with fail
  refine HL.out.mono ?_
  rintro e w2 ⟨rfl, rfl⟩
  go_wp2_with (at_builtin; refine wpList_append_own_none rfl _ _ _ rfl w.heap.size 92 i0 1 Tryz.underlying59 hi0 (.slice none 0 0) 0 [] (by rfl) (World.ownsRow_nil _ _ _ _) (by rfl) ?_)
  go_ret
  exact ⟨_, rfl, OwnL.nil _ _, Below.refl _ _⟩
 ·clear h
  unfold maxLen at hcm
  have hRl := hR b hRb
  have hll := trimL_length l
  have htt := trimL_take l
  obtain ⟨K1, hK1⟩ : ∃ K, K = (trimL l).length := ⟨_, rfl⟩
  rw [← hK1] at HL hll htt
  have hnews : ∀ j2 u, ((l.take K1).map u32V)[j2]? = some u → w.cell? ((⟨b, off, none⟩ : Addr).add j2) = some u := by
   intro j2 u hu
   have e1 : (⟨b, off, none⟩ : Addr).add j2 = ⟨b, off + j2, none⟩ := addr_add0 b off j2
   rw [e1]
   rw [List.getElem?_map] at hu
   cases hx : (l.take K1)[j2]? with
   | none => rw [hx] at hu; cases hu
   | some x =>
    rw [hx] at hu
    injection hu with hu
    rw [← hu]
    refine hcs j2 x ?_
    rw [List.getElem?_take] at hx
    split at hx
    ·exact hx
    ·cases hx
  have hlt : ((l.take K1).map u32V).length = K1 * 1 := by rw [List.length_map, List.length_take]; omega
  have HNW := Lib.hid hnews
  have HLT := Lib.hid hlt
  have HT := Lib.hid htt
  clear htt hnews hlt hcs hK1
  go_enter Tryz.func169, Tryz.ntmps169
  go_wp2_with fail
  refine HL.out.mono ?_
  rintro e w2 ⟨rfl, rfl⟩
  go_wp2_with (at_builtin; refine wpList_append_own_at (P := Tryz.prog) _ rfl _ _ _ rfl w.heap.size 92 i0 _ 1 4 Tryz.underlying59 hi0 hz0 hz1 hz2 rfl (by decide) (.slice none 0 0) 0 [] (by rfl) (World.ownsRow_nil _ _ _ _) ⟨b, off, none⟩ K1 c ((l.take K1).map u32V) (by rfl) HLT.out HNW.out (fun u hu => by obtain ⟨x, -, rfl⟩ := List.mem_map.1 hu; rfl) (by unfold maxLen; omega) (by omega) (Nat.le_refl _) ?_; intro v' w' hown' hg' _ hat')
  go_ret
  refine ⟨_, rfl, ?_, below_none hg'⟩
  have h2 := hown'
  rw [Nat.zero_add, List.nil_append] at h2
  unfold OwnL
  rw [HT.out, show (l.take K1).length = K1 by rw [List.length_take]; omega]
  exact h2
set_option maxRecDepth 100000 in
set_option maxHeartbeats 800000 in
theorem ncmp_any (va vb : Value) (n m : Nat) (R R' : Nat → Prop) (w : World) (ha : LS w R va (natL n)) (hb : LS w R' vb (natL m)) :
  Calls Tryz.prog 134 #[va, vb] w fun e w' => e = .returned (.int .i64 (cmpI n m)) ∧ ∃ k, w' = w.drewN k := by
 have HA := Lib.hid (nlength_any va _ R w ha (by have := natL_length n; omega))
 have HB := Lib.hid (nlength_any vb _ R' w hb (by have := natL_length m; omega))
 rw [trim_natL] at HA HB
 obtain ⟨A, c, rfl, -, -⟩ := ha.form
 obtain ⟨B, d, rfl, -, -⟩ := hb.form
 have hln := natL_len (n := n)
 have hlm := natL_len (n := m)
 obtain ⟨N, hN⟩ : ∃ N, N = (natL n).length := ⟨_, rfl⟩
 obtain ⟨M, hM⟩ : ∃ M, M = (natL m).length := ⟨_, rfl⟩
 have hN1 : N ≤ 1 := by rw [hN]; exact natL_length n
 have hM1 : M ≤ 1 := by rw [hM]; exact natL_length m
 rw [← hN] at ha hln HA ⊢
 rw [← hM] at hb hlm HB ⊢
 have H1 := Lib.hid ha
 have H2 := Lib.hid hb
 clear ha hb hN hM
 go_enter Tryz.func134, Tryz.ntmps134
 go_wp2_with fail
 refine HA.out.mono ?_
 rintro e w2 ⟨rfl, rfl⟩
 go_wp2_with fail
 refine HB.out.mono ?_
 rintro e w2 ⟨rfl, rfl⟩
 by_cases hlt : N < M
 ·have HE := Lib.hid (show cmpI n m = -1 by
   have h3 := hln.1.1 (by omega)
   have h4 := hlm.2.1 (by omega)
   unfold cmpI; rw [if_pos (by omega)])
  have q1 : (N : Int) < (M : Int) := by omega
  clear hlt hln hlm
  go_wp2_with fail
  go_ret
  exact ⟨by rw [HE.out]; rfl, 0, rfl⟩
 ·have q1 : ¬ (N : Int) < (M : Int) := by omega
  by_cases hgt : M < N
  ·have HE := Lib.hid (show cmpI n m = 1 by
    have h3 := hlm.1.1 (by omega)
    have h4 := hln.2.1 (by omega)
    unfold cmpI; rw [if_neg (by omega), if_pos (by omega)])
   have q2 : (M : Int) < (N : Int) := by omega
   clear hlt hgt hln hlm
   go_wp2_with fail
   go_ret
   exact ⟨by rw [HE.out]; rfl, 0, rfl⟩
  ·have q2 : ¬ (M : Int) < (N : Int) := by omega
   have hNM : N = M := by omega
   subst hNM
   have hsub : IntKind.i64.wrap ((N : Int) - 1) = (N : Int) - 1 := IntWalk.i64_in _ (by omega)
   go_wp2_with fail
   go_loopg [7] N (fun z v7 wr => Hid (∃ k, wr = w.drewN k) ∧ ((z = 0 ∧ v7 = .int .i64 (-1) ∧ n = m) ∨ (z = 1 ∧ v7 = .int .i64 0 ∧ 0 < n ∧ 0 < m)))
   case atStart =>
    refine ⟨⟨0, rfl⟩, ?_⟩
    rcases Nat.lt_or_ge 0 N with h | h
    ·have e1 : N = 1 := by omega
     subst e1
     exact .inr ⟨rfl, rfl, hln.2.1 rfl, hlm.2.1 rfl⟩
    ·have e1 : N = 0 := by omega
     subst e1
     exact .inl ⟨rfl, rfl, by have := hln.1.1 rfl; have := hlm.1.1 rfl; omega⟩
   case round =>
    obtain ⟨hbr, h⟩ := hrel
    rcases h with ⟨rfl, rfl, he⟩ | ⟨rfl, rfl, h0, h0'⟩
    ·have HE := Lib.hid he
     obtain ⟨k, rfl⟩ := hbr.out
     clear he hbr hsub q1 q2 hlt hgt
     go_wp2_with fail
     go_ret
     exact ⟨ret_int (by unfold cmpI; rw [HE.out]; simp), k, rfl⟩
    ·obtain ⟨k, rfl⟩ := hbr.out
     have e1 : N = 1 := by
      have h3 := hln.2.2 h0
      omega
     subst e1
     obtain ⟨b1, o1, rfl, hR1, hc1⟩ := H1.out.one h0
     obtain ⟨b2, o2, rfl, hR2, hc2⟩ := H2.out.one h0'
     have k1 : (w.drewN k).cell? ⟨b1, o1, none⟩ = _ := hc1
     have k2 : (w.drewN k).cell? ⟨b2, o2, none⟩ = _ := hc2
     obtain ⟨W, hW⟩ : ∃ x, x = w.drewN k := ⟨_, rfl⟩
     rw [← hW] at k1 k2 ⊢
     have HW := Lib.hid hW
     have n0 : (0 : Int) < (n : Int) := by omega
     clear hc1 hc2 hR1 hR2 hln hlm hsub hN1 h0 h0' hbr hW q1 q2 hlt hgt
     by_cases hlt : n < m
     ·have q1 : (n : Int) < (m : Int) := by omega
      have HE := Lib.hid (show cmpI n m = -1 by unfold cmpI; rw [if_pos hlt])
      clear hlt
      go_wp2_with fail
      go_quiet (fail)
      go_wp2_with fail
      go_ret
      exact ⟨ret_int HE.out.symm, by rw [HW.out]; simp only [World.drewN_drewN]; exact ⟨_, rfl⟩⟩
     ·have q1 : ¬ (n : Int) < (m : Int) := by omega
      by_cases hgt : m < n
      ·have q2 : (m : Int) < (n : Int) := by omega
       have HE := Lib.hid (show cmpI n m = 1 by unfold cmpI; rw [if_neg hlt, if_pos hgt])
       clear hlt hgt
       go_wp2_with fail
       go_quiet (fail)
       go_wp2_with fail
       go_quiet (fail)
       go_wp2_with fail
       go_ret
       exact ⟨ret_int HE.out.symm, by rw [HW.out]; simp only [World.drewN_drewN]; exact ⟨_, rfl⟩⟩
      ·have q2 : ¬ (m : Int) < (n : Int) := by omega
       have he : n = m := by omega
       have HE := Lib.hid he
       clear hlt hgt he
       go_wp2_with fail
       go_quiet (fail)
       go_wp2_with fail
       go_quiet (fail)
       go_wp2_with fail
       go_roundg 0
       case measure => omega
       case rel => exact ⟨by rw [HW.out]; simp only [World.drewN_drewN]; exact ⟨_, rfl⟩, .inl ⟨rfl, rfl, HE.out⟩⟩
set_option maxRecDepth 100000 in
set_option maxHeartbeats 800000 in
theorem nsized_any (A : Option Addr) (n c : Nat) (l : List Nat) (R : Nat → Prop) (w : World) (h : LS w R (.slice A n c) l) (h0 : 0 < l.length) (hl : l.length ≤ 512) :
  Calls Tryz.prog 181 #[.slice A n c] w fun e w' => e = .returned (.tuple #[.slice A (trimL l).length (trimL l).length, .int .i64 0]) ∧ w = w' := by
 have HL := Lib.hid (nlength_any _ l R w h (by omega))
 have hlen := trimL_length l
 obtain ⟨b, off, rfl, rfl, hc1, hcm⟩ := h.cap h0
 unfold maxLen at hcm
 clear h
 obtain ⟨T, hT⟩ : ∃ T, T = (trimL l).length := ⟨_, rfl⟩
 obtain ⟨N, hN⟩ : ∃ T, T = l.length := ⟨_, rfl⟩
 rw [← hT] at HL hlen ⊢
 rw [← hN] at HL hlen hl hc1 h0 ⊢
 clear hT hN
 go_enter Tryz.func181, Tryz.ntmps181
 go_wp2_with fail
 refine HL.out.mono ?_
 rintro e w2 ⟨rfl, rfl⟩
 have q : ¬ ((512 : Int) < (T : Int)) := by omega
 have q0 : (0 : Int) ≤ (T : Int) := by omega
 have q1 : (T : Int) ≤ (c : Int) := by omega
 go_wp2_with fail
 go_ret2
 exact ⟨rfl, rfl⟩
theorem mk_u32n (n : Nat) (hn : n ≤ 1048576) : ∀ w : World, (Instr.makeSlice 59 (.int .i64 (n : Int)) (.int .i64 (n : Int))).run Tryz.prog w = .ok (.slice (some ⟨w.heap.size, 0, none⟩) n n) (w.alloc (.cells (Array.replicate n (.int .u32 0)) 92)) := by
 intro w
 obtain ⟨i0, hi0, hz0, hz1, hz2⟩ := info_parts info_u32
 have h := run_make (P := Tryz.prog) w 59 92 i0 _ Tryz.underlying59 hi0 hz0 .i64 .i64 (n : Int) (n : Int) (by omega) (by omega) (by rw [hz2]; omega) (by omega)
 rw [hz1] at h
 simpa [madeCells_one, Value.cells] using h
theorem mk_u32s2 : ∀ w : World, (Instr.makeSlice 59 (.int .i64 2) (.int .i64 2)).run Tryz.prog w = .ok (.slice (some ⟨w.heap.size, 0, none⟩) 2 2) (w.alloc (.cells #[.int .u32 0, .int .u32 0] 92)) := fun w => mk_u32n 2 (by omega) w
set_option maxRecDepth 100000 in
set_option maxHeartbeats 1600000 in
theorem nshort_any (va : Value) (n d : Nat) (R : Nat → Prop) (w : World) (ha : LS w R va (natL n)) (hR : ∀ b, R b → b < w.heap.size) (hn : 0 < n) (hd : 0 < d) (hd32 : d < 4294967296) :
  Calls Tryz.prog 193 #[va, .int .u32 (d : Int)] w fun e w' => ∃ u, e = .returned (.tuple #[u, .int .u32 ((n % d : Nat) : Int)]) ∧ LS w' (Fr w.heap.size w'.heap.size) u (natL (n / d)) ∧ Below w.heap.size w w' := by
 have hn32 := ha.lt32
 obtain ⟨A, c, rfl, -, -⟩ := ha.form
 have l1 : (natL n).length = 1 := by rw [natL_pos hn]; rfl
 rw [l1] at ha ⊢
 obtain ⟨b1, o1, rfl, hR1, hc1⟩ := ha.one hn
 have hb1l : b1 < w.heap.size := hR _ hR1
 have hmk := mk_u32s1
 obtain ⟨W3, hW3⟩ : ∃ W3, W3 = w.alloc (.cells #[.int .u32 0] 92) := ⟨_, rfl⟩
 obtain ⟨g, hg⟩ : ∃ g, g = w.heap.size := ⟨_, rfl⟩
 have k1 : W3.cell? ⟨b1, o1, none⟩ = some (.int .u32 (n : Int)) := by rw [hW3]; exact (((Below.refl _ _).alloc (Nat.le_refl _) _).cell (p := ⟨b1, o1, none⟩) hb1l).trans hc1
 have hg3 : W3.heap[g]? = some (.cells #[.int .u32 0] 92 (0, 0)) := by rw [hW3, hg]; exact heap_alloc_new _ _
 have kg : W3.cell? ⟨g, 0, none⟩ = some (.int .u32 0) := by rw [cell_of_row _ _ _ _ _ _ hg3]; rfl
 have kf : W3.frozen? ⟨g, 0, none⟩ = false := frozen_of_row _ _ _ _ _ hg3
 have hb3 : Below w.heap.size w W3 := by rw [hW3]; exact (Below.refl _ _).alloc (Nat.le_refl _) _
 have HG3 := Lib.hid hg3
 have HW3 := Lib.hid hW3
 have HG := Lib.hid hg
 have HB3 := Lib.hid hb3
 have n0 : (0 : Int) ≤ (n : Int) := by omega
 have n1 : (n : Int) ≤ 4294967295 := by omega
 have m0 : (0 : Int) < (d : Int) := by omega
 have m1 : (d : Int) ≤ 4294967295 := by omega
 have e1 : b1 ≠ g := by omega
 clear ha l1 hc1 hW3 hg hg3 hb3 hR1
 go_enter Tryz.func193, Tryz.ntmps193
 go_upto_region 2 with fail
 rw [← HW3.out, ← HG.out]
 clear hmk
 go_wp2_with fail
 go_loopg [7, 8] 1 (fun z v7 v8 wr => (z = 1 ∧ v7 = .int .u64 0 ∧ v8 = .int .i64 0 ∧ W3 = wr) ∨ (z = 0 ∧ v7 = .int .u64 ((n % d : Nat) : Int) ∧ v8 = .int .i64 (-1) ∧ Hid (wr.heap[g]? = some (.cells #[.int .u32 ((n / d : Nat) : Int)] 92 (0, 0))) ∧ Hid (Below w.heap.size w wr)))
 case atStart => exact .inl ⟨rfl, rfl, rfl, rfl⟩
 case round =>
  rcases hrel with ⟨rfl, rfl, rfl, rfl⟩ | ⟨rfl, rfl, rfl, hgc, hbr⟩
  ·have hor := or_zero n hn32
   have hqu := quo_nat n d hn32
   have hre := rem_nat n d
   go_wp2_with fail
   go_roundg 0
   case measure => omega
   case rel => exact .inr ⟨rfl, rfl, rfl, heap_setCell_same W3 g 0 _ _ _ HG3.out, HB3.out.setCell (by show w.heap.size ≤ g; rw [HG.out]; exact Nat.le_refl _) _⟩
  ·clear k1 kg kf
   have hgl : g < wr.heap.size := (Array.getElem?_eq_some_iff.1 hgc.out).1
   have hqle : n / d < 4294967296 := Nat.lt_of_le_of_lt (Nat.div_le_self n d) hn32
   have hls : LS wr (Bl wr.heap.size) (.slice (some ⟨g, 0, none⟩) 1 1) [n / d] := LS.cell1 wr g (n / d) hqle hgc.out _ hgl
   have HL := Lib.hid (nlength_any _ _ _ wr hls (by simp))
   have hr := (hls.trim (by simp))
   rw [trim_one'] at HL hr
   have hr2 : LS wr (Fr w.heap.size wr.heap.size) (.slice (some ⟨g, 0, none⟩) (natL (n / d)).length 1) (natL (n / d)) := hr.only (fun b o hb => by
    injection hb with hb; injection hb with hb; rw [← hb]; exact ⟨by rw [HG.out]; exact Nat.le_refl _, hgl⟩)
   have hN1 := natL_length (n / d)
   have hmd : n % d < 4294967296 := Nat.lt_trans (Nat.mod_lt _ hd) hd32
   obtain ⟨Q, hQ⟩ : ∃ Q, Q = (natL (n / d)).length := ⟨_, rfl⟩
   rw [← hQ] at HL hN1 hr2
   have HR2 := Lib.hid hr2
   obtain ⟨M, hM⟩ : ∃ Q, Q = n % d := ⟨_, rfl⟩
   rw [← hM] at hmd ⊢
   have HMM := Lib.hid hM
   have q0 : (0 : Int) ≤ (M : Int) := by omega
   have q1 : (M : Int) < 4294967296 := by omega
   have HBR := Lib.hid hbr.out
   clear hls hr hr2 hQ hM hgc hbr hqle hgl hmd
   go_wp2_with fail
   refine HL.out.mono ?_
   rintro e w2 ⟨rfl, rfl⟩
   go_wp2_with fail
   go_ret2
   exact ⟨_, by rw [← HMM.out]; rfl, HR2.out, HBR.out⟩
set_option maxRecDepth 100000 in
set_option maxHeartbeats 1600000 in
theorem ndivide_any (va vb : Value) (n m : Nat) (w : World) (ha : LS w (Bl w.heap.size) va (natL n)) (hb : LS w (Bl w.heap.size) vb (natL m)) (hm : 0 < m) :
  Calls Tryz.prog 182 #[va, vb] w fun e w' => ∃ q r, e = .returned (.tuple #[q, r]) ∧ LS w' (Fr w.heap.size w'.heap.size) r (natL (n % m)) ∧ Below w.heap.size w w' := by
 have HC := Lib.hid (ncmp_any va vb n m _ _ w ha hb)
 have hn32 := ha.lt32
 have hm32 := hb.lt32
 have HA := Lib.hid ha
 have HB := Lib.hid hb
 go_enter Tryz.func182, Tryz.ntmps182
 go_wp2_with fail
 refine HC.out.mono ?_
 rintro e w2 ⟨rfl, k2, rfl⟩
 have hb2 : Below w.heap.size w (w.drewN k2) := Below.drewN' (Below.refl _ _) k2
 obtain ⟨W2, hW2⟩ : ∃ x, x = w.drewN k2 := ⟨_, rfl⟩
 rw [← hW2] at hb2 ⊢
 have HB2 := Lib.hid hb2
 have HA2 := Lib.hid (HA.out.below hb2)
 have HBB2 := Lib.hid (HB.out.below hb2)
 clear hb2 hW2 ha hb
 by_cases hlt : n < m
 ·have q1 : cmpI n m = -1 := if_pos hlt
  rw [q1]
  have HD := Lib.hid (show n % m = n from Nat.mod_eq_of_lt hlt)
  clear hlt q1
  go_wp2_with fail
  refine (ntrim_any va _ _ _ HA2.out (fun b h => h) (by have := natL_length n; omega)).mono ?_
  rintro e w3 ⟨u, rfl, hO, hb2⟩
  rw [trim_natL] at hO
  have HO := Lib.hid ((hO.ls (natL_mem hn32)).mono (Fr.wider HB2.out.size (Nat.le_refl _)))
  have hbz := HB2.out.trans (hb2.mono HB2.out.size)
  clear hO hb2
  go_wp2_with fail
  go_ret2
  exact ⟨_, _, rfl, by rw [HD.out]; exact HO.out, hbz⟩
 ·have hn : 0 < n := by omega
  have q1 : ¬ cmpI n m < 0 := by unfold cmpI; rw [if_neg hlt]; split <;> omega
  obtain ⟨A, c, rfl, -, -⟩ := HBB2.out.form
  have l2 : (natL m).length = 1 := by rw [natL_pos hm]; rfl
  rw [l2] at HBB2 ⊢
  obtain ⟨b2, o2, rfl, -, hc2⟩ := HBB2.out.one hm
  have HS := Lib.hid (nshort_any va n m _ W2 HA2.out (fun b h => h) hn hm hm32)
  obtain ⟨C, hC⟩ : ∃ C, C = cmpI n m := ⟨_, rfl⟩
  rw [← hC] at q1 ⊢
  clear l2 hC hlt
  go_wp2_with fail
  refine HS.out.mono ?_
  rintro e w3 ⟨u, rfl, hu, hb3⟩
  have hmd : n % m < 4294967296 := Nat.lt_trans (Nat.mod_lt _ hm) hm32
  have HM := Lib.hid (fun w => nmake_any (n % m) w hmd)
  have HB3 := Lib.hid (HB2.out.trans (hb3.mono HB2.out.size))
  obtain ⟨M, hM⟩ : ∃ Q, Q = n % m := ⟨_, rfl⟩
  rw [← hM] at HM hmd ⊢
  have HMM := Lib.hid hM
  have q2 : (0 : Int) ≤ (M : Int) := by omega
  have q3 : (M : Int) < 4294967296 := by omega
  clear hu hb3 hc2 hM hmd
  go_wp2_with fail
  refine (HM.out _).mono ?_
  rintro e w4 ⟨u4, rfl, hu4, hb4⟩
  have HU4 := Lib.hid (hu4.mono (Fr.wider HB3.out.size (Nat.le_refl _)))
  have HB4 := Lib.hid (HB3.out.trans (hb4.mono HB3.out.size))
  clear hu4 hb4
  go_wp2_with fail
  go_ret2
  exact ⟨_, _, rfl, by rw [← HMM.out]; exact HU4.out, HB4.out⟩
set_option maxRecDepth 100000 in
set_option maxHeartbeats 1600000 in
theorem ngcd_any (va vb : Value) (n m : Nat) (w : World) (ha : LS w (Bl w.heap.size) va (natL n)) (hb : LS w (Bl w.heap.size) vb (natL m)) :
  Calls Tryz.prog 167 #[va, vb] w fun e w' => ∃ g, e = .returned (.tuple #[g, .int .i64 0]) ∧ LS w' (Fr w.heap.size w'.heap.size) g (natL (Nat.gcd n m)) ∧ Below w.heap.size w w' := by
 have hn1 := natL_length n
 have hm1 := natL_length m
 have hn32 := ha.lt32
 have hm32 := hb.lt32
 have HA := Lib.hid ha
 have HB := Lib.hid hb
 have H1 := Lib.hid hn1
 have H2 := Lib.hid hm1
 have H3 := Lib.hid hn32
 have H4 := Lib.hid hm32
 clear ha hb hn1 hm1 hn32 hm32
 go_enter Tryz.func167, Tryz.ntmps167
 go_wp2_with fail
 refine (nlarge_any va _ _ _ HA.out (Nat.le_trans H1.out (by omega))).mono ?_
 rintro e w1 ⟨rfl, rfl⟩
 go_wp2_with fail
 refine (nlarge_any vb _ _ _ HB.out (Nat.le_trans H2.out (by omega))).mono ?_
 rintro e w1 ⟨rfl, rfl⟩
 go_wp2_with fail
 refine (ntrim_any va _ _ _ HA.out (fun b h => h) (Nat.le_trans H1.out (by omega))).mono ?_
 rintro e w4 ⟨u4, rfl, hO4, hb4⟩
 rw [trim_natL] at hO4
 have HO4 := Lib.hid (hO4.ls (natL_mem H3.out))
 have HB4 := Lib.hid (HB.out.below hb4)
 have HC4 := Lib.hid hb4
 clear hb4 hO4
 go_wp2_with fail
 refine (ntrim_any vb _ _ _ HB4.out (fun b h => h) (Nat.le_trans H2.out (by omega))).mono ?_
 rintro e w5 ⟨u5, rfl, hO5, hb5⟩
 rw [trim_natL] at hO5
 have hs4 := HC4.out.size
 have HO45 := Lib.hid ((HO4.out.keep (w' := w5) (fun b hb => hb5.block b hb.2)).mono (Fr.wider (Nat.le_refl _) hb5.size))
 have HO5 := Lib.hid ((hO5.ls (natL_mem H4.out)).mono (Fr.wider hs4 (Nat.le_refl _)))
 have HC5 := Lib.hid (HC4.out.trans (hb5.mono HC4.out.size))
 clear hb5 hO5 hs4
 go_wp2_with fail
 go_loopg [0, 1] m (fun z v6 v7 wr => Hid (∃ x, Nat.gcd x z = Nat.gcd n m ∧ x < 4294967296 ∧ z < 4294967296 ∧ LS wr (Fr w.heap.size wr.heap.size) v6 (natL x) ∧ LS wr (Fr w.heap.size wr.heap.size) v7 (natL z)) ∧ Hid (Below w.heap.size w wr))
 case atStart => exact ⟨⟨n, rfl, H3.out, H4.out, HO45.out, HO5.out⟩, HC5.out⟩
 case round =>
  obtain ⟨hx, hbr⟩ := hrel
  obtain ⟨x, hgx, hx32, hz32, hox, hoz⟩ := hx.out
  have HX := Lib.hid hox
  have HZ := Lib.hid hoz
  obtain ⟨A6, c6, rfl, -, -⟩ := hox.form
  obtain ⟨A7, c7, rfl, -, -⟩ := hoz.form
  have HBR := Lib.hid hbr.out
  have hlz := natL_len (n := gk)
  have hsz := hbr.out.size
  have LX := Lib.hid (hox.mono Fr.bl)
  have LZ := Lib.hid (hoz.mono Fr.bl)
  by_cases h0 : gk = 0
  ·have hl0 : (natL gk).length = 0 := hlz.1.2 h0
   have HE := Lib.hid (show x = Nat.gcd n m by rw [← hgx, h0]; simp)
   rw [hl0]
   clear hx hox hoz hgx hlz hl0 h0 hbr
   go_wp2_with fail
   go_ret2
   exact ⟨_, rfl, by rw [← HE.out]; exact HX.out, HBR.out⟩
  ·have hl1 : (natL gk).length = 1 := hlz.2.2 (by omega)
   have HM := Lib.hid (Nat.mod_lt x (show 0 < gk by omega))
   have HG := Lib.hid (show Nat.gcd gk (x % gk) = Nat.gcd n m by rw [← hgx, Nat.gcd_comm x gk, Nat.gcd_rec gk x, Nat.gcd_comm gk (x % gk)])
   have HZ0 := Lib.hid (show 0 < gk by omega)
   rw [hl1] at LZ HZ ⊢
   clear hx hox hoz hgx hlz hl1 h0 hbr
   go_wp2_with fail
   refine (ndivide_any _ _ x gk _ LX.out LZ.out HZ0.out).mono ?_
   rintro e w6 ⟨q, r, rfl, hr, hb6⟩
   have HQ := Lib.hid (hr.mono (Fr.wider hsz (Nat.le_refl _)))
   have HZ6 := Lib.hid ((HZ.out.keep (w' := w6) (fun b hb => hb6.block b hb.2)).mono (Fr.wider (Nat.le_refl _) hb6.size))
   have HC6 := Lib.hid (HBR.out.trans (hb6.mono HBR.out.size))
   clear hr hb6
   go_wp2_with fail
   go_roundg (x % gk)
   case measure => exact HM.out
   case rel => exact ⟨⟨gk, HG.out, hz32, Nat.lt_trans HM.out hz32, HZ6.out, HQ.out⟩, HC6.out⟩
end Go.Proofs.YtmehadfhcdpfcaaGreat
