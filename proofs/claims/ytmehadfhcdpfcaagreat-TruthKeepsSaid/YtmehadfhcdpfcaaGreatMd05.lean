/- Rows that the call has built by appends. -/
import Derived.Test.YtmehadfhcdpfcaaGreatMd03
import Derived.Test.YtmehadfhcdpfcaaGreatMd04
namespace Go.Proofs.YtmehadfhcdpfcaaGreat
open Go.RowKit
set_option linter.unusedVariables false
set_option linter.unusedSimpArgs false
def rowC (q m c : Nat) : Value := .slice (some ⟨q, 0, none⟩) m c
structure RowsO (W : World) (B : Nat) (qs cs : List Nat) (t : Mat) (m : Nat) : Prop where
 len : qs.length = t.length
 lenc : cs.length = t.length
 inj : ∀ i j, i < t.length → j < t.length → qs.getD i 0 = qs.getD j 0 → i = j
 wide : Wide t m
 own : ∀ i, i < t.length → W.ownsRow B 5 1 (rowC (qs.getD i 0) m (cs.getD i 0)) m (bys (t.getD i []))
theorem own_lt {W : World} {B : Nat} {e : TypeId} {q n m c : Nat} {xs : List Value} (h : W.ownsRow B e 1 (rowC q n c) m xs) : B ≤ q ∧ q < W.heap.size := h.lt q rfl
theorem own_apart {W : World} {B B' : Nat} {e e' : TypeId} {s s' n n' g g' : Nat} {v v' : Value} {xs xs' : List Value} (h : W.ownsRow B e s v n xs) (h' : W.ownsRow B' e' s' v' n' xs') (he : e ≠ e') (hg : v.ownBlock = some g) (hg' : v'.ownBlock = some g') : g ≠ g' := by
 intro hgg
 subst hgg
 rcases h.2 with ⟨rfl, _⟩ | ⟨k, cap, cur, rfl, _, hh, _⟩
 ·simp [Value.ownBlock] at hg
 ·rcases h'.2 with ⟨rfl, _⟩ | ⟨k', cap', cur', rfl, _, hh', _⟩
  ·simp [Value.ownBlock] at hg'
  ·simp only [Value.ownBlock, Option.some.injEq] at hg hg'
   subst hg
   subst hg'
   rw [hh] at hh'
   injection hh' with hh'
   injection hh' with _ hh'
   exact he hh'
theorem RowsO.nil (W : World) (B m : Nat) : RowsO W B [] [] [] m := ⟨rfl, rfl, (fun i j hi => by cases hi), (fun r hr => by cases hr), (fun i hi => by cases hi)⟩
theorem RowsO.kept {W W' : World} {B : Nat} {qs cs : List Nat} {t : Mat} {m : Nat} (h : RowsO W B qs cs t m) {row : Option Nat} (hg : W.grownBy W' row) (hne : ∀ i, i < t.length → row ≠ some (qs.getD i 0)) : RowsO W' B qs cs t m :=
 ⟨h.len, h.lenc, h.inj, h.wide, fun i hi => (h.own i hi).kept hg (.inr fun e => hne i hi (by rw [← e]; rfl))⟩
theorem grown_of_below {W W' : World} (hb : Below W.heap.size W W') : W.grownBy W' none := ⟨hb.os, hb.tape, hb.output, hb.size, fun k hk _ => hb.block k hk⟩
theorem RowsO.below {W W' : World} {B : Nat} {qs cs : List Nat} {t : Mat} {m : Nat} (h : RowsO W B qs cs t m) (hb : Below W.heap.size W W') : RowsO W' B qs cs t m := h.kept (grown_of_below hb) (fun i hi e => by cases e)
theorem own_below {w w2 : World} {base : Nat} {e : TypeId} {size : Nat} {v : Value} {n : Nat} {xs : List Value} (h : w.ownsRow base e size v n xs) (hb : Below w.heap.size w w2) : w2.ownsRow base e size v n xs := by
 refine h.kept (w' := w2) (row := none) (grown_of_below hb) ?_
 cases hv : v.ownBlock with
 | none => exact .inl rfl
 | some g => exact .inr (by simp)
theorem own_base {W : World} {B B' : Nat} {e : TypeId} {s n : Nat} {v : Value} {xs : List Value} (h : W.ownsRow B e s v n xs) (hB : B' ≤ B) : W.ownsRow B' e s v n xs := by
 refine ⟨h.1, ?_⟩
 rcases h.2 with h1 | ⟨g, cap, cur, h1, h2, h3⟩
 ·exact .inl h1
 ·exact .inr ⟨g, cap, cur, h1, by omega, h3⟩
theorem RowsO.push {W : World} {B : Nat} {qs cs : List Nat} {t : Mat} {m : Nat} (h : RowsO W B qs cs t m) {q c : Nat} {r : List UInt8} (ho : W.ownsRow B 5 1 (rowC q m c) m (bys r)) (hr : r.length = m) (hq : ∀ i, i < t.length → qs.getD i 0 < q) : RowsO W B (qs ++ [q]) (cs ++ [c]) (t ++ [r]) m := by
 have hl := h.len
 have hlc := h.lenc
 have hlen : (t ++ [r]).length = t.length + 1 := by simp
 refine ⟨by simp [hl], by simp [hlc], ?_, ?_, ?_⟩
 ·intro i j hi hj e
  rw [hlen] at hi hj
  by_cases h1 : i < t.length
  ·by_cases h2 : j < t.length
   ·rw [getD_append_lt _ _ _ (by omega), getD_append_lt _ _ _ (by omega)] at e; exact h.inj i j h1 h2 e
   ·have h3 : j = t.length := by omega
    rw [getD_append_lt _ _ _ (by omega), h3, getD_last _ _ _ _ hl] at e
    have := hq i h1; omega
  ·have h3 : i = t.length := by omega
   by_cases h2 : j < t.length
   ·rw [getD_append_lt qs _ _ (i := j) (by omega), h3, getD_last _ _ _ _ hl] at e
    have := hq j h2; omega
   ·omega
 ·intro x hx
  rcases List.mem_append.1 hx with h1 | h1
  ·exact h.wide x h1
  ·rw [List.mem_singleton.1 h1]; exact hr
 ·intro i hi
  rw [hlen] at hi
  by_cases h1 : i < t.length
  ·rw [getD_append_lt _ _ _ (by omega), getD_append_lt _ _ _ (by omega), getD_append_lt _ _ _ h1]; exact h.own i h1
  ·have h3 : i = t.length := by omega
   rw [h3, getD_last _ _ _ _ hl, getD_last _ _ _ _ hlc, getD_last _ _ _ _ rfl]
   exact ho
theorem app_u8 {ops : Array Oper} {rest : List Oper} {o : Oper} {a : Act} {Q : Exit → Act → World → Prop} {w : World} {x0 : Value} (s x : Operand) (hgd : o.guard = none) (ho : o.op = .call { callee := .builtin .append, args := #[s, x], argTypes := #[88, 88] })
  (base : Nat) (v : Value) (n : Nat) (xs : List Value) (hs : a.eval s = v) (hown : w.ownsRow base 5 1 v n xs)
  (hx : a.eval x = .slice (some ⟨w.heap.size, 0, none⟩) 1 1) (h1 : x0.oneCell' = true) (hn : n + 1 ≤ 16777216) (hbase : base ≤ w.heap.size)
  (h : ∀ v' w', w'.ownsRow base 5 1 v' (n + 1) (xs ++ [x0]) → w.grownBy w' v.ownBlock → (v'.ownBlock = v.ownBlock ∨ v'.ownBlock = some (w.heap.size + 1)) → wpList Tryz.prog ops Q rest (a.put o.dst v') w') :
  wpList Tryz.prog ops Q (o :: rest) a (w.alloc (.cells #[x0] 5)) := by
 obtain ⟨i0, hi0, hz0, hz1, hz2⟩ := info_parts info_u8
 exact wpList_append1 hgd s x _ ho base i0 _ 1 1 Tryz.underlying88 hi0 hz0 hz1 hz2 rfl (by omega) (by omega) v n xs hs hown hx rfl (by simpa using h1) hn hbase h
theorem app_row {ops : Array Oper} {rest : List Oper} {o : Oper} {a : Act} {Q : Exit → Act → World → Prop} {w : World} {x0 : Value} (s x : Operand) (hgd : o.guard = none) (ho : o.op = .call { callee := .builtin .append, args := #[s, x], argTypes := #[87, 87] })
  (base : Nat) (v : Value) (n : Nat) (xs : List Value) (hs : a.eval s = v) (hown : w.ownsRow base 88 1 v n xs)
  (hx : a.eval x = .slice (some ⟨w.heap.size, 0, none⟩) 1 1) (h1 : x0.oneCell' = true) (hn : n + 1 ≤ 16777216) (hbase : base ≤ w.heap.size)
  (h : ∀ v' w', w'.ownsRow base 88 1 v' (n + 1) (xs ++ [x0]) → w.grownBy w' v.ownBlock → (v'.ownBlock = v.ownBlock ∨ v'.ownBlock = some (w.heap.size + 1)) → wpList Tryz.prog ops Q rest (a.put o.dst v') w') :
  wpList Tryz.prog ops Q (o :: rest) a (w.alloc (.cells #[x0] 88)) := by
 obtain ⟨i0, hi0, hz0, hz1, hz2⟩ := info_parts info_row
 exact wpList_append1 hgd s x _ ho base i0 _ 1 24 Tryz.underlying87 hi0 hz0 hz1 hz2 rfl (by omega) (by omega) v n xs hs hown hx rfl (by simpa using h1) hn hbase h
def codeB (k m : Int) : Bool := decide (1 ≤ k) && decide (k ≤ 6) && decide (0 ≤ m) && decide (m ≤ 4) && decide (k + m ≤ 8)
theorem codeB_iff (k m : Int) : codeB k m = true ↔ 1 ≤ k ∧ k ≤ 6 ∧ 0 ≤ m ∧ m ≤ 4 ∧ k + m ≤ 8 := by simp [codeB]; omega
theorem codeB_no {k m : Int} (h : ¬ (1 ≤ k ∧ k ≤ 6 ∧ 0 ≤ m ∧ m ≤ 4 ∧ k + m ≤ 8)) : codeB k m = false := by
 cases e : codeB k m with
 | false => rfl
 | true => exact absurd ((codeB_iff k m).1 e) h
theorem codeB_yes {k m : Int} (h : 1 ≤ k ∧ k ≤ 6 ∧ 0 ≤ m ∧ m ≤ 4 ∧ k + m ≤ 8) : codeB k m = true := (codeB_iff k m).2 h
set_option maxHeartbeats 800000 in
theorem ecode_any (k m : Int) (w : World) (hk : I64 k) (hm : I64 m) :
  Calls Tryz.prog 115 #[.int .i64 k, .int .i64 m] w fun e w' => e = .returned (.bool (codeB k m)) ∧ w = w' := by
 obtain ⟨k0, k1⟩ := hk
 obtain ⟨m0, m1⟩ := hm
 by_cases h1 : 1 ≤ k
 ·by_cases h2 : k ≤ 6
  ·by_cases h3 : 0 ≤ m
   ·by_cases h4 : m ≤ 4
    ·by_cases h5 : k + m ≤ 8
     ·rw [codeB_yes ⟨h1, h2, h3, h4, h5⟩]
      go_enter Tryz.func115, Tryz.ntmps115
      go_wp2
      go_ret
      exact ⟨rfl, rfl⟩
     ·rw [codeB_no (fun h => h5 h.2.2.2.2)]
      go_enter Tryz.func115, Tryz.ntmps115
      go_wp2
      go_ret
      exact ⟨rfl, rfl⟩
    ·rw [codeB_no (fun h => h4 h.2.2.2.1)]
     go_enter Tryz.func115, Tryz.ntmps115
     go_wp2
     go_ret
     exact ⟨rfl, rfl⟩
   ·rw [codeB_no (fun h => h3 h.2.2.1)]
    go_enter Tryz.func115, Tryz.ntmps115
    go_wp2
    go_ret
    exact ⟨rfl, rfl⟩
  ·rw [codeB_no (fun h => h2 h.2.1)]
   go_enter Tryz.func115, Tryz.ntmps115
   go_wp2
   go_ret
   exact ⟨rfl, rfl⟩
 ·rw [codeB_no (fun h => h1 h.1)]
  go_enter Tryz.func115, Tryz.ntmps115
  go_wp2
  go_ret
  exact ⟨rfl, rfl⟩
set_option maxHeartbeats 800000 in
theorem r07code_any (k m : Int) (w : World) (hk : I64 k) (hm : I64 m) :
  Calls Tryz.prog 66 #[.int .i64 k, .int .i64 m] w fun e w' => e = .returned (.bool (codeB k m)) ∧ w = w' := by
 obtain ⟨k0, k1⟩ := hk
 obtain ⟨m0, m1⟩ := hm
 by_cases h1 : 1 ≤ k
 ·by_cases h2 : k ≤ 6
  ·by_cases h3 : 0 ≤ m
   ·by_cases h4 : m ≤ 4
    ·by_cases h5 : k + m ≤ 8
     ·rw [codeB_yes ⟨h1, h2, h3, h4, h5⟩]
      go_enter Tryz.func66, Tryz.ntmps66
      go_wp2
      go_ret
      exact ⟨rfl, rfl⟩
     ·rw [codeB_no (fun h => h5 h.2.2.2.2)]
      go_enter Tryz.func66, Tryz.ntmps66
      go_wp2
      go_ret
      exact ⟨rfl, rfl⟩
    ·rw [codeB_no (fun h => h4 h.2.2.2.1)]
     go_enter Tryz.func66, Tryz.ntmps66
     go_wp2
     go_ret
     exact ⟨rfl, rfl⟩
   ·rw [codeB_no (fun h => h3 h.2.2.1)]
    go_enter Tryz.func66, Tryz.ntmps66
    go_wp2
    go_ret
    exact ⟨rfl, rfl⟩
  ·rw [codeB_no (fun h => h2 h.2.1)]
   go_enter Tryz.func66, Tryz.ntmps66
   go_wp2
   go_ret
   exact ⟨rfl, rfl⟩
 ·rw [codeB_no (fun h => h1 h.1)]
  go_enter Tryz.func66, Tryz.ntmps66
  go_wp2
  go_ret
  exact ⟨rfl, rfl⟩
def levelB (t : Mat) : Bool := t.all fun r => r.length == (t.getD 0 []).length
theorem levelB_yes {t : Mat} {m : Nat} (h : Wide t m) : levelB t = true := by
 unfold levelB
 rw [List.all_eq_true]
 intro r hr
 have h1 := h r hr
 have h0 : 0 < t.length := List.length_pos_of_mem hr
 have h2 : (t.getD 0 []).length = m := h.getD h0
 rw [h1, h2]; simp
theorem levelB_wide {t : Mat} (h : levelB t = true) : Wide t (t.getD 0 []).length := by
 unfold levelB at h
 rw [List.all_eq_true] at h
 intro r hr
 simpa using h r hr
set_option maxHeartbeats 800000 in
theorem level_any (vt : Value) (t : Mat) (w : World) (ht : MatS w (Bl w.heap.size) vt t) :
  Calls Tryz.prog 116 #[vt] w fun e w' => e = .returned (.bool (levelB t)) ∧ w = w' := by
 obtain ⟨At, ct, rfl, hct, hmt⟩ := ht.form
 unfold maxLen at hmt
 go_enter Tryz.func116, Tryz.ntmps116
 go_wp2
 go_loop [7] (fun v7 => ∃ j : Nat, j ≤ t.length ∧ v7 = .int .i64 (j : Int) ∧ Hid (∀ i (h : i < t.length), i < j → t[i].length = (t.getD 0 []).length)) (fun v7 => t.length - (intOf v7).toNat)
 case atStart => exact ⟨0, by omega, rfl, fun i _ h => by omega⟩
 case round =>
  obtain ⟨j, hj, rfl, HQ⟩ := hrel
  by_cases hlt : j < t.length
  ·obtain ⟨b, o, va, rfl, hR, c1, hva⟩ := ht.at_ hlt
   obtain ⟨b0, o0, v0, hA0, hR0, c0, hv0⟩ := ht.at_ (k := 0) (by omega)
   obtain ⟨rfl, rfl⟩ : b = b0 ∧ o = o0 := by injection hA0 with h; injection h with h1 h2; exact ⟨h1, h2⟩
   obtain ⟨A1, c1', rfl, -, hm1⟩ := hva.form
   obtain ⟨A2, c2', rfl, -, hm2⟩ := hv0.form
   unfold maxLen at hm1 hm2
   have h0 := congrArg List.length (getD_lt t [] (i := 0) (by omega))
   rw [Nat.add_zero] at c0
   obtain ⟨q, hq⟩ : ∃ q, q = t[j].length := ⟨_, rfl⟩
   obtain ⟨p, hp⟩ : ∃ p, p = (t[0]'(by omega)).length := ⟨_, rfl⟩
   rw [← hq] at c1 hm1
   rw [← hp] at c0 hm2 h0
   have HP := Lib.hid h0
   have HQJ := Lib.hid hq
   clear hA0 h0 hq hp hva hv0
   by_cases hqp : q = p
   ·have e1 : ((q : Int) != (p : Int)) = false := by simp [hqp]
    have HE := Lib.hid hqp
    clear hqp
    go_wp2
    exact ⟨⟨j + 1, by omega, by go_num, fun i hi h => by
     by_cases e : i = j
     ·subst e; rw [HP.out, ← HQJ.out, HE.out]
     ·exact HQ.out i hi (by omega)⟩, by simp [intOf]; omega⟩
   ·have e1 : ((q : Int) != (p : Int)) = true := by simp; omega
    have hno : levelB t = false := by
     cases e : levelB t with
     | false => rfl
     | true =>
      have h := levelB_wide e _ (List.getElem_mem hlt)
      rw [HP.out, ← HQJ.out] at h
      exact absurd h hqp
    have HNO := Lib.hid hno
    clear hqp hno
    go_wp2
    go_ret
    rw [HNO.out]
    exact ⟨rfl, rfl⟩
  ·have hyes : levelB t = true := levelB_yes (m := (t.getD 0 []).length) fun r hr => by
    obtain ⟨i, hi, rfl⟩ := List.getElem_of_mem hr
    exact HQ.out i hi (by omega)
   have HY := Lib.hid hyes
   clear hyes
   go_wp2
   go_ret
   rw [HY.out]
   exact ⟨rfl, rfl⟩
def wordT (k n : Nat) (d : Mat) (m : Nat) : Mat := (List.range n).map fun a => combT (coefR k a) d m
theorem wordT_length (k n : Nat) (d : Mat) (m : Nat) : (wordT k n d m).length = n := by simp [wordT]
theorem wordT_wide (k n : Nat) (d : Mat) (m : Nat) : Wide (wordT k n d m) m := by
 intro r hr
 simp only [wordT, List.mem_map] at hr
 obtain ⟨a, -, rfl⟩ := hr
 exact combT_length _ _ _
theorem wordT_getD (k n : Nat) (d : Mat) (m a : Nat) (h : a < n) : (wordT k n d m).getD a [] = combT (coefR k a) d m := by
 rw [getD_lt _ _ (by rw [wordT_length]; exact h)]; simp [wordT]
def OwnM (w : World) (base : Nat) (v : Value) (t : Mat) : Prop := ∃ xs, w.ownsRow base 88 1 v t.length xs ∧ ∀ j, j < t.length → ByS w (fun b => b < w.heap.size ∧ v.ownBlock ≠ some b) (xs.getD j undef) (t.getD j [])
theorem OwnM.nil (w : World) (base : Nat) : OwnM w base (.slice none 0 0) [] := ⟨[], World.ownsRow_nil _ _ _ _, fun j hj => by cases hj⟩
theorem OwnM.form {w : World} {base : Nat} {v : Value} {t : Mat} (h : OwnM w base v t) : ∃ A c, v = .slice A t.length c := by
 obtain ⟨xs, ho, -⟩ := h
 exact own_form ho
theorem OwnM.below {w w2 : World} {base : Nat} {v : Value} {t : Mat} (h : OwnM w base v t) (hb : Below w.heap.size w w2) : OwnM w2 base v t := by
 obtain ⟨xs, ho, hc⟩ := h
 exact ⟨xs, own_below ho hb, fun j hj => ((hc j hj).keep (fun b hbb => hb.block b hbb.1)).mono (fun b hbb => ⟨Nat.lt_of_lt_of_le hbb.1 hb.size, hbb.2⟩)⟩
theorem OwnM.matS {w : World} {base : Nat} {v : Value} {t : Mat} (h : OwnM w base v t) : MatS w (Bl w.heap.size) v t := by
 obtain ⟨xs, ho, hc⟩ := h
 have hxl : xs.length = t.length := by have := ho.1; omega
 rcases ho.2 with ⟨rfl, h0⟩ | ⟨g, cap, cur, rfl, hg0, hg1, h2, h3, hg2⟩
 ·unfold MatS; rw [h0]; exact Row.nil _ _ _
 ·have ho' : w.ownsRow base 88 1 (rowC g t.length cap) t.length xs := ho
  refine ⟨_, cap, rfl, h2, Nat.le_trans h2 h3, fun _ => ⟨g, 0, rfl, (own_lt ho').2, fun k r hk => ?_⟩⟩
  have hj : k < t.length := (List.getElem?_eq_some_iff.1 hk).1
  have hx : t[k] = r := (List.getElem?_eq_some_iff.1 hk).2
  have h1 := hc k hj
  rw [getD_lt t [] hj, hx] at h1
  refine ⟨xs.getD k undef, ?_, h1.mono (fun b hb => hb.1)⟩
  rw [Nat.zero_add, ho.cellAt k (by omega), List.getElem?_eq_getElem (by omega), getD_lt _ _ (by omega)]
theorem OwnM.push {w w' : World} {base : Nat} {v v' va : Value} {t : Mat} {r : List UInt8} {xs : List Value} (ho : w.ownsRow base 88 1 v t.length xs) (hc : ∀ j, j < t.length → ByS w (fun b => b < w.heap.size ∧ v.ownBlock ≠ some b) (xs.getD j undef) (t.getD j []))
  (ha : ByS w (fun b => b < w.heap.size ∧ v.ownBlock ≠ some b) va r)
  (ho' : w'.ownsRow base 88 1 v' (t.length + 1) (xs ++ [va])) (hg : w.grownBy w' v.ownBlock) (hat : v'.ownBlock = v.ownBlock ∨ v'.ownBlock = some (w.heap.size + 1)) : OwnM w' base v' (t ++ [r]) := by
 have hxl : xs.length = t.length := by have := ho.1; omega
 have hR : ∀ b, (b < w.heap.size ∧ v.ownBlock ≠ some b) → (b < w'.heap.size ∧ v'.ownBlock ≠ some b) := fun b hb => ⟨Nat.lt_of_lt_of_le hb.1 hg.size, by
  rcases hat with e | e
  ·rw [e]; exact hb.2
  ·rw [e]; intro e2; injection e2 with e2; have := hb.1; omega⟩
 have hkp : Kept (fun b => b < w.heap.size ∧ v.ownBlock ≠ some b) w w' := fun b hb => hg.block b hb.1 (fun e => hb.2 e.symm)
 refine ⟨xs ++ [va], by rw [List.length_append]; exact ho', fun j hj => ?_⟩
 rw [List.length_append, List.length_singleton] at hj
 by_cases h1 : j < t.length
 ·rw [getD_append_lt _ _ _ (by omega), getD_append_lt _ _ _ h1]
  exact ((hc j h1).keep hkp).mono hR
 ·have h2 : j = t.length := by omega
  rw [h2, getD_last _ _ _ _ hxl, getD_last _ _ _ _ rfl]
  exact (ha.keep hkp).mono hR
theorem wordT_succ (k a : Nat) (d : Mat) (m : Nat) : wordT k (a + 1) d m = wordT k a d m ++ [combT (coefR k a) d m] := by simp [wordT, List.range_succ]
theorem Fr.sub {w : World} {B n : Nat} {v : Value} {b : Nat} (hb : Fr B n b) (ho : ∀ k, v.ownBlock = some k → k < B) : v.ownBlock ≠ some b := fun e => by have := ho b e; have := hb.1; omega
set_option maxRecDepth 100000 in
set_option maxHeartbeats 1600000 in
theorem word_any (k n : Nat) (vd : Value) (d : Mat) (m : Nat) (w : World) (hk : d.length = k) (h0 : 0 < k) (hk6 : k ≤ 32) (hn : n ≤ 32) (hd : MatS w (Bl w.heap.size) vd d) (hw : Wide d m) (hm : m ≤ 65536) :
  Calls Tryz.prog 120 #[.int .i64 (k : Int), .int .i64 (n : Int), vd] w fun e w' => ∃ v, e = .returned v ∧ MatS w' (Bl w'.heap.size) v (wordT k (k + n) d m) ∧ Below w.heap.size w w' := by
 obtain ⟨i0, hi0, hz0, hz1, hz2⟩ := info_parts info_row
 obtain ⟨w1, hrun, hown1, hgr1⟩ := run_makeSlice_owned (P := Tryz.prog) w w.heap.size 87 88 i0 _ 1 Tryz.underlying87 hi0 hz0 hz1 .i64 .i64 (k + n) (by omega) (by rw [hz2]; omega) (by unfold maxLen; omega) (Nat.le_refl _)
 have hb1 : Below w.heap.size w w1 := ⟨hgr1.os, hgr1.tape, hgr1.output, hgr1.size, fun i hi => hgr1.block i hi (by simp)⟩
 have ekn : ((k + n : Nat) : Int) = (k : Int) + (n : Int) := by omega
 rw [ekn] at hrun
 have HK := Lib.hid hk
 clear hgr1 hk ekn
 go_enter Tryz.func120, Tryz.ntmps120
 go_wp2
 go_loopg [7, 8] (k + n) (fun z v7 v8 wr => ∃ a : Nat, a ≤ k + n ∧ z = k + n - a ∧ v8 = .int .i64 (a : Int) ∧ OwnM wr w.heap.size v7 (wordT k a d m) ∧ Below w.heap.size w wr)
 case atStart => exact ⟨0, by omega, rfl, rfl, ⟨[], by rw [wordT_length]; exact hown1, fun j hj => by rw [wordT_length] at hj; omega⟩, hb1⟩
 case round =>
  clear hown1 hb1 hrun
  obtain ⟨a, ha, rfl, rfl, hO, hb⟩ := hrel
  have hsz := hb.size
  obtain ⟨A7, c7, hv7⟩ := hO.form
  rw [wordT_length] at hv7
  subst hv7
  by_cases hlt : a < k + n
  ·have hlt2 : (a : Int) < (k : Int) + (n : Int) := by omega
   go_wp2_with fail
   refine (coefficients_any k a wr (by omega) (by omega)).mono ?_
   rintro e w2 ⟨vc, rfl, hvc, hb2⟩
   have hd2 := (hd.below hb).below hb2
   obtain ⟨Ac, cc, hvc2, -, -⟩ := hvc.form
   rw [coefR_length] at hvc2
   subst hvc2
   have hcb := combine_any _ _ _ _ m w2 (hvc.mono Fr.bl) hd2 (by rw [coefR_length, HK.out]) (by rw [HK.out]; exact h0) (by rw [HK.out]; omega) hw hm
   have HCB := Lib.hid hcb
   clear hcb hd2 hvc
   go_wp2_with fail
   refine HCB.out.mono ?_
   rintro e w3 ⟨v3, rfl, hv3, hb3⟩
   have hO3 := (hO.below hb2).below hb3
   have hb13 := hb2.trans (hb3.mono hb2.size)
   obtain ⟨A3, c3, hv32, -, -⟩ := hv3.form
   rw [combT_length] at hv32
   subst hv32
   obtain ⟨xs, ho3, hc3⟩ := hO3
   obtain ⟨xs0, ho0, -⟩ := hO
   have hown0 := ho0.lt
   have hsz3 := Nat.le_trans hsz hb13.size
   rw [wordT_length] at ho3
   have hone : (Value.slice A3 m c3).oneCell' = true := rfl
   clear ho0 xs0
   go_wp2_with (at_builtin; refine app_row (.tmp 30) (.tmp 32) rfl rfl _ _ _ _ (by rfl) ho3 (by rfl) hone (by omega) hsz3 ?_; intro v' w4 hown' hg hat)
   go_roundg (k + n - (a + 1))
   case measure => omega
   case rel =>
    refine ⟨a + 1, by omega, rfl, by go_num, ?_, (hb.trans (hb13.mono hsz)).grown hg hsz3 (fun b h => (ho3.lt b h).1)⟩
    rw [wordT_succ]
    refine OwnM.push (by rw [wordT_length]; exact ho3) hc3 (hv3.mono (fun b hb => ⟨hb.2, Fr.sub (w := w3) hb (fun q hq => Nat.lt_of_lt_of_le (hown0 q hq).2 hb2.size)⟩)) (by rw [wordT_length]; exact hown') hg hat
  ·have haI : Hid (a = k + n) := (by omega : a = k + n)
   have hlt2 : ¬ (a : Int) < (k : Int) + (n : Int) := by omega
   go_wp2
   go_ret
   have h := hO.matS
   rw [haI.out] at h
   exact ⟨_, rfl, by rw [haI.out]; exact h, hb⟩
structure Frg where
 idx : Int
 data : List UInt8
def FragAt (w : World) (R : Nat → Prop) (hs : List Frg) (b off : Nat) : Prop :=
 ∀ k h, hs[k]? = some h → ∃ va, w.cell? ⟨b, off + k * 2, none⟩ = some (.int .i64 h.idx) ∧ w.cell? ⟨b, off + k * 2 + 1, none⟩ = some va ∧ ByS w R va h.data
def FragS (w : World) (R : Nat → Prop) (v : Value) (hs : List Frg) : Prop := Row R v hs.length (FragAt w R hs) ∧ ∀ h ∈ hs, I64 h.idx
theorem FragS.keep {w w' : World} {R : Nat → Prop} {v : Value} {hs : List Frg} (h : FragS w R v hs) (hk : Kept R w w') : FragS w' R v hs :=
 ⟨h.1.imp (fun _ hb => hb) fun b off hb hc k r hr => by
  obtain ⟨va, h1, h2, h3⟩ := hc k r hr
  exact ⟨va, (hk.cell hb).trans h1, (hk.cell hb).trans h2, h3.keep hk⟩, h.2⟩
theorem FragS.mono {w : World} {R R' : Nat → Prop} {v : Value} {hs : List Frg} (h : FragS w R v hs) (hr : ∀ b, R b → R' b) : FragS w R' v hs :=
 ⟨h.1.imp hr fun b off _ hc k r hk => by
  obtain ⟨va, h1, h2, h3⟩ := hc k r hk
  exact ⟨va, h1, h2, h3.mono hr⟩, h.2⟩
theorem FragS.below {w w' : World} {v : Value} {hs : List Frg} (h : FragS w (Bl w.heap.size) v hs) (hb : Below w.heap.size w w') : FragS w' (Bl w'.heap.size) v hs := (h.keep (kept_below hb)).mono (Bl.mono hb.size)
theorem FragS.form {w : World} {R : Nat → Prop} {v : Value} {hs : List Frg} (h : FragS w R v hs) : ∃ A c, v = .slice A hs.length c ∧ hs.length ≤ c ∧ hs.length ≤ maxLen := by
 obtain ⟨⟨A', c', e, h1, h2, h3⟩, h4⟩ := h
 exact ⟨A', c', e, h1, h2⟩
theorem FragS.at_ {w : World} {R : Nat → Prop} {A : Option Addr} {n c : Nat} {hs : List Frg} (h : FragS w R (.slice A n c) hs) {k : Nat} (hk : k < hs.length) :
  ∃ b off va, A = some ⟨b, off, none⟩ ∧ R b ∧ w.cell? ⟨b, off + k * 2, none⟩ = some (.int .i64 hs[k].idx) ∧ w.cell? ⟨b, off + k * 2 + 1, none⟩ = some va ∧ ByS w R va hs[k].data ∧ I64 hs[k].idx := by
 obtain ⟨⟨A', c', e, _, _, h3⟩, h4⟩ := h
 obtain ⟨b, off, e2, hb, hc⟩ := h3 (by omega)
 obtain ⟨va, g1, g2, g3⟩ := hc k hs[k] (List.getElem?_eq_getElem hk)
 injection e with e
 exact ⟨b, off, va, e.trans e2, hb, g1, g2, g3, h4 _ (List.getElem_mem hk)⟩
def outB (n : Int) (h : Frg) : Bool := decide (h.idx < 0) || decide (n ≤ h.idx)
def idxBad (n : Int) (hs : List Frg) : Bool := hs.any (outB n)
def idxL (hs : List Frg) : List Nat := hs.map fun h => h.idx.toNat
def dupB (hs : List Frg) : Bool := !decide (idxL hs).Nodup
def datas (hs : List Frg) : Mat := hs.map (·.data)
def rowLen (hs : List Frg) : Nat := ((datas hs).getD 0 []).length
def matK (k : Nat) (hs : List Frg) : Mat := ((idxL hs).take k).map (coefR k)
def decD (k : Nat) (hs : List Frg) : Mat := (List.range k).map fun i => combT ((invT (matK k hs)).getD i []) ((datas hs).take k) (rowLen hs)
def okW (k n : Nat) (hs : List Frg) : Bool := hs.all fun h => (wordT k n (decD k hs) (rowLen hs)).getD h.idx.toNat [] == h.data
def decE (k m : Int) (hs : List Frg) : Int :=
 if codeB k m = false then 1 else if idxBad (k + m) hs = true then 1 else if dupB hs = true then 8 else if (hs.length : Int) < k then 10
 else if levelB (datas hs) = false then 11 else if okW k.toNat (k + m).toNat hs = false then 11 else 0
theorem decD_length (k : Nat) (hs : List Frg) : (decD k hs).length = k := by simp [decD]
theorem decD_wide (k : Nat) (hs : List Frg) : Wide (decD k hs) (rowLen hs) := by
 intro r hr
 simp only [decD, List.mem_map] at hr
 obtain ⟨a, -, rfl⟩ := hr
 exact combT_length _ _ _
theorem datas_length (hs : List Frg) : (datas hs).length = hs.length := by simp [datas]
theorem idxL_length (hs : List Frg) : (idxL hs).length = hs.length := by simp [idxL]
theorem datas_getElem (hs : List Frg) (i : Nat) (h : i < hs.length) : (datas hs)[i]'(by rw [datas_length]; exact h) = hs[i].data := by simp [datas]
theorem idx_in {n : Int} {hs : List Frg} (h : idxBad n hs = false) : ∀ i (hi : i < hs.length), 0 ≤ hs[i].idx ∧ hs[i].idx < n := by
 intro i hi
 unfold idxBad at h
 have := List.any_eq_false.1 h hs[i] (List.getElem_mem hi)
 simp [outB] at this
 omega
theorem matK_length {k : Nat} {hs : List Frg} (h : k ≤ hs.length) : (matK k hs).length = k := by simp [matK, idxL_length]; omega
theorem matK_wide (k : Nat) (hs : List Frg) : Wide (matK k hs) k := by
 intro r hr
 simp only [matK, List.mem_map] at hr
 obtain ⟨a, -, rfl⟩ := hr
 exact coefR_length _ _
theorem matK_getD {k : Nat} {hs : List Frg} (h : k ≤ hs.length) (i : Nat) (hi : i < k) : (matK k hs).getD i [] = coefR k (hs[i]'(by omega)).idx.toNat := by
 rw [getD_lt _ _ (by rw [matK_length h]; exact hi)]
 simp [matK, idxL]
theorem matK_inj {k m : Int} {hs : List Frg} (hc : codeB k m = true) (hi : idxBad (k + m) hs = false) (hd : dupB hs = false) (hl : ¬ (hs.length : Int) < k) : Inj (matK k.toNat hs) := by
 have hk := (codeB_iff k m).1 hc
 have hn : (idxL hs).Nodup := by simpa [dupB] using hd
 refine coef_inj k.toNat _ (by omega) (by rw [List.length_take, idxL_length]; omega) (hn.sublist (List.take_sublist _ _)) fun a ha => ?_
 have ha2 := List.mem_of_mem_take ha
 simp only [idxL, List.mem_map] at ha2
 obtain ⟨h, hh, rfl⟩ := ha2
 obtain ⟨i, hi2, rfl⟩ := List.getElem_of_mem hh
 have := idx_in hi i hi2
 omega
theorem decE_code {k m : Int} {hs : List Frg} (h : codeB k m = false) : decE k m hs = 1 := by unfold decE; rw [if_pos h]
theorem decE_idx {k m : Int} {hs : List Frg} (h : codeB k m = true) (h2 : idxBad (k + m) hs = true) : decE k m hs = 1 := by unfold decE; rw [if_neg (by simp [h]), if_pos h2]
theorem decE_dup {k m : Int} {hs : List Frg} (h : codeB k m = true) (h2 : idxBad (k + m) hs = false) (h3 : dupB hs = true) : decE k m hs = 8 := by unfold decE; rw [if_neg (by simp [h]), if_neg (by simp [h2]), if_pos h3]
theorem decE_short {k m : Int} {hs : List Frg} (h : codeB k m = true) (h2 : idxBad (k + m) hs = false) (h3 : dupB hs = false) (h4 : (hs.length : Int) < k) : decE k m hs = 10 := by unfold decE; rw [if_neg (by simp [h]), if_neg (by simp [h2]), if_neg (by simp [h3]), if_pos h4]
theorem decE_level {k m : Int} {hs : List Frg} (h : codeB k m = true) (h2 : idxBad (k + m) hs = false) (h3 : dupB hs = false) (h4 : ¬ (hs.length : Int) < k) (h5 : levelB (datas hs) = false) : decE k m hs = 11 := by unfold decE; rw [if_neg (by simp [h]), if_neg (by simp [h2]), if_neg (by simp [h3]), if_neg h4, if_pos h5]
theorem decE_word {k m : Int} {hs : List Frg} (h : codeB k m = true) (h2 : idxBad (k + m) hs = false) (h3 : dupB hs = false) (h4 : ¬ (hs.length : Int) < k) (h5 : levelB (datas hs) = true) (h6 : okW k.toNat (k + m).toNat hs = false) : decE k m hs = 11 := by unfold decE; rw [if_neg (by simp [h]), if_neg (by simp [h2]), if_neg (by simp [h3]), if_neg h4, if_neg (by simp [h5]), if_pos h6]
theorem decE_ok {k m : Int} {hs : List Frg} (h : codeB k m = true) (h2 : idxBad (k + m) hs = false) (h3 : dupB hs = false) (h4 : ¬ (hs.length : Int) < k) (h5 : levelB (datas hs) = true) (h6 : okW k.toNat (k + m).toNat hs = true) : decE k m hs = 0 := by unfold decE; rw [if_neg (by simp [h]), if_neg (by simp [h2]), if_neg (by simp [h3]), if_neg h4, if_neg (by simp [h5]), if_neg (by simp [h6])]
end Go.Proofs.YtmehadfhcdpfcaaGreat
