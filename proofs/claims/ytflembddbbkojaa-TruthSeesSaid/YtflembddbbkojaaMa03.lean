/- Rows that the call has built by appends. -/
import Derived.Test.YtflembddbbkojaaMa02
import Derived.Test.YtflembddbbkojaaMa01
import Derived.Test.YtflembddbbkojaaRows
import Derived.ProofKit
import Derived.Deep.LoopGhost
namespace Go.Proofs.Ytflembddbbkojaa
open Go.RowKit
set_option linter.unusedVariables false
set_option linter.unusedSimpArgs false
def rowC (q m c : Nat) : Value := .slice (some ⟨q, 0, none⟩) m c
structure RowsO (W : World) (B : Nat) (qs cs : List Nat) (t : Mat) (m : Nat) : Prop where
  len : qs.length = t.length
  lenc : cs.length = t.length
  inj : ∀ i j, i < t.length → j < t.length → qs.getD i 0 = qs.getD j 0 → i = j
  wide : Wide t m
  own : ∀ i, i < t.length → W.ownsRow B 5 1 (rowC (qs.getD i 0) m (cs.getD i 0)) m (bys (t.getD i []))
theorem own_lt {W : World} {B : Nat} {e : TypeId} {q n m c : Nat} {xs : List Value} (h : W.ownsRow B e 1 (rowC q n c) m xs) : B ≤ q ∧ q < W.heap.size := h.lt q rfl
theorem own_cap {W : World} {B : Nat} {e : TypeId} {q m c : Nat} {xs : List Value} (h : W.ownsRow B e 1 (rowC q m c) m xs) : m ≤ c := by
  rcases h.2 with ⟨h', _⟩ | ⟨g', cap', cur, h', _, _, h2, _⟩
  · simp [rowC] at h'
  · simp only [rowC, Value.slice.injEq] at h'
    omega
/-- Rows of elements of two types lie in two blocks. -/
theorem own_apart {W : World} {B B' : Nat} {e e' : TypeId} {s s' n n' g g' : Nat} {v v' : Value} {xs xs' : List Value} (h : W.ownsRow B e s v n xs) (h' : W.ownsRow B' e' s' v' n' xs') (he : e ≠ e') (hg : v.ownBlock = some g) (hg' : v'.ownBlock = some g') : g ≠ g' := by
  intro hgg
  subst hgg
  rcases h.2 with ⟨rfl, _⟩ | ⟨k, cap, cur, rfl, _, hh, _⟩
  · simp [Value.ownBlock] at hg
  · rcases h'.2 with ⟨rfl, _⟩ | ⟨k', cap', cur', rfl, _, hh', _⟩
    · simp [Value.ownBlock] at hg'
    · simp only [Value.ownBlock, Option.some.injEq] at hg hg'
      subst hg
      subst hg'
      rw [hh] at hh'
      injection hh' with hh'
      injection hh' with _ hh'
      exact he hh'
theorem RowsO.nil (W : World) (B m : Nat) : RowsO W B [] [] [] m := ⟨rfl, rfl, (fun i j hi => by cases hi), (fun r hr => by cases hr), (fun i hi => by cases hi)⟩
theorem RowsO.kept {W W' : World} {B : Nat} {qs cs : List Nat} {t : Mat} {m : Nat} (h : RowsO W B qs cs t m) {row : Option Nat} (hg : W.grownBy W' row) (hne : ∀ i, i < t.length → row ≠ some (qs.getD i 0)) : RowsO W' B qs cs t m :=
  ⟨h.len, h.lenc, h.inj, h.wide, fun i hi => (h.own i hi).kept hg (.inr fun e => hne i hi (by rw [← e]; rfl))⟩
theorem grown_of_below {W W' : World} (hb : Below W.heap.size W W') : W.grownBy W' none := ⟨hb.os, hb.tape, hb.output, hb.size, fun k hk _ => hb.block k hk⟩
theorem RowsO.below {W W' : World} {B : Nat} {qs cs : List Nat} {t : Mat} {m : Nat} (h : RowsO W B qs cs t m) (hb : Below W.heap.size W W') : RowsO W' B qs cs t m := h.kept (grown_of_below hb) (fun i hi e => by cases e)
theorem own_below {w w2 : World} {base : Nat} {e : TypeId} {size : Nat} {v : Value} {n : Nat} {xs : List Value} (h : w.ownsRow base e size v n xs) (hb : Below w.heap.size w w2) : w2.ownsRow base e size v n xs := by
  refine h.kept (w' := w2) (row := none) (grown_of_below hb) ?_
  cases hv : v.ownBlock with
  | none => exact .inl rfl
  | some g => exact .inr (by simp)
theorem own_base {W : World} {B B' : Nat} {e : TypeId} {s n : Nat} {v : Value} {xs : List Value} (h : W.ownsRow B e s v n xs) (hB : B' ≤ B) : W.ownsRow B' e s v n xs := by
  refine ⟨h.1, ?_⟩
  rcases h.2 with h1 | ⟨g, cap, cur, h1, h2, h3⟩
  · exact .inl h1
  · exact .inr ⟨g, cap, cur, h1, by omega, h3⟩
theorem RowsO.push {W : World} {B : Nat} {qs cs : List Nat} {t : Mat} {m : Nat} (h : RowsO W B qs cs t m) {q c : Nat} {r : List UInt8} (ho : W.ownsRow B 5 1 (rowC q m c) m (bys r)) (hr : r.length = m) (hq : ∀ i, i < t.length → qs.getD i 0 < q) : RowsO W B (qs ++ [q]) (cs ++ [c]) (t ++ [r]) m := by
  have hl := h.len
  have hlc := h.lenc
  have hlen : (t ++ [r]).length = t.length + 1 := by simp
  refine ⟨by simp [hl], by simp [hlc], ?_, ?_, ?_⟩
  · intro i j hi hj e
    rw [hlen] at hi hj
    by_cases h1 : i < t.length
    · by_cases h2 : j < t.length
      · rw [getD_append_lt _ _ _ (by omega), getD_append_lt _ _ _ (by omega)] at e; exact h.inj i j h1 h2 e
      · have h3 : j = t.length := by omega
        rw [getD_append_lt _ _ _ (by omega), h3, getD_last _ _ _ _ hl] at e
        have := hq i h1; omega
    · have h3 : i = t.length := by omega
      by_cases h2 : j < t.length
      · rw [getD_append_lt qs _ _ (i := j) (by omega), h3, getD_last _ _ _ _ hl] at e
        have := hq j h2; omega
      · omega
  · intro x hx
    rcases List.mem_append.1 hx with h1 | h1
    · exact h.wide x h1
    · rw [List.mem_singleton.1 h1]; exact hr
  · intro i hi
    rw [hlen] at hi
    by_cases h1 : i < t.length
    · rw [getD_append_lt _ _ _ (by omega), getD_append_lt _ _ _ (by omega), getD_append_lt _ _ _ h1]; exact h.own i h1
    · have h3 : i = t.length := by omega
      rw [h3, getD_last _ _ _ _ hl, getD_last _ _ _ _ hlc, getD_last _ _ _ _ rfl]
      exact ho
theorem RowsO.matX {W : World} {B g n cap : Nat} {qs cs : List Nat} {t : Mat} {m : Nat} {xs : List Value} (h : RowsO W B qs cs t m) (ho : W.ownsRow B 71 1 (rowC g n cap) n xs) (hn : n = t.length) (hx : ∀ i, i < n → xs.getD i undef = rowC (qs.getD i 0) m (cs.getD i 0)) : MatX W B g qs cs t m := by
  have hxl : xs.length = n * 1 := ho.1
  refine ⟨fun i hi => ⟨?_, ho.frozenAt i⟩, h.len, h.lenc, h.inj, fun i hi j hj => ⟨?_, (h.own i hi).frozenAt j⟩, h.wide, fun i hi => (own_lt (h.own i hi)).1, (own_lt ho).1, ?_, fun i hi => own_cap (h.own i hi)⟩
  · rw [ho.cellAt i (by omega), List.getElem?_eq_getElem (by omega), ← getD_lt xs undef (by omega), hx i (by omega)]; rfl
  · have hw := h.wide.getD hi
    rw [(h.own i hi).cellAt j (by omega)]
    unfold en
    rw [getD_lt _ 0 (by omega)]
    unfold bys
    rw [List.getElem?_map, List.getElem?_eq_getElem (by omega)]
    rfl
  · intro i hi
    exact fun e => own_apart (h.own i hi) ho (by decide) (g := qs.getD i 0) (g' := g) rfl rfl e
/-- 'append([]byte(nil), x...)': a copy of bytes, owned. -/
theorem app_copyO {ops : Array Oper} {rest : List Oper} {o : Oper} {a : Act} {Q : Exit → Act → World → Prop} {w : World} (s x : Operand) (hgd : o.guard = none) (ho : o.op = .call { callee := .builtin .append, args := #[s, x], argTypes := #[71, 71] })
    (l : List UInt8) (b off n c : Nat) (hs : a.eval s = .slice none 0 0) (hx : a.eval x = .slice (some ⟨b, off, none⟩) n c) (hnl : l.length = n) (hcell : ∀ j (h : j < l.length), w.cell? ⟨b, off + j, none⟩ = some (.int .u8 (l[j].toNat : Int))) (hn : l.length ≤ 65536)
    (h : ∀ v' w', w'.ownsRow w.heap.size 5 1 v' n (bys l) → Below w.heap.size w w' → wpList Try.prog ops Q rest (a.put o.dst v') w') :
    wpList Try.prog ops Q (o :: rest) a w := by
  subst hnl
  obtain ⟨i0, hi0, hz0, hz1, hz2⟩ := info_parts info_u8
  refine wpList_append_own_at (P := Try.prog) _ hgd s x _ ho w.heap.size _ i0 _ 1 1 Try.underlying71 hi0 hz0 hz1 hz2 rfl (by omega) (.slice none 0 0) 0 [] hs (World.ownsRow_nil _ _ _ _) ⟨b, off, none⟩ l.length c (bys l) hx (by simp [bys]) ?_ ?_ (by unfold maxLen; omega) (by omega) (Nat.le_refl _) ?_
  · intro j u hj
    have hjl : j < l.length := by have := (List.getElem?_eq_some_iff.1 hj).1; simpa [bys] using this
    have e1 : (⟨b, off, none⟩ : Addr).add j = ⟨b, off + j, none⟩ := by unfold Addr.add; split <;> simp_all
    rw [e1, hcell j hjl]
    simpa [bys, hjl] using hj
  · intro u hu; simp only [bys, List.mem_map] at hu; obtain ⟨y, -, rfl⟩ := hu; rfl
  · intro v' w' h4 h5 _ _
    have hb : Below w.heap.size w w' := ⟨h5.os, h5.tape, h5.output, h5.size, fun i hi => h5.block i hi (by simp [Value.ownBlock])⟩
    rw [Nat.zero_add, List.nil_append] at h4
    exact h v' w' h4 hb
theorem app_u8 {ops : Array Oper} {rest : List Oper} {o : Oper} {a : Act} {Q : Exit → Act → World → Prop} {w : World} {x0 : Value} (s x : Operand) (hgd : o.guard = none) (ho : o.op = .call { callee := .builtin .append, args := #[s, x], argTypes := #[71, 71] })
    (base : Nat) (v : Value) (n : Nat) (xs : List Value) (hs : a.eval s = v) (hown : w.ownsRow base 5 1 v n xs)
    (hx : a.eval x = .slice (some ⟨w.heap.size, 0, none⟩) 1 1) (h1 : x0.oneCell' = true) (hn : n + 1 ≤ 16777216) (hbase : base ≤ w.heap.size)
    (h : ∀ v' w', w'.ownsRow base 5 1 v' (n + 1) (xs ++ [x0]) → w.grownBy w' v.ownBlock → (v'.ownBlock = v.ownBlock ∨ v'.ownBlock = some (w.heap.size + 1)) → wpList Try.prog ops Q rest (a.put o.dst v') w') :
    wpList Try.prog ops Q (o :: rest) a (w.alloc (.cells #[x0] 5)) := by
  obtain ⟨i0, hi0, hz0, hz1, hz2⟩ := info_parts info_u8
  exact wpList_append1 hgd s x _ ho base i0 _ 1 1 Try.underlying71 hi0 hz0 hz1 hz2 rfl (by omega) (by omega) v n xs hs hown hx rfl (by simpa using h1) hn hbase h
theorem app_row {ops : Array Oper} {rest : List Oper} {o : Oper} {a : Act} {Q : Exit → Act → World → Prop} {w : World} {x0 : Value} (s x : Operand) (hgd : o.guard = none) (ho : o.op = .call { callee := .builtin .append, args := #[s, x], argTypes := #[70, 70] })
    (base : Nat) (v : Value) (n : Nat) (xs : List Value) (hs : a.eval s = v) (hown : w.ownsRow base 71 1 v n xs)
    (hx : a.eval x = .slice (some ⟨w.heap.size, 0, none⟩) 1 1) (h1 : x0.oneCell' = true) (hn : n + 1 ≤ 16777216) (hbase : base ≤ w.heap.size)
    (h : ∀ v' w', w'.ownsRow base 71 1 v' (n + 1) (xs ++ [x0]) → w.grownBy w' v.ownBlock → (v'.ownBlock = v.ownBlock ∨ v'.ownBlock = some (w.heap.size + 1)) → wpList Try.prog ops Q rest (a.put o.dst v') w') :
    wpList Try.prog ops Q (o :: rest) a (w.alloc (.cells #[x0] 71)) := by
  obtain ⟨i0, hi0, hz0, hz1, hz2⟩ := info_parts info_row
  exact wpList_append1 hgd s x _ ho base i0 _ 1 24 Try.underlying70 hi0 hz0 hz1 hz2 rfl (by omega) (by omega) v n xs hs hown hx rfl (by simpa using h1) hn hbase h
end Go.Proofs.Ytflembddbbkojaa

namespace Go.Proofs.Ytflembddbbkojaa
open Go.RowKit
set_option linter.unusedVariables false
set_option linter.unusedSimpArgs false
def codeB (k m : Int) : Bool := decide (1 ≤ k) && decide (k ≤ 6) && decide (0 ≤ m) && decide (m ≤ 4) && decide (k + m ≤ 8)
theorem codeB_iff (k m : Int) : codeB k m = true ↔ 1 ≤ k ∧ k ≤ 6 ∧ 0 ≤ m ∧ m ≤ 4 ∧ k + m ≤ 8 := by simp [codeB]; omega
theorem codeB_no {k m : Int} (h : ¬ (1 ≤ k ∧ k ≤ 6 ∧ 0 ≤ m ∧ m ≤ 4 ∧ k + m ≤ 8)) : codeB k m = false := by
  cases e : codeB k m with
  | false => rfl
  | true => exact absurd ((codeB_iff k m).1 e) h
theorem codeB_yes {k m : Int} (h : 1 ≤ k ∧ k ≤ 6 ∧ 0 ≤ m ∧ m ≤ 4 ∧ k + m ≤ 8) : codeB k m = true := (codeB_iff k m).2 h

set_option maxHeartbeats 800000 in
theorem r07code_any (k m : Int) (w : World) (hk : I64 k) (hm : I64 m) :
    Calls Try.prog 31 #[.int .i64 k, .int .i64 m] w fun e w' => e = .returned (.bool (codeB k m)) ∧ w = w' := by
  obtain ⟨k0, k1⟩ := hk
  obtain ⟨m0, m1⟩ := hm
  by_cases h1 : 1 ≤ k
  · by_cases h2 : k ≤ 6
    · by_cases h3 : 0 ≤ m
      · by_cases h4 : m ≤ 4
        · by_cases h5 : k + m ≤ 8
          · rw [codeB_yes ⟨h1, h2, h3, h4, h5⟩]
            go_enter Try.func31, Try.ntmps31
            go_wp2
            go_ret
            exact ⟨rfl, rfl⟩
          · rw [codeB_no (fun h => h5 h.2.2.2.2)]
            go_enter Try.func31, Try.ntmps31
            go_wp2
            go_ret
            exact ⟨rfl, rfl⟩
        · rw [codeB_no (fun h => h4 h.2.2.2.1)]
          go_enter Try.func31, Try.ntmps31
          go_wp2
          go_ret
          exact ⟨rfl, rfl⟩
      · rw [codeB_no (fun h => h3 h.2.2.1)]
        go_enter Try.func31, Try.ntmps31
        go_wp2
        go_ret
        exact ⟨rfl, rfl⟩
    · rw [codeB_no (fun h => h2 h.2.1)]
      go_enter Try.func31, Try.ntmps31
      go_wp2
      go_ret
      exact ⟨rfl, rfl⟩
  · rw [codeB_no (fun h => h1 h.1)]
    go_enter Try.func31, Try.ntmps31
    go_wp2
    go_ret
    exact ⟨rfl, rfl⟩

/-- Are all rows of one length? -/
def levelB (t : Mat) : Bool := t.all fun r => r.length == (t.getD 0 []).length
theorem levelB_yes {t : Mat} {m : Nat} (h : Wide t m) : levelB t = true := by
  unfold levelB
  rw [List.all_eq_true]
  intro r hr
  have h1 := h r hr
  have h0 : 0 < t.length := List.length_pos_of_mem hr
  have h2 : (t.getD 0 []).length = m := h.getD h0
  rw [h1, h2]; simp
theorem levelB_wide {t : Mat} (h : levelB t = true) : Wide t (t.getD 0 []).length := by
  unfold levelB at h
  rw [List.all_eq_true] at h
  intro r hr
  simpa using h r hr
/-- All rows of a code word: n of them. -/
def wordT (k n : Nat) (d : Mat) (m : Nat) : Mat := (List.range n).map fun a => combT (coefR k a) d m
theorem wordT_length (k n : Nat) (d : Mat) (m : Nat) : (wordT k n d m).length = n := by simp [wordT]
theorem wordT_wide (k n : Nat) (d : Mat) (m : Nat) : Wide (wordT k n d m) m := by
  intro r hr
  simp only [wordT, List.mem_map] at hr
  obtain ⟨a, -, rfl⟩ := hr
  exact combT_length _ _ _
theorem wordT_getD (k n : Nat) (d : Mat) (m a : Nat) (h : a < n) : (wordT k n d m).getD a [] = combT (coefR k a) d m := by
  rw [getD_lt _ _ (by rw [wordT_length]; exact h)]; simp [wordT]
/-- A [][]byte that the call has built, what it holds lying below or in blocks of the call. -/
def OwnM (w : World) (base : Nat) (v : Value) (t : Mat) : Prop := ∃ xs, w.ownsRow base 71 1 v t.length xs ∧ ∀ j, j < t.length → ByS w (fun b => b < w.heap.size ∧ v.ownBlock ≠ some b) (xs.getD j undef) (t.getD j [])
theorem OwnM.nil (w : World) (base : Nat) : OwnM w base (.slice none 0 0) [] := ⟨[], World.ownsRow_nil _ _ _ _, fun j hj => by cases hj⟩
theorem OwnM.form {w : World} {base : Nat} {v : Value} {t : Mat} (h : OwnM w base v t) : ∃ A c, v = .slice A t.length c := by
  obtain ⟨xs, ho, -⟩ := h
  exact own_form ho
theorem OwnM.below {w w2 : World} {base : Nat} {v : Value} {t : Mat} (h : OwnM w base v t) (hb : Below w.heap.size w w2) : OwnM w2 base v t := by
  obtain ⟨xs, ho, hc⟩ := h
  exact ⟨xs, own_below ho hb, fun j hj => ((hc j hj).keep (fun b hbb => hb.block b hbb.1)).mono (fun b hbb => ⟨Nat.lt_of_lt_of_le hbb.1 hb.size, hbb.2⟩)⟩
theorem OwnM.matS {w : World} {base : Nat} {v : Value} {t : Mat} (h : OwnM w base v t) : MatS w (Bl w.heap.size) v t := by
  obtain ⟨xs, ho, hc⟩ := h
  have hxl : xs.length = t.length := by have := ho.1; omega
  rcases ho.2 with ⟨rfl, h0⟩ | ⟨g, cap, cur, rfl, hg0, hg1, h2, h3, hg2⟩
  · unfold MatS; rw [h0]; exact Row.nil _ _ _
  · have ho' : w.ownsRow base 71 1 (rowC g t.length cap) t.length xs := ho
    refine ⟨_, cap, rfl, h2, Nat.le_trans h2 h3, fun _ => ⟨g, 0, rfl, (own_lt ho').2, fun k r hk => ?_⟩⟩
    have hj : k < t.length := (List.getElem?_eq_some_iff.1 hk).1
    have hx : t[k] = r := (List.getElem?_eq_some_iff.1 hk).2
    have h1 := hc k hj
    rw [getD_lt t [] hj, hx] at h1
    refine ⟨xs.getD k undef, ?_, h1.mono (fun b hb => hb.1)⟩
    rw [Nat.zero_add, ho.cellAt k (by omega), List.getElem?_eq_getElem (by omega), getD_lt _ _ (by omega)]
/-- A row more. -/
theorem OwnM.push {w w' : World} {base : Nat} {v v' va : Value} {t : Mat} {r : List UInt8} {xs : List Value} (ho : w.ownsRow base 71 1 v t.length xs) (hc : ∀ j, j < t.length → ByS w (fun b => b < w.heap.size ∧ v.ownBlock ≠ some b) (xs.getD j undef) (t.getD j []))
    (ha : ByS w (fun b => b < w.heap.size ∧ v.ownBlock ≠ some b) va r)
    (ho' : w'.ownsRow base 71 1 v' (t.length + 1) (xs ++ [va])) (hg : w.grownBy w' v.ownBlock) (hat : v'.ownBlock = v.ownBlock ∨ v'.ownBlock = some (w.heap.size + 1)) : OwnM w' base v' (t ++ [r]) := by
  have hxl : xs.length = t.length := by have := ho.1; omega
  have hR : ∀ b, (b < w.heap.size ∧ v.ownBlock ≠ some b) → (b < w'.heap.size ∧ v'.ownBlock ≠ some b) := fun b hb => ⟨Nat.lt_of_lt_of_le hb.1 hg.size, by
    rcases hat with e | e
    · rw [e]; exact hb.2
    · rw [e]; intro e2; injection e2 with e2; have := hb.1; omega⟩
  have hkp : Kept (fun b => b < w.heap.size ∧ v.ownBlock ≠ some b) w w' := fun b hb => hg.block b hb.1 (fun e => hb.2 e.symm)
  refine ⟨xs ++ [va], by rw [List.length_append]; exact ho', fun j hj => ?_⟩
  rw [List.length_append, List.length_singleton] at hj
  by_cases h1 : j < t.length
  · rw [getD_append_lt _ _ _ (by omega), getD_append_lt _ _ _ h1]
    exact ((hc j h1).keep hkp).mono hR
  · have h2 : j = t.length := by omega
    rw [h2, getD_last _ _ _ _ hxl, getD_last _ _ _ _ rfl]
    exact (ha.keep hkp).mono hR
end Go.Proofs.Ytflembddbbkojaa

namespace Go.Proofs.Ytflembddbbkojaa
open Go.RowKit
set_option linter.unusedVariables false
set_option linter.unusedSimpArgs false
theorem wordT_succ (k a : Nat) (d : Mat) (m : Nat) : wordT k (a + 1) d m = wordT k a d m ++ [combT (coefR k a) d m] := by simp [wordT, List.range_succ]
theorem Fr.sub {w : World} {B n : Nat} {v : Value} {b : Nat} (hb : Fr B n b) (ho : ∀ k, v.ownBlock = some k → k < B) : v.ownBlock ≠ some b := fun e => by have := ho b e; have := hb.1; omega
end Go.Proofs.Ytflembddbbkojaa

namespace Go.Proofs.Ytflembddbbkojaa
open Go.RowKit
set_option linter.unusedVariables false
set_option linter.unusedSimpArgs false
structure Frg where
  idx : Int
  data : List UInt8
def FragAt (w : World) (R : Nat → Prop) (hs : List Frg) (b off : Nat) : Prop :=
  ∀ k h, hs[k]? = some h → ∃ va, w.cell? ⟨b, off + k * 2, none⟩ = some (.int .i64 h.idx) ∧ w.cell? ⟨b, off + k * 2 + 1, none⟩ = some va ∧ ByS w R va h.data
def FragS (w : World) (R : Nat → Prop) (v : Value) (hs : List Frg) : Prop := Row R v hs.length (FragAt w R hs) ∧ ∀ h ∈ hs, I64 h.idx
theorem FragS.keep {w w' : World} {R : Nat → Prop} {v : Value} {hs : List Frg} (h : FragS w R v hs) (hk : Kept R w w') : FragS w' R v hs :=
  ⟨h.1.imp (fun _ hb => hb) fun b off hb hc k r hr => by
    obtain ⟨va, h1, h2, h3⟩ := hc k r hr
    exact ⟨va, (hk.cell hb).trans h1, (hk.cell hb).trans h2, h3.keep hk⟩, h.2⟩
theorem FragS.mono {w : World} {R R' : Nat → Prop} {v : Value} {hs : List Frg} (h : FragS w R v hs) (hr : ∀ b, R b → R' b) : FragS w R' v hs :=
  ⟨h.1.imp hr fun b off _ hc k r hk => by
    obtain ⟨va, h1, h2, h3⟩ := hc k r hk
    exact ⟨va, h1, h2, h3.mono hr⟩, h.2⟩
theorem FragS.below {w w' : World} {v : Value} {hs : List Frg} (h : FragS w (Bl w.heap.size) v hs) (hb : Below w.heap.size w w') : FragS w' (Bl w'.heap.size) v hs := (h.keep (kept_below hb)).mono (Bl.mono hb.size)
theorem FragS.form {w : World} {R : Nat → Prop} {v : Value} {hs : List Frg} (h : FragS w R v hs) : ∃ A c, v = .slice A hs.length c ∧ hs.length ≤ c ∧ hs.length ≤ maxLen := by
  obtain ⟨⟨A', c', e, h1, h2, h3⟩, h4⟩ := h
  exact ⟨A', c', e, h1, h2⟩
theorem FragS.at_ {w : World} {R : Nat → Prop} {A : Option Addr} {n c : Nat} {hs : List Frg} (h : FragS w R (.slice A n c) hs) {k : Nat} (hk : k < hs.length) :
    ∃ b off va, A = some ⟨b, off, none⟩ ∧ R b ∧ w.cell? ⟨b, off + k * 2, none⟩ = some (.int .i64 hs[k].idx) ∧ w.cell? ⟨b, off + k * 2 + 1, none⟩ = some va ∧ ByS w R va hs[k].data ∧ I64 hs[k].idx := by
  obtain ⟨⟨A', c', e, _, _, h3⟩, h4⟩ := h
  obtain ⟨b, off, e2, hb, hc⟩ := h3 (by omega)
  obtain ⟨va, g1, g2, g3⟩ := hc k hs[k] (List.getElem?_eq_getElem hk)
  injection e with e
  exact ⟨b, off, va, e.trans e2, hb, g1, g2, g3, h4 _ (List.getElem_mem hk)⟩
def outB (n : Int) (h : Frg) : Bool := decide (h.idx < 0) || decide (n ≤ h.idx)
def idxBad (n : Int) (hs : List Frg) : Bool := hs.any (outB n)
def idxL (hs : List Frg) : List Nat := hs.map fun h => h.idx.toNat
def dupB (hs : List Frg) : Bool := !decide (idxL hs).Nodup
def datas (hs : List Frg) : Mat := hs.map (·.data)
def rowLen (hs : List Frg) : Nat := ((datas hs).getD 0 []).length
def matK (k : Nat) (hs : List Frg) : Mat := ((idxL hs).take k).map (coefR k)
def decD (k : Nat) (hs : List Frg) : Mat := (List.range k).map fun i => combT ((invT (matK k hs)).getD i []) ((datas hs).take k) (rowLen hs)
def okW (k n : Nat) (hs : List Frg) : Bool := hs.all fun h => (wordT k n (decD k hs) (rowLen hs)).getD h.idx.toNat [] == h.data
def decE (k m : Int) (hs : List Frg) : Int :=
  if codeB k m = false then 1 else if idxBad (k + m) hs = true then 1 else if dupB hs = true then 8 else if (hs.length : Int) < k then 10
  else if levelB (datas hs) = false then 11 else if okW k.toNat (k + m).toNat hs = false then 11 else 0
theorem decD_length (k : Nat) (hs : List Frg) : (decD k hs).length = k := by simp [decD]
theorem decD_wide (k : Nat) (hs : List Frg) : Wide (decD k hs) (rowLen hs) := by
  intro r hr
  simp only [decD, List.mem_map] at hr
  obtain ⟨a, -, rfl⟩ := hr
  exact combT_length _ _ _
theorem datas_length (hs : List Frg) : (datas hs).length = hs.length := by simp [datas]
theorem idxL_length (hs : List Frg) : (idxL hs).length = hs.length := by simp [idxL]
theorem datas_getElem (hs : List Frg) (i : Nat) (h : i < hs.length) : (datas hs)[i]'(by rw [datas_length]; exact h) = hs[i].data := by simp [datas]
theorem idx_in {n : Int} {hs : List Frg} (h : idxBad n hs = false) : ∀ i (hi : i < hs.length), 0 ≤ hs[i].idx ∧ hs[i].idx < n := by
  intro i hi
  unfold idxBad at h
  have := List.any_eq_false.1 h hs[i] (List.getElem_mem hi)
  simp [outB] at this
  omega
theorem matK_length {k : Nat} {hs : List Frg} (h : k ≤ hs.length) : (matK k hs).length = k := by simp [matK, idxL_length]; omega
theorem matK_wide (k : Nat) (hs : List Frg) : Wide (matK k hs) k := by
  intro r hr
  simp only [matK, List.mem_map] at hr
  obtain ⟨a, -, rfl⟩ := hr
  exact coefR_length _ _
theorem matK_getD {k : Nat} {hs : List Frg} (h : k ≤ hs.length) (i : Nat) (hi : i < k) : (matK k hs).getD i [] = coefR k (hs[i]'(by omega)).idx.toNat := by
  rw [getD_lt _ _ (by rw [matK_length h]; exact hi)]
  simp [matK, idxL]
/-- The matrix of k fragments of a code can be inverted. -/
theorem matK_inj {k m : Int} {hs : List Frg} (hc : codeB k m = true) (hi : idxBad (k + m) hs = false) (hd : dupB hs = false) (hl : ¬ (hs.length : Int) < k) : Inj (matK k.toNat hs) := by
  have hk := (codeB_iff k m).1 hc
  have hn : (idxL hs).Nodup := by simpa [dupB] using hd
  refine coef_inj k.toNat _ (by omega) (by rw [List.length_take, idxL_length]; omega) (hn.sublist (List.take_sublist _ _)) fun a ha => ?_
  have ha2 := List.mem_of_mem_take ha
  simp only [idxL, List.mem_map] at ha2
  obtain ⟨h, hh, rfl⟩ := ha2
  obtain ⟨i, hi2, rfl⟩ := List.getElem_of_mem hh
  have := idx_in hi i hi2
  omega
/-- The steps of Decode's tests. -/
theorem decE_code {k m : Int} {hs : List Frg} (h : codeB k m = false) : decE k m hs = 1 := by unfold decE; rw [if_pos h]
theorem decE_idx {k m : Int} {hs : List Frg} (h : codeB k m = true) (h2 : idxBad (k + m) hs = true) : decE k m hs = 1 := by unfold decE; rw [if_neg (by simp [h]), if_pos h2]
theorem decE_dup {k m : Int} {hs : List Frg} (h : codeB k m = true) (h2 : idxBad (k + m) hs = false) (h3 : dupB hs = true) : decE k m hs = 8 := by unfold decE; rw [if_neg (by simp [h]), if_neg (by simp [h2]), if_pos h3]
theorem decE_short {k m : Int} {hs : List Frg} (h : codeB k m = true) (h2 : idxBad (k + m) hs = false) (h3 : dupB hs = false) (h4 : (hs.length : Int) < k) : decE k m hs = 10 := by unfold decE; rw [if_neg (by simp [h]), if_neg (by simp [h2]), if_neg (by simp [h3]), if_pos h4]
theorem decE_level {k m : Int} {hs : List Frg} (h : codeB k m = true) (h2 : idxBad (k + m) hs = false) (h3 : dupB hs = false) (h4 : ¬ (hs.length : Int) < k) (h5 : levelB (datas hs) = false) : decE k m hs = 11 := by unfold decE; rw [if_neg (by simp [h]), if_neg (by simp [h2]), if_neg (by simp [h3]), if_neg h4, if_pos h5]
theorem decE_word {k m : Int} {hs : List Frg} (h : codeB k m = true) (h2 : idxBad (k + m) hs = false) (h3 : dupB hs = false) (h4 : ¬ (hs.length : Int) < k) (h5 : levelB (datas hs) = true) (h6 : okW k.toNat (k + m).toNat hs = false) : decE k m hs = 11 := by unfold decE; rw [if_neg (by simp [h]), if_neg (by simp [h2]), if_neg (by simp [h3]), if_neg h4, if_neg (by simp [h5]), if_pos h6]
theorem decE_ok {k m : Int} {hs : List Frg} (h : codeB k m = true) (h2 : idxBad (k + m) hs = false) (h3 : dupB hs = false) (h4 : ¬ (hs.length : Int) < k) (h5 : levelB (datas hs) = true) (h6 : okW k.toNat (k + m).toNat hs = true) : decE k m hs = 0 := by unfold decE; rw [if_neg (by simp [h]), if_neg (by simp [h2]), if_neg (by simp [h3]), if_neg h4, if_neg (by simp [h5]), if_neg (by simp [h6])]
end Go.Proofs.Ytflembddbbkojaa

namespace Go.Proofs.Ytflembddbbkojaa
open Go.RowKit
set_option linter.unusedVariables false
set_option linter.unusedSimpArgs false
theorem info_bool : (Try.prog.info? 4).map (fun i => (i.zero, i.size, i.bytes)) = some (some (.bool false), 1, 1) := by kernel_rfl
theorem mk_bools (n : Nat) (hn : n ≤ 1048576) : ∀ w : World, (Instr.makeSlice 24 (.int .i64 (n : Int)) (.int .i64 (n : Int))).run Try.prog w = .ok (.slice (some ⟨w.heap.size, 0, none⟩) n n) (w.alloc (.cells (Array.replicate n (.bool false)) 4)) := by
  intro w
  obtain ⟨i0, hi0, hz0, hz1, hz2⟩ := info_parts info_bool
  have h := run_make (P := Try.prog) w 24 4 i0 _ Try.underlying24 hi0 hz0 .i64 .i64 (n : Int) (n : Int) (by omega) (by omega) (by rw [hz2]; omega) (by omega)
  rw [hz1] at h
  simpa [madeCells_one, Value.cells] using h
theorem conv_bytes {w : World} {R : Nat → Prop} {v : Value} {l : List UInt8} (h : ByS w R v l) : (convert 71 9 v).run Try.prog w = .ok (.string ⟨l.toArray⟩) w :=
  h.conv Try.underlying71 Try.underlying5 Try.underlying9
/-- Which of the numbers below n occur in a list. -/
def SeenB (W : World) (g n : Nat) (js : List Nat) : Prop := W.heap[g]? = some (.cells ((List.range n).map fun b => Value.bool (decide (b ∈ js))).toArray 4 (0, 0))
theorem SeenB.cell {W : World} {g n i : Nat} {js : List Nat} (h : SeenB W g n js) (hi : i < n) : W.cell? ⟨g, i, none⟩ = some (.bool (decide (i ∈ js))) := by
  rw [cell_of_row W g i _ _ _ h]; simp [hi]
theorem SeenB.free {W : World} {g n : Nat} {js : List Nat} (h : SeenB W g n js) (i : Nat) : W.frozen? ⟨g, i, none⟩ = false := frozen_of_row W g i _ _ h
theorem SeenB.set {W : World} {g n i : Nat} {js : List Nat} (h : SeenB W g n js) (hi : i < n) : SeenB (W.setCell ⟨g, i, none⟩ (.bool true)) g n (js ++ [i]) := by
  unfold SeenB
  rw [heap_setCell_same W g i _ _ _ h]
  congr 2
  apply Array.ext
  · simp
  · intro j h1 h2
    simp at h1
    rw [Array.getElem_setIfInBounds (by simpa using h1)]
    by_cases e : i = j
    · subst e; simp
    · have e2 : ¬ j = i := fun h => e h.symm
      simp [e, e2]
theorem SeenB.below {W W' : World} {g n : Nat} {js : List Nat} (h : SeenB W g n js) (hb : Below W.heap.size W W') : SeenB W' g n js := by
  have hg : g < W.heap.size := by
    unfold SeenB at h
    rcases Nat.lt_or_ge g W.heap.size with h1 | h1
    · exact h1
    · rw [Array.getElem?_eq_none h1] at h; cases h
  exact (hb.block g hg).trans h
/-- A [][]byte that the call builds; what it holds lies below base. -/
def OwnB (w : World) (base : Nat) (v : Value) (t : Mat) : Prop := ∃ xs, w.ownsRow base 71 1 v t.length xs ∧ ∀ j, j < t.length → ByS w (Bl base) (xs.getD j undef) (t.getD j [])
theorem OwnB.nil (w : World) (base : Nat) : OwnB w base (.slice none 0 0) [] := ⟨[], World.ownsRow_nil _ _ _ _, fun j hj => by cases hj⟩
theorem OwnB.form {w : World} {base : Nat} {v : Value} {t : Mat} (h : OwnB w base v t) : ∃ A c, v = .slice A t.length c := by
  obtain ⟨xs, ho, -⟩ := h
  exact own_form ho
theorem OwnB.kept {w w' : World} {base : Nat} {v : Value} {t : Mat} {row : Option Nat} (h : OwnB w base v t) (hg : w.grownBy w' row) (hne : v.ownBlock = none ∨ v.ownBlock ≠ row) (hk : Kept (Bl base) w w') : OwnB w' base v t := by
  obtain ⟨xs, ho, hc⟩ := h
  exact ⟨xs, ho.kept hg hne, fun j hj => (hc j hj).keep hk⟩
theorem OwnB.below {w w' : World} {base : Nat} {v : Value} {t : Mat} (h : OwnB w base v t) (hb : Below w.heap.size w w') (hB : base ≤ w.heap.size) : OwnB w' base v t := by
  obtain ⟨xs, ho, hc⟩ := h
  exact ⟨xs, own_below ho hb, fun j hj => (hc j hj).keep (kept_below' hb hB)⟩
theorem OwnB.push {w w' : World} {base : Nat} {v v' va : Value} {t : Mat} {r : List UInt8} {xs : List Value} (ho : w.ownsRow base 71 1 v t.length xs) (hc : ∀ j, j < t.length → ByS w (Bl base) (xs.getD j undef) (t.getD j []))
    (ha : ByS w (Bl base) va r) (ho' : w'.ownsRow base 71 1 v' (t.length + 1) (xs ++ [va])) (hk : Kept (Bl base) w w') : OwnB w' base v' (t ++ [r]) := by
  have hxl : xs.length = t.length := by have := ho.1; omega
  refine ⟨xs ++ [va], by rw [List.length_append]; exact ho', fun j hj => ?_⟩
  rw [List.length_append, List.length_singleton] at hj
  by_cases h1 : j < t.length
  · rw [getD_append_lt _ _ _ (by omega), getD_append_lt _ _ _ h1]
    exact (hc j h1).keep hk
  · have h2 : j = t.length := by omega
    rw [h2, getD_last _ _ _ _ hxl, getD_last _ _ _ _ rfl]
    exact ha.keep hk
theorem OwnB.matS {w : World} {base : Nat} {v : Value} {t : Mat} (h : OwnB w base v t) (hB : base ≤ w.heap.size) : MatS w (Bl w.heap.size) v t := by
  obtain ⟨xs, ho, hc⟩ := h
  have hxl : xs.length = t.length := by have := ho.1; omega
  rcases ho.2 with ⟨rfl, h0⟩ | ⟨g, cap, cur, rfl, hg0, hg1, h2, h3, hg2⟩
  · unfold MatS; rw [h0]; exact Row.nil _ _ _
  · have ho' : w.ownsRow base 71 1 (rowC g t.length cap) t.length xs := ho
    refine ⟨_, cap, rfl, h2, Nat.le_trans h2 h3, fun _ => ⟨g, 0, rfl, (own_lt ho').2, fun k r hk => ?_⟩⟩
    have hj : k < t.length := (List.getElem?_eq_some_iff.1 hk).1
    have hx : t[k] = r := (List.getElem?_eq_some_iff.1 hk).2
    have h1 := hc k hj
    rw [getD_lt t [] hj, hx] at h1
    refine ⟨xs.getD k undef, ?_, h1.mono (Bl.mono hB)⟩
    rw [Nat.zero_add, ho.cellAt k (by omega), List.getElem?_eq_getElem (by omega), getD_lt _ _ (by omega)]
theorem own_kept {w w2 : World} {base : Nat} {t : TypeId} {size n : Nat} {v : Value} {xs : List Value} (h : w.ownsRow base t size v n xs) (hg : w.grownBy w2 v.ownBlock) (hB : base ≤ w.heap.size) : Kept (Bl base) w w2 :=
  fun b hb => hg.block b (Nat.lt_of_lt_of_le hb hB) (fun e => by have := (h.lt b e.symm).1; unfold Bl at hb; omega)
theorem only_set1 (w : World) (g i : Nat) (u : Value) : w.grownBy (w.setCell ⟨g, i, none⟩ u) (some g) :=
  ⟨rfl, rfl, rfl, by simp [World.setCell], fun k hk hne => Below.heap_setCell w _ u k (fun e => hne (by rw [e]))⟩
theorem own_seen {w : World} {base g n s m : Nat} {js : List Nat} {v : Value} {xs : List Value} (h : w.ownsRow base 71 s v m xs) (hS : SeenB w g n js) : v.ownBlock ≠ some g := by
  rcases h.2 with ⟨rfl, _⟩ | ⟨k, cap, cur, rfl, _, hh, _⟩
  · simp [Value.ownBlock]
  · intro e
    simp only [Value.ownBlock, Option.some.injEq] at e
    subst e
    unfold SeenB at hS
    rw [hS] at hh
    injection hh with hh
    injection hh with _ hh
    exact absurd hh (by decide)
theorem nodup_snoc (js : List Nat) (i : Nat) : (!decide (js ++ [i]).Nodup) = ((!decide js.Nodup) || decide (i ∈ js)) := by
  have h : (js ++ [i]).Nodup ↔ js.Nodup ∧ i ∉ js := by
    rw [List.nodup_append]
    simp
    intro _
    constructor
    · intro h hi; exact h i hi rfl
    · intro h a ha e; exact h (e ▸ ha)
  by_cases h1 : js.Nodup <;> by_cases h2 : i ∈ js <;> simp [h, h1, h2]
theorem idxBad_at {n : Int} {hs : List Frg} {j : Nat} (hj : j < hs.length) (h : hs[j].idx < 0 ∨ n ≤ hs[j].idx) : idxBad n hs = true := by
  unfold idxBad
  rw [List.any_eq_true]
  exact ⟨hs[j], List.getElem_mem hj, by simp [outB]; exact h⟩
theorem idxBad_none {n : Int} {hs : List Frg} (h : ∀ i (hi : i < hs.length), 0 ≤ hs[i].idx ∧ hs[i].idx < n) : idxBad n hs = false := by
  unfold idxBad
  rw [List.any_eq_false]
  intro x hx
  obtain ⟨i, hi, rfl⟩ := List.getElem_of_mem hx
  have := h i hi
  simp [outB]; omega

/-- A block of n slices that is being filled: the first of them read as t. -/
def FillB (W : World) (h n : Nat) (t : Mat) : Prop := ∃ vs : List Value, vs.length = t.length ∧ W.heap[h]? = some (.cells (vs ++ List.replicate (n - t.length) (Value.slice none 0 0)).toArray 71 (0, 0)) ∧ ∀ j, j < t.length → ByS W (fun b => b < W.heap.size ∧ b ≠ h) (vs.getD j undef) (t.getD j [])
theorem FillB.new (W : World) (n : Nat) : FillB (W.alloc (.cells (Array.replicate n (.slice none 0 0)) 71)) W.heap.size n [] := ⟨[], rfl, by rw [heap_alloc_new]; simp, fun j hj => by cases hj⟩
theorem FillB.lt {W : World} {h n : Nat} {t : Mat} (hf : FillB W h n t) : h < W.heap.size := by
  obtain ⟨vs, -, h1, -⟩ := hf
  rcases Nat.lt_or_ge h W.heap.size with h2 | h2
  · exact h2
  · rw [Array.getElem?_eq_none h2] at h1; cases h1
theorem FillB.below {W W' : World} {h n : Nat} {t : Mat} (hf : FillB W h n t) (hb : Below W.heap.size W W') : FillB W' h n t := by
  have hlt := hf.lt
  obtain ⟨vs, h0, h1, h2⟩ := hf
  exact ⟨vs, h0, (hb.block h hlt).trans h1, fun j hj => ((h2 j hj).keep (fun b hbb => hb.block b hbb.1)).mono (fun b hbb => ⟨Nat.lt_of_lt_of_le hbb.1 hb.size, hbb.2⟩)⟩
theorem FillB.next {W : World} {h n : Nat} {t : Mat} (hf : FillB W h n t) (hn : t.length < n) : W.cell? ⟨h, t.length, none⟩ = some (.slice none 0 0) ∧ W.frozen? ⟨h, t.length, none⟩ = false := by
  obtain ⟨vs, h0, h1, h2⟩ := hf
  refine ⟨?_, frozen_of_row W h _ _ _ h1⟩
  rw [cell_of_row W h _ _ _ _ h1, List.getElem?_toArray, List.getElem?_append_right (by omega), h0, Nat.sub_self]
  rw [show n - t.length = (n - t.length - 1) + 1 from by omega, List.replicate_succ]; rfl
theorem FillB.store {W : World} {h n : Nat} {t : Mat} {v : Value} {r : List UInt8} (hf : FillB W h n t) (hn : t.length < n) (hv : ByS W (fun b => b < W.heap.size ∧ b ≠ h) v r) : FillB (W.setCell ⟨h, t.length, none⟩ v) h n (t ++ [r]) := by
  obtain ⟨vs, h0, h1, h2⟩ := hf
  have hs : (W.setCell ⟨h, t.length, none⟩ v).heap.size = W.heap.size := by simp
  have hk : Kept (fun b => b < W.heap.size ∧ b ≠ h) W (W.setCell ⟨h, t.length, none⟩ v) := fun b hb => heap_setCell_other W ⟨h, t.length, none⟩ b v hb.2
  have hr : List.replicate (n - t.length) (Value.slice none 0 0) = Value.slice none 0 0 :: List.replicate (n - (t ++ [r]).length) (Value.slice none 0 0) := by
    rw [List.length_append, List.length_singleton, show n - t.length = n - (t.length + 1) + 1 from by omega, List.replicate_succ]
  refine ⟨vs ++ [v], by simp [h0], ?_, fun j hj => ?_⟩
  · rw [heap_setCell_same W h _ _ _ _ h1, hr, snoc_set vs _ _ _ _ h0]
  · rw [List.length_append, List.length_singleton] at hj
    rw [hs]
    by_cases h3 : j < t.length
    · rw [getD_append_lt _ _ _ (by omega), getD_append_lt _ _ _ h3]; exact (h2 j h3).keep hk
    · have h4 : j = t.length := by omega
      rw [h4, getD_last _ _ _ _ h0, getD_last _ _ _ _ rfl]; exact hv.keep hk
theorem FillB.matS {W : World} {h n : Nat} {t : Mat} (hf : FillB W h n t) (hn : t.length = n) (hm : n ≤ maxLen) : MatS W (Bl W.heap.size) (.slice (some ⟨h, 0, none⟩) n n) t := by
  have hlt := hf.lt
  obtain ⟨vs, h0, h1, h2⟩ := hf
  refine ⟨some ⟨h, 0, none⟩, n, by rw [hn], by omega, by omega, fun _ => ⟨h, 0, rfl, hlt, fun j r hj => ?_⟩⟩
  have hjl : j < t.length := (List.getElem?_eq_some_iff.1 hj).1
  have hjr : t[j] = r := (List.getElem?_eq_some_iff.1 hj).2
  have h3 := h2 j hjl
  rw [getD_lt t [] hjl, hjr] at h3
  refine ⟨vs.getD j undef, ?_, h3.mono (fun b hb => hb.1)⟩
  rw [Nat.zero_add, cell_of_row W h j _ _ _ h1, List.getElem?_toArray, List.getElem?_append_left (by omega), List.getElem?_eq_getElem (by omega), getD_lt _ _ (by omega)]
theorem matK_take {k : Nat} {hs : List Frg} (h : k ≤ hs.length) (i : Nat) (hi : i < k) : (matK k hs).take (i + 1) = (matK k hs).take i ++ [coefR k (hs[i]'(by omega)).idx.toNat] := by
  have hl := matK_length h
  rw [List.take_succ_eq_append_getElem (by omega), ← getD_lt _ [] (by omega), matK_getD h i hi]

end Go.Proofs.Ytflembddbbkojaa

namespace Go.Proofs.Ytflembddbbkojaa
open Go.RowKit
set_option linter.unusedVariables false
set_option linter.unusedSimpArgs false
def within (x n : Int) : Int := if n < 1 then 0 else x % n
theorem within_small (x n : Int) (h : n < 1) : within x n = 0 := by unfold within; rw [if_pos h]
theorem within_range (x n : Int) (h : 1 ≤ n) : 0 ≤ within x n ∧ within x n < n := by
  unfold within; rw [if_neg (by omega)]; exact ⟨Int.emod_nonneg _ (by omega), Int.emod_lt_of_pos _ (by omega)⟩
theorem tmod_cases {x n : Int} (hn : 1 ≤ n) : x.tmod n = x % n ∨ (x.tmod n = x % n - n ∧ 0 < x % n) := by
  have e := Int.tmod_eq_emod (a := x) (b := n)
  have h1 := Int.emod_nonneg x (show n ≠ 0 by omega)
  by_cases h : 0 ≤ x ∨ n ∣ x
  · rw [if_pos h] at e; left; omega
  · rw [if_neg h] at e
    have h2 : x % n ≠ 0 := fun h0 => h (.inr (Int.dvd_of_emod_eq_zero h0))
    right; omega
theorem tmod_neg {x n : Int} (hn : 1 ≤ n) (h : x.tmod n < 0) : x.tmod n + n = x % n ∧ -n < x.tmod n := by
  have h1 := Int.emod_nonneg x (show n ≠ 0 by omega)
  rcases tmod_cases (x := x) hn with e | ⟨e, h2⟩ <;> omega
theorem tmod_pos {x n : Int} (hn : 1 ≤ n) (h : 0 ≤ x.tmod n) : x.tmod n = x % n := by
  have h1 := Int.emod_lt_of_pos x (show 0 < n by omega)
  rcases tmod_cases (x := x) hn with e | ⟨e, h2⟩ <;> omega

set_option maxHeartbeats 400000 in
theorem within_any (x n : Int) (w : World) (hx : I64 x) (hn : I64 n) :
    Calls Try.prog 7 #[.int .i64 x, .int .i64 n] w fun e w' => e = .returned (.int .i64 (within x n)) ∧ w = w' := by
  obtain ⟨h0, h1⟩ := hx
  obtain ⟨g0, g1⟩ := hn
  go_enter Try.func7, Try.ntmps7
  go_wp2
  · go_ret
    exact ⟨ret_int (within_small _ _ (by assumption)).symm, rfl⟩
  · go_ret
    have hn : 1 ≤ n := by assumption
    have h := tmod_neg hn (by assumption)
    refine ⟨ret_int ?_, rfl⟩
    show wrap64 _ = _
    rw [IntWalk.wrap64_in _ (by omega), h.1]
    unfold within; rw [if_neg (by omega)]
  · go_ret
    have hn : 1 ≤ n := by assumption
    refine ⟨ret_int ?_, rfl⟩
    show Int.tmod _ _ = _
    rw [tmod_pos hn (by assumption)]
    unfold within; rw [if_neg (by omega)]

def TapeB (W : World) (g : Nat) (vl : Value) (I : Nat) : Prop := W.heap[g]? = some (.cells #[vl, .int .i64 (I : Int)] 56 (0, 0))
theorem TapeB.cells {W : World} {g : Nat} {vl : Value} {I : Nat} (h : TapeB W g vl I) : W.cell? ⟨g, 0, none⟩ = some vl ∧ W.cell? ⟨g, 1, none⟩ = some (.int .i64 (I : Int)) ∧ W.frozen? ⟨g, 1, none⟩ = false ∧ g < W.heap.size := by
  have h0 := cell_of_row W g 0 _ _ _ h
  have h1 := cell_of_row W g 1 _ _ _ h
  exact ⟨by simpa using h0, by simpa using h1, frozen_of_row W g 1 _ _ h, block_lt_of_cell h0⟩
def tapeX (xs : List Int) (I : Nat) : Int := if h : I < xs.length then xs[I] else ((I : Int) % 3)
theorem only_set2 {a w : World} {g : Nat} (h : a.grownBy w (some g)) (i : Nat) (u : Value) : a.grownBy (w.setCell ⟨g, i, none⟩ u) (some g) :=
  ⟨h.os, h.tape, h.output, by simpa [World.setCell] using h.size, fun k hk hne => (Below.heap_setCell w _ u k (fun e => hne (by rw [e]))).trans (h.block k hk hne)⟩
theorem only_drew2 {a w : World} {g : Nat} (h : a.grownBy w (some g)) (n : Nat) : a.grownBy (w.drewN n) (some g) := ⟨h.os, h.tape, h.output, h.size, h.block⟩
theorem only_refl2 (w : World) (g : Nat) : w.grownBy w (some g) := ⟨rfl, rfl, rfl, Nat.le_refl _, fun _ _ _ => rfl⟩
set_option maxRecDepth 100000 in
set_option maxHeartbeats 800000 in
theorem next_any (g : Nat) (vl : Value) (xs : List Int) (I : Nat) (n : Int) (w : World) (R : Nat → Prop) (hT : TapeB w g vl I) (hx : IntS w R vl xs) (hI : I ≤ 4611686018427387904) (hn : I64 n) :
    Calls Try.prog 16 #[.pointer (some ⟨g, 0, none⟩), .int .i64 n] w fun e w' => e = .returned (.int .i64 (within (tapeX xs I) n)) ∧ TapeB w' g vl (I + 1) ∧ w.grownBy w' (some g) := by
  obtain ⟨c0, c1, f1, hg⟩ := hT.cells
  obtain ⟨g0, g1⟩ := hn
  obtain ⟨A, c, rfl, -, hm⟩ : ∃ A c, vl = .slice A xs.length c ∧ xs.length ≤ c ∧ xs.length ≤ maxLen := by
    obtain ⟨⟨A', c', e, h1, h2, h3⟩, h4⟩ := hx
    exact ⟨A', c', e, h1, h2⟩
  unfold maxLen at hm
  have hT2 := heap_setCell_same w g 1 _ _ (.int .i64 ((I + 1 : Nat) : Int)) hT
  have e1 : (((I + 1 : Nat) : Int)) = (I : Int) + 1 := by omega
  rw [e1] at hT2
  have HT2 := Lib.hid hT2
  have i0 : (0 : Int) ≤ (I : Int) := by omega
  by_cases hlt : I < xs.length
  · have hx0 : tapeX xs I = xs[I] := dif_pos hlt
    obtain ⟨b, off, hA, hc, h64⟩ : ∃ b off, A = some ⟨b, off, none⟩ ∧ w.cell? ⟨b, off + I, none⟩ = some (.int .i64 xs[I]) ∧ I64 xs[I] := by
      obtain ⟨⟨A', c', e, _, _, h3⟩, h4⟩ := hx
      obtain ⟨b, off, e2, hb, hc⟩ := h3 (by omega)
      injection e with e
      exact ⟨b, off, e.trans e2, hc I _ (List.getElem?_eq_getElem hlt), h4 _ (List.getElem_mem hlt)⟩
    subst hA
    rw [hx0]
    obtain ⟨x, hxx⟩ : ∃ x, x = xs[I] := ⟨_, rfl⟩
    rw [← hxx] at hc h64 ⊢
    obtain ⟨h0, h1⟩ := h64
    have il : (I : Int) < (xs.length : Int) := by omega
    clear hx0 hxx hT hx e1 hT2
    go_enter Try.func16, Try.ntmps16
    go_wp2_with fail
    go_quiet (fail)
    go_wp2_with fail
    go_quiet (fail)
    go_wp2
    · go_ret
      exact ⟨ret_int (within_small _ _ (by assumption)).symm, HT2.out, only_set2 (only_drew2 (only_refl2 w g) _) 1 _⟩
    · go_ret
      have hn : 1 ≤ n := by assumption
      have h := tmod_neg hn (by assumption)
      refine ⟨ret_int ?_, HT2.out, only_set2 (only_drew2 (only_refl2 w g) _) 1 _⟩
      show wrap64 _ = _
      rw [IntWalk.wrap64_in _ (by omega), h.1]
      unfold within; rw [if_neg (by omega)]
    · go_ret
      have hn : 1 ≤ n := by assumption
      refine ⟨ret_int ?_, HT2.out, only_set2 (only_drew2 (only_refl2 w g) _) 1 _⟩
      show Int.tmod _ _ = _
      rw [tmod_pos hn (by assumption)]
      unfold within; rw [if_neg (by omega)]
  · have hx0 : tapeX xs I = (I : Int) % 3 := dif_neg hlt
    rw [hx0]
    obtain ⟨x, hxx⟩ : ∃ x, x = (I : Int) % 3 := ⟨_, rfl⟩
    rw [← hxx]
    have HXX := Lib.hid hxx
    have il : ¬ (I : Int) < (xs.length : Int) := by omega
    clear hx0 hxx hT hx e1 hT2
    go_enter Try.func16, Try.ntmps16
    go_wp2_with fail
    go_quiet (fail)
    go_wp2
    · go_ret
      exact ⟨ret_int (within_small _ _ (by assumption)).symm, HT2.out, only_set2 (only_drew2 (only_refl2 w g) _) 1 _⟩
    · go_ret
      have hn : 1 ≤ n := by assumption
      refine ⟨ret_int ?_, HT2.out, only_set2 (only_drew2 (only_refl2 w g) _) 1 _⟩
      rw [HXX.out]
      unfold within; rw [if_neg (by omega)]
end Go.Proofs.Ytflembddbbkojaa

namespace Go.Proofs.Ytflembddbbkojaa
open Go.RowKit
set_option linter.unusedVariables false
set_option linter.unusedSimpArgs false
/-- A [][]byte that the call has built of new blocks alone. -/
def OwnF (w : World) (base : Nat) (v : Value) (t : Mat) : Prop := ∃ xs, w.ownsRow base 71 1 v t.length xs ∧ ∀ j, j < t.length → ByS w (fun b => base ≤ b ∧ b < w.heap.size ∧ v.ownBlock ≠ some b) (xs.getD j undef) (t.getD j [])
theorem OwnF.nil (w : World) (base : Nat) : OwnF w base (.slice none 0 0) [] := ⟨[], World.ownsRow_nil _ _ _ _, fun j hj => by cases hj⟩
theorem OwnF.form {w : World} {base : Nat} {v : Value} {t : Mat} (h : OwnF w base v t) : ∃ A c, v = .slice A t.length c := by
  obtain ⟨xs, ho, -⟩ := h
  exact own_form ho
theorem OwnF.grown {w w2 : World} {base g : Nat} {v : Value} {t : Mat} (h : OwnF w base v t) (hg : w.grownBy w2 (some g)) (hgb : g < base) : OwnF w2 base v t := by
  obtain ⟨xs, ho, hc⟩ := h
  refine ⟨xs, ho.kept hg ?_, fun j hj => ((hc j hj).keep (fun b hbb => hg.block b hbb.2.1 (fun e => by injection e with e; omega))).mono (fun b hbb => ⟨hbb.1, Nat.lt_of_lt_of_le hbb.2.1 hg.size, hbb.2.2⟩)⟩
  cases hv : v.ownBlock with
  | none => exact .inl rfl
  | some q => exact .inr (fun e => by injection e with e; have := (ho.lt q hv).1; omega)
theorem OwnF.matS {w : World} {base : Nat} {v : Value} {t : Mat} (h : OwnF w base v t) : MatS w (Fr base w.heap.size) v t := by
  obtain ⟨xs, ho, hc⟩ := h
  have hxl : xs.length = t.length := by have := ho.1; omega
  rcases ho.2 with ⟨rfl, h0⟩ | ⟨g, cap, cur, rfl, hg0, hg1, h2, h3, hg2⟩
  · unfold MatS; rw [h0]; exact Row.nil _ _ _
  · have ho' : w.ownsRow base 71 1 (rowC g t.length cap) t.length xs := ho
    refine ⟨_, cap, rfl, h2, Nat.le_trans h2 h3, fun _ => ⟨g, 0, rfl, own_lt ho', fun k r hk => ?_⟩⟩
    have hj : k < t.length := (List.getElem?_eq_some_iff.1 hk).1
    have hx : t[k] = r := (List.getElem?_eq_some_iff.1 hk).2
    have h1 := hc k hj
    rw [getD_lt t [] hj, hx] at h1
    refine ⟨xs.getD k undef, ?_, h1.mono (fun b hb => ⟨hb.1, hb.2.1⟩)⟩
    rw [Nat.zero_add, ho.cellAt k (by omega), List.getElem?_eq_getElem (by omega), getD_lt _ _ (by omega)]
theorem OwnF.push {w w' : World} {base : Nat} {v v' va : Value} {t : Mat} {r : List UInt8} {xs : List Value} (ho : w.ownsRow base 71 1 v t.length xs) (hc : ∀ j, j < t.length → ByS w (fun b => base ≤ b ∧ b < w.heap.size ∧ v.ownBlock ≠ some b) (xs.getD j undef) (t.getD j []))
    (ha : ByS w (fun b => base ≤ b ∧ b < w.heap.size ∧ v.ownBlock ≠ some b) va r)
    (ho' : w'.ownsRow base 71 1 v' (t.length + 1) (xs ++ [va])) (hg : w.grownBy w' v.ownBlock) (hat : v'.ownBlock = v.ownBlock ∨ v'.ownBlock = some (w.heap.size + 1)) : OwnF w' base v' (t ++ [r]) := by
  have hxl : xs.length = t.length := by have := ho.1; omega
  have hR : ∀ b, (base ≤ b ∧ b < w.heap.size ∧ v.ownBlock ≠ some b) → (base ≤ b ∧ b < w'.heap.size ∧ v'.ownBlock ≠ some b) := fun b hb => ⟨hb.1, Nat.lt_of_lt_of_le hb.2.1 hg.size, by
    rcases hat with e | e
    · rw [e]; exact hb.2.2
    · rw [e]; intro e2; injection e2 with e2; have := hb.2.1; omega⟩
  have hkp : Kept (fun b => base ≤ b ∧ b < w.heap.size ∧ v.ownBlock ≠ some b) w w' := fun b hb => hg.block b hb.2.1 (fun e => hb.2.2 e.symm)
  refine ⟨xs ++ [va], by rw [List.length_append]; exact ho', fun j hj => ?_⟩
  rw [List.length_append, List.length_singleton] at hj
  by_cases h1 : j < t.length
  · rw [getD_append_lt _ _ _ (by omega), getD_append_lt _ _ _ h1]
    exact ((hc j h1).keep hkp).mono hR
  · have h2 : j = t.length := by omega
    rw [h2, getD_last _ _ _ _ hxl, getD_last _ _ _ _ rfl]
    exact (ha.keep hkp).mono hR
theorem conv_u8 (x : Int) (h : 0 ≤ x ∧ x < 256) : (x = ((UInt8.ofNat x.toNat).toNat : Int)) := by rw [UInt8.toNat_ofNat']; omega
theorem grown_alloc {a w : World} {g : Nat} (h : a.grownBy w (some g)) (o : Obj) : a.grownBy (w.alloc o) (some g) :=
  ⟨h.os, h.tape, h.output, Nat.le_trans h.size (by simp), fun k hk hne => (Below.heap_alloc w o k (Nat.lt_of_lt_of_le hk h.size)).trans (h.block k hk hne)⟩
theorem grown_trans {a b c : World} {g : Nat} (h : a.grownBy b (some g)) (k : b.grownBy c (some g)) : a.grownBy c (some g) :=
  ⟨k.os.trans h.os, k.tape.trans h.tape, k.output.trans h.output, Nat.le_trans h.size k.size, fun i hi hne => (k.block i (Nat.lt_of_lt_of_le hi h.size) hne).trans (h.block i hi hne)⟩
theorem grown_new {a w w2 : World} {g : Nat} {row : Option Nat} (h : a.grownBy w (some g)) (k : w.grownBy w2 row) (hr : ∀ b, row = some b → a.heap.size ≤ b) : a.grownBy w2 (some g) :=
  ⟨k.os.trans h.os, k.tape.trans h.tape, k.output.trans h.output, Nat.le_trans h.size k.size, fun i hi hne => (k.block i (Nat.lt_of_lt_of_le hi h.size) (fun e => by have := hr i e.symm; omega)).trans (h.block i hi hne)⟩

end Go.Proofs.Ytflembddbbkojaa

namespace Go.Proofs.Ytflembddbbkojaa
open Go.RowKit
set_option linter.unusedVariables false
set_option linter.unusedSimpArgs false

/-- The first rows of a table. -/
theorem MatS.take {w : World} {R : Nat → Prop} {A : Option Addr} {n c : Nat} {t : Mat} (h : MatS w R (.slice A n c) t) (k : Nat) (hk : k ≤ t.length) : MatS w R (.slice A k k) (t.take k) := by
  obtain ⟨A', c', e, h1, h2, h3⟩ := h
  have htl : (t.take k).length = k := by rw [List.length_take]; omega
  refine ⟨A, k, by rw [htl], by omega, by omega, fun h0 => ?_⟩
  obtain ⟨b, off, e2, hb, hc⟩ := h3 (by omega)
  injection e with e
  exact ⟨b, off, e.trans e2, hb, fun j r hj => hc j r (by
    have hj' : j < k := by have := (List.getElem?_eq_some_iff.1 hj).1; omega
    rwa [List.getElem?_take_of_lt hj'] at hj)⟩
end Go.Proofs.Ytflembddbbkojaa

namespace Go.Proofs.Ytflembddbbkojaa
open Go.RowKit
set_option linter.unusedVariables false
set_option linter.unusedSimpArgs false
/-- What the cells of collected fragments hold. -/
def FgC (w : World) (v : Value) (hs : List Frg) (cs : List Value) : Prop :=
  ∀ k h, hs[k]? = some h → ∃ va, cs[k * 2]? = some (.int .i64 h.idx) ∧ cs[k * 2 + 1]? = some va ∧ ByS w (fun b => b < w.heap.size ∧ v.ownBlock ≠ some b) va h.data
/-- Fragments of a word: numbers from a on, c of them. -/
def fragsT (T : Mat) (a c : Nat) : List Frg := (List.range c).map fun i => ⟨((a + i : Nat) : Int), T.getD (a + i) []⟩
theorem fragsT_succ (T : Mat) (a c : Nat) : fragsT T a (c + 1) = fragsT T a c ++ [⟨((a + c : Nat) : Int), T.getD (a + c) []⟩] := by simp [fragsT, List.range_succ]
theorem fragsT_length (T : Mat) (a c : Nat) : (fragsT T a c).length = c := by simp [fragsT]
theorem fragsT_getElem (T : Mat) (a c i : Nat) (h : i < (fragsT T a c).length) : (fragsT T a c)[i] = ⟨((a + i : Nat) : Int), T.getD (a + i) []⟩ := by simp [fragsT]
/-- What Complete answers: its error .. -/
def comE (k m1 m2 : Int) (hs : List Frg) : Int := if codeB k m1 = false ∨ codeB k m2 = false ∨ m2 < m1 then 1 else decE k m1 hs
/-- .. the data that it reads .. -/
def comD (k m1 : Nat) (hs : List Frg) : Mat := (wordT k (k + m1) (decD k hs) (rowLen hs)).take k
/-- .. and the new fragments. -/
def comH (k m1 m2 : Nat) (hs : List Frg) : List Frg := fragsT (wordT k (k + m2) (comD k m1 hs) (rowLen hs)) (k + m1) (m2 - m1)
end Go.Proofs.Ytflembddbbkojaa

namespace Go.Proofs.Ytflembddbbkojaa
open Go.RowKit
set_option linter.unusedVariables false
theorem combT_getD (cs : List UInt8) (t : Mat) (m c : Nat) (hc : c < m) : (combT cs t m).getD c 0 = dot cs (fun r => en t r c) t.length := by
  rw [getD_lt _ _ (by rw [combT_length]; exact hc)]
  simp only [combT, List.getElem_map, List.getElem_range]
  rfl
theorem combT_unit (k a L : Nat) (D : Mat) (hD : D.length = k) (hw : Wide D L) (ha : a < k) : combT (coefR k a) D L = D.getD a [] := by
  have hl : (D.getD a []).length = L := hw.getD (by omega)
  apply List.ext_getElem
  · rw [combT_length, hl]
  · intro c h1 h2
    rw [combT_length] at h1
    have e1 := combT_getD (coefR k a) D L c h1
    rw [getD_lt _ _ (by rw [combT_length]; exact h1)] at e1
    rw [e1, hD, dot_unit _ _ _ a ha (fun j hj => by rw [coefR_getD k a j hj, if_pos ha])]
    show en D a c = _
    unfold en
    rw [getD_lt _ 0 h2]
theorem wordT_take (k n L : Nat) (D : Mat) (hD : D.length = k) (hw : Wide D L) (hn : k ≤ n) : (wordT k n D L).take k = D := by
  apply List.ext_getElem
  · rw [List.length_take, wordT_length, hD]; omega
  · intro a h1 h2
    rw [List.getElem_take]
    have h3 : a < k := by omega
    have e := wordT_getD k n D L a (by omega)
    rw [getD_lt _ _ (by rw [wordT_length]; omega)] at e
    rw [e, combT_unit k a L D hD hw h3, getD_lt]
/-- Fragments of the word T, their numbers apart. -/
def Frs (T : Mat) (n : Nat) (hs : List Frg) : Prop := (∀ h ∈ hs, ∃ a, a < n ∧ h.idx = (a : Int) ∧ h.data = T.getD a []) ∧ (idxL hs).Nodup
theorem frs_dec (k m L : Nat) (D : Mat) (hs : List Frg) (hc : codeB k m = true) (hD : D.length = k) (hw : Wide D L) (h : Frs (wordT k (k + m) D L) (k + m) hs) (hl : k ≤ hs.length) :
    decE k m hs = 0 ∧ decD k hs = D ∧ rowLen hs = L := by
  have hg := (codeB_iff k m).1 hc
  have hT := wordT_length k (k + m) D L
  have hTw := wordT_wide k (k + m) D L
  have hdl : ∀ h ∈ hs, h.data.length = L := fun x hx => by
    obtain ⟨a, ha, -, e⟩ := h.1 x hx
    rw [e]; exact hTw.getD (by rw [hT]; exact ha)
  have hrl : rowLen hs = L := by
    unfold rowLen
    rw [getD_lt _ _ (by rw [datas_length]; omega), datas_getElem hs 0 (by omega)]
    exact hdl _ (List.getElem_mem _)
  have hib : idxBad ((k : Int) + (m : Int)) hs = false := by
    unfold idxBad
    rw [List.any_eq_false]
    intro x hx
    obtain ⟨a, ha, e, -⟩ := h.1 x hx
    simp [outB, e]; omega
  have hdb : dupB hs = false := by unfold dupB; simpa using h.2
  have hlb : levelB (datas hs) = true := levelB_yes (m := L) fun r hr => by
    simp only [datas, List.mem_map] at hr
    obtain ⟨x, hx, rfl⟩ := hr
    exact hdl x hx
  have hln : ¬ (hs.length : Int) < (k : Int) := by omega
  have hinj := matK_inj (k := k) (m := m) hc hib hdb hln
  have ek : ((k : Int)).toNat = k := by omega
  have en' : ((k : Int) + (m : Int)).toNat = k + m := by omega
  rw [ek] at hinj
  have hml := matK_length hl
  have hmw := matK_wide k hs
  have hdec : decD k hs = D := by
    apply List.ext_getElem
    · rw [decD_length, hD]
    · intro i h1 h2
      rw [decD_length] at h1
      simp only [decD, List.getElem_map, List.getElem_range]
      apply List.ext_getElem
      · rw [combT_length, hrl]; exact (hw _ (List.getElem_mem h2)).symm
      · intro c c1 c2
        have hcL : c < L := by rw [combT_length, hrl] at c1; exact c1
        have e1 := combT_getD ((invT (matK k hs)).getD i []) ((datas hs).take k) (rowLen hs) c (by rw [hrl]; exact hcL)
        rw [getD_lt _ _ c1] at e1
        have htl : ((datas hs).take k).length = k := by rw [List.length_take, datas_length]; omega
        have hs1 := invT_spec (matK k hs) (by rw [hml]; exact hmw) hinj (fun r => en D r c) (fun j => en ((datas hs).take k) j c) (fun j hj => by
          rw [hml] at hj ⊢
          rw [matK_getD hl j hj]
          have hjl : j < hs.length := by omega
          obtain ⟨a, ha, ea, ed⟩ := h.1 _ (List.getElem_mem hjl)
          show (((datas hs).take k).getD j []).getD c 0 = _
          rw [getD_lt _ [] (by rw [htl]; exact hj), List.getElem_take, datas_getElem hs j hjl, ed, wordT_getD _ _ _ _ _ ha, combT_getD _ _ _ _ hcL, hD, ea]
          rfl) i (by rw [hml]; exact h1)
        rw [hml] at hs1
        rw [e1, htl]
        refine hs1.trans ?_
        show (D.getD i []).getD c 0 = _
        have hrow : D.getD i [] = D[i] := getD_lt _ _ h2
        rw [hrow, getD_lt _ _ c2]
  have hok : okW k (k + m) hs = true := by
    unfold okW
    rw [List.all_eq_true]
    intro x hx
    obtain ⟨a, ha, ea, ed⟩ := h.1 x hx
    rw [hdec, hrl, ed, ea]
    simp
  exact ⟨decE_ok hc hib hdb hln hlb (by rw [ek, en']; exact hok), hdec, hrl⟩
theorem Frs.erase {T : Mat} {n : Nat} {hs : List Frg} (h : Frs T n hs) (x : Nat) : Frs T n (hs.eraseIdx x) := by
  refine ⟨fun y hy => h.1 y (List.mem_of_mem_eraseIdx hy), ?_⟩
  exact h.2.sublist ((List.eraseIdx_sublist hs x).map _)
theorem frags_frs (T : Mat) (a c n : Nat) (h : a + c ≤ n) : Frs T n (fragsT T a c) := by
  refine ⟨fun x hx => ?_, ?_⟩
  · obtain ⟨i, hi, rfl⟩ := List.getElem_of_mem hx
    rw [fragsT_length] at hi
    rw [fragsT_getElem]
    exact ⟨a + i, by omega, rfl, rfl⟩
  · unfold idxL fragsT
    rw [List.map_map]
    rw [List.Nodup, List.pairwise_map]
    exact List.Pairwise.imp (fun {x y} hxy e => hxy (by simp at e; omega)) List.nodup_range
/-- What the first code's fragments and Complete's make together. -/
theorem frs_more (k m1 m2 L : Nat) (D : Mat) (hs : List Frg) (h : Frs (wordT k (k + m1) D L) (k + m1) hs) (hm : m1 ≤ m2) :
    Frs (wordT k (k + m2) D L) (k + m2) (hs ++ fragsT (wordT k (k + m2) D L) (k + m1) (m2 - m1)) := by
  have h2 := frags_frs (wordT k (k + m2) D L) (k + m1) (m2 - m1) (k + m2) (by omega)
  refine ⟨fun x hx => ?_, ?_⟩
  · rcases List.mem_append.1 hx with hx | hx
    · obtain ⟨a, ha, ea, ed⟩ := h.1 x hx
      refine ⟨a, by omega, ea, ?_⟩
      rw [ed, wordT_getD _ _ _ _ _ ha, wordT_getD _ _ _ _ _ (by omega)]
    · exact h2.1 x hx
  · unfold idxL
    rw [List.map_append, List.nodup_append]
    refine ⟨h.2, h2.2, fun a ha b hb e => ?_⟩
    simp only [List.mem_map] at ha hb
    obtain ⟨x, hx, rfl⟩ := ha
    obtain ⟨y, hy, rfl⟩ := hb
    obtain ⟨p, hp, ep, -⟩ := h.1 x hx
    obtain ⟨i, hi, rfl⟩ := List.getElem_of_mem hy
    rw [fragsT_length] at hi
    rw [fragsT_getElem, ep] at e
    simp at e
    omega
/-- What Complete answers on fragments of a word. -/
theorem frs_com (k m1 m2 L : Nat) (D : Mat) (hs : List Frg) (hc : codeB k m1 = true) (hc2 : codeB k m2 = true) (hm : m1 ≤ m2) (hD : D.length = k) (hw : Wide D L) (h : Frs (wordT k (k + m1) D L) (k + m1) hs) (hl : k ≤ hs.length) :
    comE k m1 m2 hs = 0 ∧ comH k m1 m2 hs = fragsT (wordT k (k + m2) D L) (k + m1) (m2 - m1) := by
  obtain ⟨h1, h2, h3⟩ := frs_dec k m1 L D hs hc hD hw h hl
  refine ⟨?_, ?_⟩
  · unfold comE
    rw [if_neg (by simp [hc, hc2]; omega), h1]
  · have e : comD k m1 hs = D := by unfold comD; rw [h2, h3]; exact wordT_take k (k + m1) L D hD hw (by omega)
    unfold comH
    rw [e, h3]
end Go.Proofs.Ytflembddbbkojaa

namespace Go.Proofs.Ytflembddbbkojaa
open Go.RowKit
set_option linter.unusedVariables false
set_option linter.unusedSimpArgs false
set_option maxRecDepth 100000 in
set_option maxHeartbeats 1600000 in
theorem refencode_any (k m n : Nat) (vd : Value) (d : Mat) (w : World) (hc : codeB k m = true) (hk : d.length = k) (hd : MatS w (Bl w.heap.size) vd d) (hw : Wide d n) (hn : n ≤ 65536) :
    Calls Try.prog 17 #[.int .i64 (k : Int), .int .i64 (m : Int), vd] w fun e w' => ∃ v, e = .returned (.tuple #[v, .int .i64 0]) ∧ MatS w' (Bl w'.heap.size) v (wordT k (k + m) d n) ∧ Below w.heap.size w w' := by
  have hck := (codeB_iff k m).1 hc
  obtain ⟨hK1, hK6, -, hM4, hn8⟩ := hck
  have HC := Lib.hid (r07code_any (k : Int) (m : Int) · (by unfold I64; omega) (by unfold I64; omega))
  rw [hc] at HC
  obtain ⟨Ad, cd, rfl, -, -⟩ := hd.form
  have hkk : ((d.length : Int) != (k : Int)) = false := by rw [hk]; simp
  have HK := Lib.hid hk
  clear hc
  generalize hdl : d.length = dl at *
  have HDL := Lib.hid hdl
  clear hk hdl
  go_enter Try.func17, Try.ntmps17
  go_wp2_with fail
  refine (HC.out _).mono ?_
  rintro e w' ⟨rfl, rfl⟩
  go_wp2_with fail
  clear HC hkk
  go_loopg [8, 9] (k + m) (fun z v8 v9 wr => ∃ a : Nat, a ≤ k + m ∧ z = k + m - a ∧ v9 = .int .i64 (a : Int) ∧ OwnM wr w.heap.size v8 (wordT k a d n) ∧ Below w.heap.size w wr)
  case atStart => exact ⟨0, by omega, rfl, rfl, OwnM.nil _ _, Below.refl _ _⟩
  case round =>
    obtain ⟨a, ha, rfl, rfl, hO, hb⟩ := hrel
    have hsz := hb.size
    obtain ⟨A7, c7, hv7⟩ := hO.form
    rw [wordT_length] at hv7
    subst hv7
    by_cases hlt : a < k + m
    · have hlt2 : (a : Int) < (k : Int) + (m : Int) := by omega
      go_wp2_with fail
      refine (factors_any k a wr (by omega) (by omega)).mono ?_
      rintro e w2 ⟨vc, rfl, hvc, hb2⟩
      have hd2 := (hd.below hb).below hb2
      obtain ⟨Ac, cc, hvc2, -, -⟩ := hvc.form
      rw [coefR_length] at hvc2
      subst hvc2
      have hcb := refcombine_any _ _ _ _ n w2 (hvc.mono Fr.bl) hd2 (by rw [coefR_length, HDL.out, HK.out]) (by rw [HDL.out, HK.out]; omega) (by rw [HDL.out, HK.out]; omega) hw hn
      have HCB := Lib.hid hcb
      clear hcb hd2 hvc
      go_wp2_with fail
      refine HCB.out.mono ?_
      rintro e w3 ⟨v3, rfl, hv3, hb3⟩
      have hO3 := (hO.below hb2).below hb3
      have hb13 := hb2.trans (hb3.mono hb2.size)
      obtain ⟨A3, c3, hv32, -, -⟩ := hv3.form
      rw [combT_length] at hv32
      subst hv32
      obtain ⟨xs, ho3, hc3⟩ := hO3
      obtain ⟨xs0, ho0, -⟩ := hO
      have hown0 := ho0.lt
      have hsz3 := Nat.le_trans hsz hb13.size
      rw [wordT_length] at ho3
      have hone : (Value.slice A3 n c3).oneCell' = true := rfl
      clear ho0 xs0
      go_wp2_with (at_builtin; refine app_row (.tmp 40) (.tmp 42) rfl rfl _ _ _ _ (by rfl) ho3 (by rfl) hone (by omega) hsz3 ?_; intro v' w4 hown' hg hat)
      go_roundg (k + m - (a + 1))
      case measure => omega
      case rel =>
        refine ⟨a + 1, by omega, rfl, by go_num, ?_, (hb.trans (hb13.mono hsz)).grown hg hsz3 (fun b h => (ho3.lt b h).1)⟩
        rw [wordT_succ]
        refine OwnM.push (by rw [wordT_length]; exact ho3) hc3 (hv3.mono (fun b hb => ⟨hb.2, Fr.sub (w := w3) hb (fun q hq => Nat.lt_of_lt_of_le (hown0 q hq).2 hb2.size)⟩)) (by rw [wordT_length]; exact hown') hg hat
    · have haI : Hid (a = k + m) := (by omega : a = k + m)
      have hlt2 : ¬ (a : Int) < (k : Int) + (m : Int) := by omega
      go_wp2
      go_ret2
      have h := hO.matS
      rw [haI.out] at h
      exact ⟨_, rfl, by rw [haI.out]; exact h, hb⟩
theorem FragS.same {w : World} {R R' : Nat → Prop} {v : Value} {hs : List Frg} (h : FragS w R v hs) (hr : ∀ b, R b → R' b) : FragS w R' v hs := h.mono hr
end Go.Proofs.Ytflembddbbkojaa
