/- Rows that the call has built by appends. -/
import Derived.Test.YtkpfndhocgmgjaaGMX
import Derived.Test.YtkpfndhocgmgjaaGI1
namespace Go.Proofs.Ytkpfndhocgmgjaa
open Go.RowKit
set_option linter.unusedVariables false
set_option linter.unusedSimpArgs false
def rowC (q m c : Nat) : Value := .slice (some ⟨q, 0, none⟩) m c
structure RowsO (W : World) (B : Nat) (qs cs : List Nat) (t : Mat) (m : Nat) : Prop where
  len : qs.length = t.length
  lenc : cs.length = t.length
  inj : ∀ i j, i < t.length → j < t.length → qs.getD i 0 = qs.getD j 0 → i = j
  wide : Wide t m
  own : ∀ i, i < t.length → W.ownsRow B 5 1 (rowC (qs.getD i 0) m (cs.getD i 0)) m (bys (t.getD i []))
theorem own_lt {W : World} {B : Nat} {e : TypeId} {q n m c : Nat} {xs : List Value} (h : W.ownsRow B e 1 (rowC q n c) m xs) : B ≤ q ∧ q < W.heap.size := h.lt q rfl
theorem own_cap {W : World} {B : Nat} {e : TypeId} {q m c : Nat} {xs : List Value} (h : W.ownsRow B e 1 (rowC q m c) m xs) : m ≤ c := by
  rcases h.2 with ⟨h', _⟩ | ⟨g', cap', cur, h', _, _, h2, _⟩
  · simp [rowC] at h'
  · simp only [rowC, Value.slice.injEq] at h'
    omega
/-- Rows of elements of two types lie in two blocks. -/
theorem own_apart {W : World} {B B' : Nat} {e e' : TypeId} {s s' n n' g g' : Nat} {v v' : Value} {xs xs' : List Value} (h : W.ownsRow B e s v n xs) (h' : W.ownsRow B' e' s' v' n' xs') (he : e ≠ e') (hg : v.ownBlock = some g) (hg' : v'.ownBlock = some g') : g ≠ g' := by
  intro hgg
  subst hgg
  rcases h.2 with ⟨rfl, _⟩ | ⟨k, cap, cur, rfl, _, hh, _⟩
  · simp [Value.ownBlock] at hg
  · rcases h'.2 with ⟨rfl, _⟩ | ⟨k', cap', cur', rfl, _, hh', _⟩
    · simp [Value.ownBlock] at hg'
    · simp only [Value.ownBlock, Option.some.injEq] at hg hg'
      subst hg
      subst hg'
      rw [hh] at hh'
      injection hh' with hh'
      injection hh' with _ hh'
      exact he hh'
theorem RowsO.nil (W : World) (B m : Nat) : RowsO W B [] [] [] m := ⟨rfl, rfl, (fun i j hi => by cases hi), (fun r hr => by cases hr), (fun i hi => by cases hi)⟩
theorem RowsO.kept {W W' : World} {B : Nat} {qs cs : List Nat} {t : Mat} {m : Nat} (h : RowsO W B qs cs t m) {row : Option Nat} (hg : W.grownBy W' row) (hne : ∀ i, i < t.length → row ≠ some (qs.getD i 0)) : RowsO W' B qs cs t m :=
  ⟨h.len, h.lenc, h.inj, h.wide, fun i hi => (h.own i hi).kept hg (.inr fun e => hne i hi (by rw [← e]; rfl))⟩
theorem grown_of_below {W W' : World} (hb : Below W.heap.size W W') : W.grownBy W' none := ⟨hb.os, hb.tape, hb.output, hb.size, fun k hk _ => hb.block k hk⟩
theorem RowsO.below {W W' : World} {B : Nat} {qs cs : List Nat} {t : Mat} {m : Nat} (h : RowsO W B qs cs t m) (hb : Below W.heap.size W W') : RowsO W' B qs cs t m := h.kept (grown_of_below hb) (fun i hi e => by cases e)
theorem own_below {w w2 : World} {base : Nat} {e : TypeId} {size : Nat} {v : Value} {n : Nat} {xs : List Value} (h : w.ownsRow base e size v n xs) (hb : Below w.heap.size w w2) : w2.ownsRow base e size v n xs := by
  refine h.kept (w' := w2) (row := none) (grown_of_below hb) ?_
  cases hv : v.ownBlock with
  | none => exact .inl rfl
  | some g => exact .inr (by simp)
theorem own_base {W : World} {B B' : Nat} {e : TypeId} {s n : Nat} {v : Value} {xs : List Value} (h : W.ownsRow B e s v n xs) (hB : B' ≤ B) : W.ownsRow B' e s v n xs := by
  refine ⟨h.1, ?_⟩
  rcases h.2 with h1 | ⟨g, cap, cur, h1, h2, h3⟩
  · exact .inl h1
  · exact .inr ⟨g, cap, cur, h1, by omega, h3⟩
theorem RowsO.push {W : World} {B : Nat} {qs cs : List Nat} {t : Mat} {m : Nat} (h : RowsO W B qs cs t m) {q c : Nat} {r : List UInt8} (ho : W.ownsRow B 5 1 (rowC q m c) m (bys r)) (hr : r.length = m) (hq : ∀ i, i < t.length → qs.getD i 0 < q) : RowsO W B (qs ++ [q]) (cs ++ [c]) (t ++ [r]) m := by
  have hl := h.len
  have hlc := h.lenc
  have hlen : (t ++ [r]).length = t.length + 1 := by simp
  refine ⟨by simp [hl], by simp [hlc], ?_, ?_, ?_⟩
  · intro i j hi hj e
    rw [hlen] at hi hj
    by_cases h1 : i < t.length
    · by_cases h2 : j < t.length
      · rw [getD_append_lt _ _ _ (by omega), getD_append_lt _ _ _ (by omega)] at e; exact h.inj i j h1 h2 e
      · have h3 : j = t.length := by omega
        rw [getD_append_lt _ _ _ (by omega), h3, getD_last _ _ _ _ hl] at e
        have := hq i h1; omega
    · have h3 : i = t.length := by omega
      by_cases h2 : j < t.length
      · rw [getD_append_lt qs _ _ (i := j) (by omega), h3, getD_last _ _ _ _ hl] at e
        have := hq j h2; omega
      · omega
  · intro x hx
    rcases List.mem_append.1 hx with h1 | h1
    · exact h.wide x h1
    · rw [List.mem_singleton.1 h1]; exact hr
  · intro i hi
    rw [hlen] at hi
    by_cases h1 : i < t.length
    · rw [getD_append_lt _ _ _ (by omega), getD_append_lt _ _ _ (by omega), getD_append_lt _ _ _ h1]; exact h.own i h1
    · have h3 : i = t.length := by omega
      rw [h3, getD_last _ _ _ _ hl, getD_last _ _ _ _ hlc, getD_last _ _ _ _ rfl]
      exact ho
theorem RowsO.matX {W : World} {B g n cap : Nat} {qs cs : List Nat} {t : Mat} {m : Nat} {xs : List Value} (h : RowsO W B qs cs t m) (ho : W.ownsRow B 25 1 (rowC g n cap) n xs) (hn : n = t.length) (hx : ∀ i, i < n → xs.getD i undef = rowC (qs.getD i 0) m (cs.getD i 0)) : MatX W B g qs cs t m := by
  have hxl : xs.length = n * 1 := ho.1
  refine ⟨fun i hi => ⟨?_, ho.frozenAt i⟩, h.len, h.lenc, h.inj, fun i hi j hj => ⟨?_, (h.own i hi).frozenAt j⟩, h.wide, fun i hi => (own_lt (h.own i hi)).1, (own_lt ho).1, ?_, fun i hi => own_cap (h.own i hi)⟩
  · rw [ho.cellAt i (by omega), List.getElem?_eq_getElem (by omega), ← getD_lt xs undef (by omega), hx i (by omega)]; rfl
  · have hw := h.wide.getD hi
    rw [(h.own i hi).cellAt j (by omega)]
    unfold en
    rw [getD_lt _ 0 (by omega)]
    unfold bys
    rw [List.getElem?_map, List.getElem?_eq_getElem (by omega)]
    rfl
  · intro i hi
    exact fun e => own_apart (h.own i hi) ho (by decide) (g := qs.getD i 0) (g' := g) rfl rfl e
/-- 'append([]byte(nil), x...)': a copy of bytes, owned. -/
theorem app_copyO {ops : Array Oper} {rest : List Oper} {o : Oper} {a : Act} {Q : Exit → Act → World → Prop} {w : World} (s x : Operand) (hgd : o.guard = none) (ho : o.op = .call { callee := .builtin .append, args := #[s, x], argTypes := #[25, 25] })
    (l : List UInt8) (b off n c : Nat) (hs : a.eval s = .slice none 0 0) (hx : a.eval x = .slice (some ⟨b, off, none⟩) n c) (hnl : l.length = n) (hcell : ∀ j (h : j < l.length), w.cell? ⟨b, off + j, none⟩ = some (.int .u8 (l[j].toNat : Int))) (hn : l.length ≤ 65536)
    (h : ∀ v' w', w'.ownsRow w.heap.size 5 1 v' n (bys l) → Below w.heap.size w w' → wpList Try.prog ops Q rest (a.put o.dst v') w') :
    wpList Try.prog ops Q (o :: rest) a w := by
  subst hnl
  obtain ⟨i0, hi0, hz0, hz1, hz2⟩ := info_parts info_u8
  refine wpList_append_own_at (P := Try.prog) _ hgd s x _ ho w.heap.size _ i0 _ 1 1 Try.underlying25 hi0 hz0 hz1 hz2 rfl (by omega) (.slice none 0 0) 0 [] hs (World.ownsRow_nil _ _ _ _) ⟨b, off, none⟩ l.length c (bys l) hx (by simp [bys]) ?_ ?_ (by unfold maxLen; omega) (by omega) (Nat.le_refl _) ?_
  · intro j u hj
    have hjl : j < l.length := by have := (List.getElem?_eq_some_iff.1 hj).1; simpa [bys] using this
    have e1 : (⟨b, off, none⟩ : Addr).add j = ⟨b, off + j, none⟩ := by unfold Addr.add; split <;> simp_all
    rw [e1, hcell j hjl]
    simpa [bys, hjl] using hj
  · intro u hu; simp only [bys, List.mem_map] at hu; obtain ⟨y, -, rfl⟩ := hu; rfl
  · intro v' w' h4 h5 _ _
    have hb : Below w.heap.size w w' := ⟨h5.os, h5.tape, h5.output, h5.size, fun i hi => h5.block i hi (by simp [Value.ownBlock])⟩
    rw [Nat.zero_add, List.nil_append] at h4
    exact h v' w' h4 hb
theorem app_u8 {ops : Array Oper} {rest : List Oper} {o : Oper} {a : Act} {Q : Exit → Act → World → Prop} {w : World} {x0 : Value} (s x : Operand) (hgd : o.guard = none) (ho : o.op = .call { callee := .builtin .append, args := #[s, x], argTypes := #[25, 25] })
    (base : Nat) (v : Value) (n : Nat) (xs : List Value) (hs : a.eval s = v) (hown : w.ownsRow base 5 1 v n xs)
    (hx : a.eval x = .slice (some ⟨w.heap.size, 0, none⟩) 1 1) (h1 : x0.oneCell' = true) (hn : n + 1 ≤ 16777216) (hbase : base ≤ w.heap.size)
    (h : ∀ v' w', w'.ownsRow base 5 1 v' (n + 1) (xs ++ [x0]) → w.grownBy w' v.ownBlock → (v'.ownBlock = v.ownBlock ∨ v'.ownBlock = some (w.heap.size + 1)) → wpList Try.prog ops Q rest (a.put o.dst v') w') :
    wpList Try.prog ops Q (o :: rest) a (w.alloc (.cells #[x0] 5)) := by
  obtain ⟨i0, hi0, hz0, hz1, hz2⟩ := info_parts info_u8
  exact wpList_append1 hgd s x _ ho base i0 _ 1 1 Try.underlying25 hi0 hz0 hz1 hz2 rfl (by omega) (by omega) v n xs hs hown hx rfl (by simpa using h1) hn hbase h
theorem app_row {ops : Array Oper} {rest : List Oper} {o : Oper} {a : Act} {Q : Exit → Act → World → Prop} {w : World} {x0 : Value} (s x : Operand) (hgd : o.guard = none) (ho : o.op = .call { callee := .builtin .append, args := #[s, x], argTypes := #[35, 35] })
    (base : Nat) (v : Value) (n : Nat) (xs : List Value) (hs : a.eval s = v) (hown : w.ownsRow base 25 1 v n xs)
    (hx : a.eval x = .slice (some ⟨w.heap.size, 0, none⟩) 1 1) (h1 : x0.oneCell' = true) (hn : n + 1 ≤ 16777216) (hbase : base ≤ w.heap.size)
    (h : ∀ v' w', w'.ownsRow base 25 1 v' (n + 1) (xs ++ [x0]) → w.grownBy w' v.ownBlock → (v'.ownBlock = v.ownBlock ∨ v'.ownBlock = some (w.heap.size + 1)) → wpList Try.prog ops Q rest (a.put o.dst v') w') :
    wpList Try.prog ops Q (o :: rest) a (w.alloc (.cells #[x0] 25)) := by
  obtain ⟨i0, hi0, hz0, hz1, hz2⟩ := info_parts info_row
  exact wpList_append1 hgd s x _ ho base i0 _ 1 24 Try.underlying35 hi0 hz0 hz1 hz2 rfl (by omega) (by omega) v n xs hs hown hx rfl (by simpa using h1) hn hbase h
end Go.Proofs.Ytkpfndhocgmgjaa
