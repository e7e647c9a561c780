/- Words on memory shared by the proofs of this seat: slices that read as lists. -/
import Derived.WalkKit
import Derived.Lib.Hide
import Derived.Maps.AppendAt
import Derived.BigQuiet
import Derived.Deep.QuietTactic
namespace Go.Proofs.Ytkpfndhocgmgjaa
open Go.RowKit
set_option linter.unusedVariables false
set_option linter.unusedSimpArgs false

def I64 (x : Int) : Prop := -9223372036854775808 ≤ x ∧ x ≤ 9223372036854775807
def Bl (B : Nat) (b : Nat) : Prop := b < B
/-- What lies in the blocks of R is the same in both worlds. -/
def Kept (R : Nat → Prop) (w w' : World) : Prop := ∀ b, R b → w'.heap[b]? = w.heap[b]?
theorem Kept.refl (R : Nat → Prop) (w : World) : Kept R w w := fun _ _ => rfl
theorem Kept.trans {R : Nat → Prop} {a b c : World} (h : Kept R a b) (k : Kept R b c) : Kept R a c := fun x hx => (k x hx).trans (h x hx)
theorem Kept.mono {R R' : Nat → Prop} {a b : World} (h : Kept R a b) (hr : ∀ x, R' x → R x) : Kept R' a b := fun x hx => h x (hr x hx)
theorem Kept.cell {R : Nat → Prop} {w w' : World} (h : Kept R w w') {b o : Nat} (hb : R b) : w'.cell? ⟨b, o, none⟩ = w.cell? ⟨b, o, none⟩ := World.cell?_of_block (w := w) (h b hb)
theorem kept_below {B : Nat} {w w' : World} (h : Below B w w') : Kept (Bl B) w w' := fun b hb => h.block b hb
theorem kept_below' {B B' : Nat} {w w' : World} (h : Below B w w') (hB : B' ≤ B) : Kept (Bl B') w w' := fun b hb => h.block b (Nat.lt_of_lt_of_le hb hB)
theorem kept_alloc (w : World) (o : Obj) : Kept (Bl w.heap.size) w (w.alloc o) := fun b hb => Below.heap_alloc w o b hb
theorem Bl.mono {B B' : Nat} (h : B ≤ B') : ∀ b, Bl B b → Bl B' b := fun _ hb => Nat.lt_of_lt_of_le hb h

/-- The slice value v has n elements; where there is one, they lie in block b of R from off on, and C b off holds. -/
def Row (R : Nat → Prop) (v : Value) (n : Nat) (C : Nat → Nat → Prop) : Prop :=
  ∃ A c, v = .slice A n c ∧ n ≤ c ∧ n ≤ maxLen ∧ (0 < n → ∃ b off, A = some ⟨b, off, none⟩ ∧ R b ∧ C b off)
theorem Row.imp {R R' : Nat → Prop} {v : Value} {n : Nat} {C C' : Nat → Nat → Prop} (h : Row R v n C) (hr : ∀ b, R b → R' b) (hc : ∀ b off, R b → C b off → C' b off) : Row R' v n C' := by
  obtain ⟨A, c, h1, h2, h3, h4⟩ := h
  refine ⟨A, c, h1, h2, h3, fun hn => ?_⟩
  obtain ⟨b, off, e, hb, k⟩ := h4 hn
  exact ⟨b, off, e, hr b hb, hc b off hb k⟩
theorem Row.nil (R : Nat → Prop) (c : Nat) (C : Nat → Nat → Prop) : Row R (.slice none 0 c) 0 C := ⟨none, c, rfl, Nat.zero_le _, Nat.zero_le _, fun h => absurd h (by omega)⟩

/-- A []int that reads as xs. -/
def IntS (w : World) (R : Nat → Prop) (v : Value) (xs : List Int) : Prop :=
  Row R v xs.length (fun b off => ∀ k x, xs[k]? = some x → w.cell? ⟨b, off + k, none⟩ = some (.int .i64 x)) ∧ ∀ x ∈ xs, I64 x
theorem IntS.keep {w w' : World} {R : Nat → Prop} {v : Value} {xs : List Int} (h : IntS w R v xs) (hk : Kept R w w') : IntS w' R v xs :=
  ⟨h.1.imp (fun _ hb => hb) fun b off hb hc k x hx => (hk.cell hb).trans (hc k x hx), h.2⟩
theorem IntS.mono {w : World} {R R' : Nat → Prop} {v : Value} {xs : List Int} (h : IntS w R v xs) (hr : ∀ b, R b → R' b) : IntS w R' v xs :=
  ⟨h.1.imp hr fun _ _ _ hc => hc, h.2⟩
theorem IntS.nil (w : World) (R : Nat → Prop) (c : Nat) : IntS w R (.slice none 0 c) [] := ⟨Row.nil _ _ _, fun _ h => by cases h⟩
theorem IntS.elem {w : World} {R : Nat → Prop} {v : Value} {xs : List Int} (h : IntS w R v xs) {k : Nat} {x : Int} (hk : xs[k]? = some x) : I64 x := h.2 x (List.mem_of_getElem? hk)
/-- An owned row of ints, as a reading. -/
theorem IntS.own {w : World} {base : Nat} {e : TypeId} {v : Value} {n : Nat} {xs : List Int} {R : Nat → Prop} (h : w.ownsRow base e 1 v n (xs.map (Value.int .i64))) (hR : ∀ b, v.ownBlock = some b → R b) (hx : ∀ x ∈ xs, I64 x) : IntS w R v xs := by
  have hl : xs.length = n := by have := h.1; simpa using this
  refine ⟨?_, hx⟩
  have hc := fun g => h.cells (g := g)
  rcases h.2 with ⟨rfl, rfl⟩ | ⟨g, cap, cur, rfl, _, _, h2, h3, _⟩
  · rw [hl]; exact Row.nil _ _ _
  · rw [hl]
    refine ⟨_, cap, rfl, h2, Nat.le_trans h2 h3, fun _ => ⟨g, 0, rfl, hR g rfl, fun k x hk => ?_⟩⟩
    have := hc g rfl k (.int .i64 x) (by simp [hk])
    rw [← this]
    unfold Addr.add; split <;> simp_all

/-- A []byte that reads as l. -/
def bys (l : List UInt8) : List Value := l.map fun b => Value.int .u8 (b.toNat : Int)
theorem bys_snoc (l : List UInt8) (c : UInt8) : bys (l ++ [c]) = bys l ++ [.int .u8 (c.toNat : Int)] := by simp [bys]
theorem bys_append (l m : List UInt8) : bys (l ++ m) = bys l ++ bys m := by simp [bys]
def ByS (w : World) (R : Nat → Prop) (v : Value) (l : List UInt8) : Prop :=
  Row R v l.length (fun b off => ∀ k x, l[k]? = some x → w.cell? ⟨b, off + k, none⟩ = some (.int .u8 (x.toNat : Int)))
theorem ByS.keep {w w' : World} {R : Nat → Prop} {v : Value} {l : List UInt8} (h : ByS w R v l) (hk : Kept R w w') : ByS w' R v l :=
  h.imp (fun _ hb => hb) fun b off hb hc k x hx => (hk.cell hb).trans (hc k x hx)
theorem ByS.mono {w : World} {R R' : Nat → Prop} {v : Value} {l : List UInt8} (h : ByS w R v l) (hr : ∀ b, R b → R' b) : ByS w R' v l := h.imp hr fun _ _ _ hc => hc
theorem ByS.nil (w : World) (R : Nat → Prop) (c : Nat) : ByS w R (.slice none 0 c) [] := Row.nil _ _ _
theorem ByS.own {w : World} {base : Nat} {e : TypeId} {v : Value} {n : Nat} {l : List UInt8} {R : Nat → Prop} (h : w.ownsRow base e 1 v n (bys l)) (hR : ∀ b, v.ownBlock = some b → R b) : ByS w R v l := by
  have hl : l.length = n := by have := h.1; simpa [bys] using this
  have hc := fun g => h.cells (g := g)
  unfold ByS
  rcases h.2 with ⟨rfl, rfl⟩ | ⟨g, cap, cur, rfl, _, _, h2, h3, _⟩
  · rw [hl]; exact Row.nil _ _ _
  · rw [hl]
    refine ⟨_, cap, rfl, h2, Nat.le_trans h2 h3, fun _ => ⟨g, 0, rfl, hR g rfl, fun k x hk => ?_⟩⟩
    have := hc g rfl k (.int .u8 (x.toNat : Int)) (by simp [bys, hk])
    rw [← this]
    unfold Addr.add; split <;> simp_all
theorem ByS.conv {P : Program} {w : World} {R : Nat → Prop} {v : Value} {l : List UInt8} (h : ByS w R v l) {src dst e : TypeId} (hs : P.underlying src = some (.slice e)) (he : P.underlying e = some (.int .u8)) (hd : P.underlying dst = some .string) :
    (convert src dst v).run P w = .ok (.string ⟨l.toArray⟩) w := by
  obtain ⟨A, c, rfl, h1, h2, h3⟩ := h
  by_cases h0 : 0 < l.length
  · obtain ⟨b, off, rfl, _, hc⟩ := h3 h0
    refine run_convert_bytes_back w src dst e _ c l hs he hd fun j hj => ?_
    have := hc j l[j] (List.getElem?_eq_getElem hj)
    rw [← this]
    unfold Addr.add; split <;> simp_all
  · have hn : l = [] := List.eq_nil_of_length_eq_zero (by omega)
    subst hn
    cases A with
    | none => exact run_convert_bytes_nil w src e hs he _ _ dst hd
    | some ad => exact run_convert_bytes_back w src dst e ad c [] hs he hd fun j hj => absurd hj (by simp)
theorem ByS.lit (w : World) (l : List UInt8) (t : TypeId) (hl : l.length ≤ maxLen) : ByS (w.alloc (.cells (bys l).toArray t)) (Bl (w.heap.size + 1)) (.slice (some ⟨w.heap.size, 0, none⟩) l.length l.length) l :=
  ⟨_, _, rfl, Nat.le_refl _, hl, fun _ => ⟨_, _, rfl, Nat.lt_succ_self _, fun k x hk => by
    rw [Nat.zero_add, cell_of_row _ _ _ _ _ _ (heap_alloc_new w _)]
    simp [bys, hk]⟩⟩
/-- 'append(s, x)': the element x first lies in a new block of its own; s is the call's own. -/
theorem wpList_append1 {P : Program} {ops : Array Oper} {rest : List Oper} {o : Oper} {a : Act} {Q : Exit → Act → World → Prop} {w : World} {cs : Array Value} {e : TypeId} (hgd : o.guard = none) (s x : Operand) (t : TypeId)
    (ho : o.op = .call { callee := .builtin .append, args := #[s, x], argTypes := #[t, t] })
    (base : Nat) (i : TypeInfo) (z : Value) (size bytes : Nat) (ht : P.underlying t = some (.slice e)) (hi : P.info? e = some i) (hz : i.zero = some z)
    (hsize : i.size = size) (hby : i.bytes = bytes) (hzs : z.cells.size = size) (hsz : 0 < size) (hbs : bytes ≤ 4096)
    (v : Value) (n : Nat) (xs : List Value) (hs : a.eval s = v) (hown : w.ownsRow base e size v n xs)
    (hx : a.eval x = .slice (some ⟨w.heap.size, 0, none⟩) 1 1) (hcs : cs.size = size) (h1 : ∀ u ∈ cs.toList, u.oneCell' = true)
    (hn : n + 1 ≤ 16777216) (hbase : base ≤ w.heap.size)
    (h : ∀ v' w', w'.ownsRow base e size v' (n + 1) (xs ++ cs.toList) → w.grownBy w' v.ownBlock → (v'.ownBlock = v.ownBlock ∨ v'.ownBlock = some (w.heap.size + 1)) → wpList P ops Q rest (a.put o.dst v') w') :
    wpList P ops Q (o :: rest) a (w.alloc (.cells cs e)) := by
  refine wpList_append_own_at (P := P) _ hgd s x t ho base e i z size bytes ht hi hz hsize hby hzs hsz v n xs hs (hown.alloc _) ⟨w.heap.size, 0, none⟩ 1 1 cs.toList hx (by simp [hcs]) ?_ h1 (by unfold maxLen; omega) ?_ (by simp; omega) ?_
  · intro j u hj
    have e1 : (⟨w.heap.size, 0, none⟩ : Addr).add j = ⟨w.heap.size, j, none⟩ := by unfold Addr.add; split <;> simp_all
    rw [e1, cell_of_row _ _ _ _ _ _ (heap_alloc_new w _)]
    simpa using hj
  · calc (n + 1) * bytes ≤ 16777216 * 4096 := Nat.mul_le_mul hn hbs
      _ ≤ 140737488355328 := by decide
  · intro v' w' h2 h3 _ h5
    refine h v' w' h2 ⟨h3.os, h3.tape, h3.output, Nat.le_trans (by simp) h3.size, fun k hk hne => (h3.block k (by simp; omega) hne).trans (Below.heap_alloc w _ k hk)⟩ ?_
    simpa using h5

/-- The same with m elements in one new block. -/
theorem wpList_appendm {P : Program} {ops : Array Oper} {rest : List Oper} {o : Oper} {a : Act} {Q : Exit → Act → World → Prop} {w : World} {cs : Array Value} {e : TypeId} (hgd : o.guard = none) (s x : Operand) (t : TypeId)
    (ho : o.op = .call { callee := .builtin .append, args := #[s, x], argTypes := #[t, t] })
    (base : Nat) (i : TypeInfo) (z : Value) (size bytes : Nat) (ht : P.underlying t = some (.slice e)) (hi : P.info? e = some i) (hz : i.zero = some z)
    (hsize : i.size = size) (hby : i.bytes = bytes) (hzs : z.cells.size = size) (hsz : 0 < size) (hbs : bytes ≤ 4096)
    (v : Value) (n m : Nat) (xs : List Value) (hs : a.eval s = v) (hown : w.ownsRow base e size v n xs)
    (hx : a.eval x = .slice (some ⟨w.heap.size, 0, none⟩) m m) (hcs : cs.size = m * size) (h1 : ∀ u ∈ cs.toList, u.oneCell' = true)
    (hn : n + m ≤ 16777216) (hbase : base ≤ w.heap.size)
    (h : ∀ v' w', w'.ownsRow base e size v' (n + m) (xs ++ cs.toList) → w.grownBy w' v.ownBlock → (v'.ownBlock = v.ownBlock ∨ v'.ownBlock = some (w.heap.size + 1)) → wpList P ops Q rest (a.put o.dst v') w') :
    wpList P ops Q (o :: rest) a (w.alloc (.cells cs e)) := by
  refine wpList_append_own_at (P := P) _ hgd s x t ho base e i z size bytes ht hi hz hsize hby hzs hsz v n xs hs (hown.alloc _) ⟨w.heap.size, 0, none⟩ m m cs.toList hx (by simp [hcs]) ?_ h1 (by unfold maxLen; omega) ?_ (by simp; omega) ?_
  · intro j u hj
    have e1 : (⟨w.heap.size, 0, none⟩ : Addr).add j = ⟨w.heap.size, j, none⟩ := by unfold Addr.add; split <;> simp_all
    rw [e1, cell_of_row _ _ _ _ _ _ (heap_alloc_new w _)]
    simpa using hj
  · calc (n + m) * bytes ≤ 16777216 * 4096 := Nat.mul_le_mul hn hbs
      _ ≤ 140737488355328 := by decide
  · intro v' w' h2 h3 _ h5
    refine h v' w' h2 ⟨h3.os, h3.tape, h3.output, Nat.le_trans (by simp) h3.size, fun k hk hne => (h3.block k (by simp; omega) hne).trans (Below.heap_alloc w _ k hk)⟩ ?_
    simpa using h5

theorem drawn2 (w : World) (a b : Nat) : ∃ n, (w.drewN a).drewN b = w.drewN n := ⟨a + b, World.drewN_drewN w a b⟩
theorem Below.on {B : Nat} {w W w2 : World} (h1 : Below B w W) (hB : B ≤ W.heap.size) (h : Below W.heap.size W w2) : Below B w w2 := h1.trans (h.mono hB)
theorem below_box {w w2 : World} {o : Obj} (h : Below (w.alloc o).heap.size (w.alloc o) w2) : Below w.heap.size w w2 :=
  Below.on ((Below.refl w.heap.size w).alloc (Nat.le_refl _) o) (by simp) h
theorem below_boxd {w w2 : World} {o : Obj} (h : Below (w.alloc o).drew.heap.size (w.alloc o).drew w2) : Below w.heap.size w w2 :=
  Below.on (((Below.refl w.heap.size w).alloc (Nat.le_refl _) o).drew) (by simp) h
theorem results_tmp4 {fn : Func} {t u v x : Tmp} (h : fn.results = #[.tmp t, .tmp u, .tmp v, .tmp x]) (tmps : Array Value) (P : Program) (w : World) :
    (results fn tmps).run P w = .ok (.tuple #[tmps.getD t undef, tmps.getD u undef, tmps.getD v undef, tmps.getD x undef]) w := by simp [results, h]
theorem ret_int {k : IntKind} {a b : Int} (h : a = b) : Ending.returned (.int k a) = .returned (.int k b) := by rw [h]
theorem ret_bool {a b : Bool} (h : a = b) : Ending.returned (.bool a) = .returned (.bool b) := by rw [h]
theorem bcell {W w1 : World} (hb : Below W.heap.size W w1) : (∀ b o, b < W.heap.size → w1.cell? ⟨b, o, none⟩ = W.cell? ⟨b, o, none⟩) ∧ (∀ b o, b < W.heap.size → w1.frozen? ⟨b, o, none⟩ = W.frozen? ⟨b, o, none⟩) :=
  ⟨fun b o h => hb.cell (p := ⟨b, o, none⟩) h, fun b o h => hb.frozen (p := ⟨b, o, none⟩) h⟩
theorem Below.drewN' {B : Nat} {a w : World} (h : Below B a w) (n : Nat) : Below B a (w.drewN n) := ⟨h.os, h.tape, h.output, h.size, h.block⟩
end Go.Proofs.Ytkpfndhocgmgjaa
