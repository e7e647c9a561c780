/- The policy of a volume, and how many fragments of a stripe are intact: the reference, walked. -/
import Derived.BigQuiet
import Derived.Deep.QuietTactic
import Derived.Deep.MidRow
import Derived.Test.YtmehadfhcdpfcaaGreatMc21
import Derived.Test.YtmehadfhcdpfcaaGreatMc15
import Derived.Test.YtmehadfhcdpfcaaGreatMc01
import Derived.Test.YtmehadfhcdpfcaaGreatMc17
import Derived.Test.YtmehadfhcdpfcaaGreatMc18
import Derived.Test.YtmehadfhcdpfcaaGreatMc20
import Derived.Test.YtmehadfhcdpfcaaGreatMc02
import Derived.Test.YtmehadfhcdpfcaaGreatMc19
import Derived.Test.YtmehadfhcdpfcaaGreatMc07
import Derived.Test.YtmehadfhcdpfcaaGreatMc09
namespace Go.Proofs.YtmehadfhcdpfcaaGreat
open Go.RowKit
set_option linter.unusedVariables false
set_option linter.unusedSimpArgs false
def volP (F : FltM) (v : Nat) : Nat := match F.vols[v]? with | some x => x.pol.toNat | none => 0
def kOf (F : FltM) (v : Nat) : Int := match F.pols[volP F v]? with | some x => x.k | none => 1
def mOf (F : FltM) (v : Nat) : Int := match F.pols[volP F v]? with | some x => x.m | none => 0
def qOf (F : FltM) (v : Nat) : Int := match F.pols[volP F v]? with | some x => x.q | none => 1
def PolAt (w : World) (F : FltM) (pb pof ob oof : Nat) : Prop := ∀ v, v < F.vols.length → volP F v < F.pols.length ∧ ∃ nm : ByteArray, w.rangeAt ob (oof + v * 2) [.string nm, .int .i64 (volP F v : Int)] ∧
 ∃ a0 a4 a5 a6 a7 a8 a9 a10 a11 a12 a13 a14 a15 a16 : Value, w.rangeAt pb (pof + volP F v * 17) [a0, .int .i64 (kOf F v), .int .i64 (mOf F v), .int .i64 (qOf F v), a4, a5, a6, a7, a8, a9, a10, a11, a12, a13, a14, a15, a16] ∧ (#[a0, .int .i64 (kOf F v), .int .i64 (mOf F v), .int .i64 (qOf F v), a4, a5, a6, a7, a8, a9, a10, a11, a12, a13, a14, a15, a16] : Array Value).all (·.oneCell') = true
theorem PolAt.same {w w' : World} {F : FltM} {pb pof ob oof : Nat} (h : PolAt w F pb pof ob oof) (e1 : w'.heap[pb]? = w.heap[pb]?) (e2 : w'.heap[ob]? = w.heap[ob]?) : PolAt w' F pb pof ob oof := fun v hv => by
 obtain ⟨h1, nm, h2, a0, a4, a5, a6, a7, a8, a9, a10, a11, a12, a13, a14, a15, a16, h3, h4⟩ := h v hv
 exact ⟨h1, nm, range_same h2 e2, a0, a4, a5, a6, a7, a8, a9, a10, a11, a12, a13, a14, a15, a16, range_same h3 e1, h4⟩
theorem volP_lt {N : Nat} {F : FltM} (hok : FleetOk N F) {v : Nat} (hv : v < F.vols.length) : volP F v < F.pols.length ∧ (F.vols[v]).pol = (volP F v : Int) := by
 obtain ⟨-, -, p, h1, h2⟩ := hok.vols v F.vols[v] (List.getElem?_eq_getElem hv)
 have e : volP F v = p := by unfold volP; rw [List.getElem?_eq_getElem hv]; simp [h1]
 rw [e]; exact ⟨h2, h1⟩
theorem kmq_ok {N : Nat} {F : FltM} (hok : FleetOk N F) {v : Nat} (hv : v < F.vols.length) : (kOf F v = 1 ∨ kOf F v = 2) ∧ 0 ≤ mOf F v ∧ mOf F v ≤ 2 ∧ kOf F v ≤ qOf F v ∧ qOf F v ≤ kOf F v + mOf F v := by
 have hp := (volP_lt hok hv).1
 obtain ⟨-, -, h1, h2, h3, h4, h5, -⟩ := hok.pols (volP F v) F.pols[volP F v] (List.getElem?_eq_getElem hp)
 unfold kOf mOf qOf
 rw [List.getElem?_eq_getElem hp]
 exact ⟨h1, h2, h3, h4, h5⟩
theorem polAt {N : Nat} {F : FltM} {w : World} {R : Nat → Prop} {vl vm vd vv vp vo : Value} (hf : FleetS w R vl vm vd vv vp vo F) (hok : FleetOk N F) :
  ∃ pb pof ob oof cp co, vp = .slice (some ⟨pb, pof, none⟩) F.pols.length cp ∧ vo = .slice (some ⟨ob, oof, none⟩) F.vols.length co ∧ R pb ∧ R ob ∧ PolAt w F pb pof ob oof := by
 obtain ⟨Ap, cp, rfl, -, -⟩ := hf.2.2.2.2.1.form
 obtain ⟨Ao, co, rfl, -, -⟩ := hf.2.2.2.2.2.form
 obtain ⟨pb, pof, cs0, rfl, hRp, -⟩ := hf.2.2.2.2.1.at_ (k := 0) (by have := hok.pol1; omega)
 obtain ⟨ob, oof, cs1, rfl, hRo, -⟩ := hf.2.2.2.2.2.at_ (k := 0) (by have := hok.vol1; omega)
 refine ⟨pb, pof, ob, oof, cp, co, rfl, rfl, hRp, hRo, fun v hv => ?_⟩
 obtain ⟨hp, hpe⟩ := volP_lt hok hv
 refine ⟨hp, F.vols[v].name, ?_, ?_⟩
 ·obtain ⟨b, off, cs, e, -, -, hc, hcs⟩ := hf.2.2.2.2.2.at_ (k := v) hv
  injection e with e
  injection e with e1 e2
  subst e1 e2
  unfold VolK at hcs
  rw [hpe] at hcs
  subst hcs
  exact hc
 ·obtain ⟨b, off, cs, e, -, -, hc, vm, vr, tn, td, hn, hd, hcs, k1, k2, k3, k4, k5, k6⟩ := hf.2.2.2.2.1.at_ (k := volP F v) hp
  injection e with e
  injection e with e1 e2
  subst e1 e2
  obtain ⟨A1, c1, rfl, -, -⟩ := k1.form7
  obtain ⟨A2, c2, rfl, -, -⟩ := k2.form
  obtain ⟨A3, N3, c3, rfl⟩ := k3.frm
  obtain ⟨A4, N4, c4, rfl⟩ := k4.frm
  obtain ⟨A5, N5, c5, rfl⟩ := k5.frm
  obtain ⟨A6, N6, c6, rfl⟩ := k6.frm
  subst hcs
  have ek : kOf F v = F.pols[volP F v].k := by unfold kOf; rw [List.getElem?_eq_getElem hp]
  have em : mOf F v = F.pols[volP F v].m := by unfold mOf; rw [List.getElem?_eq_getElem hp]
  have eq : qOf F v = F.pols[volP F v].q := by unfold qOf; rw [List.getElem?_eq_getElem hp]
  rw [ek, em, eq]
  exact ⟨_, _, _, _, _, _, _, _, _, _, _, _, _, _, hc, by simp [Value.oneCell']⟩
def HeldC (W0 : World) (y g : Nat) (a b c d e : Value) (w' : World) : Prop :=
 w'.cell? ⟨y, 0, none⟩ = some a ∧ w'.cell? ⟨y, 1, none⟩ = some b ∧ w'.cell? ⟨y, 2, none⟩ = some c ∧ w'.cell? ⟨g, 1, none⟩ = some d ∧ w'.cell? ⟨g, 2, none⟩ = some e ∧ Below W0.heap.size W0 w'
theorem HeldC.below {W0 wc w2 : World} {y g : Nat} {a b c d e : Value} (h : HeldC W0 y g a b c d e wc) (hb : Below wc.heap.size wc w2) (h1 : y < W0.heap.size) (h2 : g < W0.heap.size) : HeldC W0 y g a b c d e w2 := by
 obtain ⟨c0, c1, c2, c3, c4, hB⟩ := h
 have hs := hB.size
 have k : ∀ i, w2.cell? ⟨y, i, none⟩ = wc.cell? ⟨y, i, none⟩ := fun i => hb.cell (p := ⟨y, i, none⟩) (Nat.lt_of_lt_of_le h1 hs)
 have k' : ∀ i, w2.cell? ⟨g, i, none⟩ = wc.cell? ⟨g, i, none⟩ := fun i => hb.cell (p := ⟨g, i, none⟩) (Nat.lt_of_lt_of_le h2 hs)
 exact ⟨(k _).trans c0, (k _).trans c1, (k _).trans c2, (k' _).trans c3, (k' _).trans c4, hB.trans (hb.mono hs)⟩
theorem HeldC.bl {W0 wc : World} {y g : Nat} {a b c d e : Value} (h : HeldC W0 y g a b c d e wc) : Below W0.heap.size W0 wc := h.2.2.2.2.2
def keyC (x : Nat × Nat) : List Value := [.int .i64 (x.1 : Int), .int .i64 (x.2 : Int)]
def OwnKy (w : World) (base : Nat) (v : Value) (ks : List (Nat × Nat)) : Prop := w.ownsRow base 74 2 v ks.length (ks.flatMap keyC)
theorem info_ky : (Tryz.prog.info? 74).map (fun i => (i.zero, i.size, i.bytes)) = some (some (.agg #[.int .i64 0, .int .i64 0]), 2, 16) := by kernel_rfl
theorem OwnKy.nil (w : World) (base : Nat) : OwnKy w base (.slice none 0 0) [] := World.ownsRow_nil _ _ _ _
theorem OwnKy.below {w w2 : World} {base : Nat} {v : Value} {ks : List (Nat × Nat)} (h : OwnKy w base v ks) (hb : Below w.heap.size w w2) : OwnKy w2 base v ks := own_below h hb
theorem OwnKy.base {w : World} {B B' : Nat} {v : Value} {ks : List (Nat × Nat)} (h : OwnKy w B v ks) (hB : B' ≤ B) : OwnKy w B' v ks := own_base h hB
theorem OwnKy.form {w : World} {base : Nat} {v : Value} {ks : List (Nat × Nat)} (h : OwnKy w base v ks) : ∃ A c, v = .slice A ks.length c := own_form h
theorem OwnKy.lt {w : World} {base : Nat} {v : Value} {ks : List (Nat × Nat)} (h : OwnKy w base v ks) : ∀ b, v.ownBlock = some b → base ≤ b ∧ b < w.heap.size := World.ownsRow.lt h
theorem app_ky {ops : Array Oper} {rest : List Oper} {o : Oper} {a : Act} {Q : Exit → Act → World → Prop} {w : World} (x0 x1 : Nat) (s x : Operand) (hgd : o.guard = none) (ho : o.op = .call { callee := .builtin .append, args := #[s, x], argTypes := #[42, 42] })
  (base : Nat) (v : Value) (n : Nat) (ks : List (Nat × Nat)) (hlen : ks.length = n) (hs : a.eval s = v) (hown : w.ownsRow base 74 2 v n (ks.flatMap keyC))
  (hx : a.eval x = .slice (some ⟨w.heap.size, 0, none⟩) 1 1) (hn : n + 1 ≤ 16777216) (hbase : base ≤ w.heap.size)
  (h : ∀ v' w', OwnKy w' base v' (ks ++ [(x0, x1)]) → w.grownBy w' v.ownBlock → (v'.ownBlock = v.ownBlock ∨ v'.ownBlock = some (w.heap.size + 1)) → wpList Tryz.prog ops Q rest (a.put o.dst v') w') :
  wpList Tryz.prog ops Q (o :: rest) a (w.alloc (.cells #[.int .i64 (x0 : Int), .int .i64 (x1 : Int)] 74)) := by
 obtain ⟨i0, hi0, hz0, hz1, hz2⟩ := info_parts info_ky
 refine wpList_append1 hgd s x _ ho base i0 _ 2 16 Tryz.underlying42 hi0 hz0 hz1 hz2 rfl (by omega) (by omega) v n (ks.flatMap keyC) hs hown hx rfl (fun u hu => ?_) hn hbase (fun v' w' h1 h2 h3 => h v' w' ?_ h2 h3)
 ·simp at hu
  rcases hu with rfl | rfl <;> rfl
 ·unfold OwnKy
  rw [List.length_append, List.length_singleton, hlen, List.flatMap_append]
  simpa [keyC] using h1
def KyK (w : World) (R : Nat → Prop) (cs : List Value) (x : Nat × Nat) : Prop := cs = keyC x
theorem kyK : Steady KyK := ⟨fun _ h => h, fun _ h => h⟩
theorem flat_ky : ∀ (ks : List (Nat × Nat)) (k : Nat) (x : Nat × Nat), ks[k]? = some x → ∀ i c, (keyC x)[i]? = some c → (ks.flatMap keyC)[k * 2 + i]? = some c
 | [], k, f, h => by simp at h
 | x :: r, 0, f, h => by
  simp at h; subst h
  intro i c hc
  have hi : i < (keyC x).length := (List.getElem?_eq_some_iff.1 hc).1
  rw [List.flatMap_cons, Nat.zero_mul, Nat.zero_add, List.getElem?_append_left hi]; exact hc
 | x :: r, k + 1, f, h => by
  intro i c hc
  have hl : (keyC x).length = 2 := rfl
  rw [List.flatMap_cons, List.getElem?_append_right (by rw [hl]; omega), hl]
  have := flat_ky r k f (by simpa using h) i c hc
  rw [← this]
  congr 1
  omega
theorem OwnKy.slS {w : World} {base : Nat} {v : Value} {ks : List (Nat × Nat)} (h : OwnKy w base v ks) : SlS 2 KyK w (Fr base w.heap.size) v ks := by
 have h1 : w.ownsRow base 74 2 v ks.length (ks.flatMap keyC) := h
 have hc := fun g => h1.cells (g := g)
 have hlt := h1.lt
 rcases h1.2 with ⟨rfl, h0⟩ | ⟨g, cap, cur, rfl, _, _, h2, h3, _⟩
 ·unfold SlS; rw [h0]; exact Row.nil _ _ _
 ·refine ⟨_, cap, rfl, h2, Nat.le_trans h2 h3, fun _ => ⟨g, 0, rfl, hlt g rfl, fun k f hf => ⟨keyC f, rfl, fun i c hi => ?_, rfl⟩⟩⟩
  have e1 : ∀ j, (⟨g, 0, none⟩ : Addr).add j = ⟨g, 0 + j, none⟩ := fun j => by unfold Addr.add; split <;> simp_all
  rw [Nat.add_assoc, ← e1]
  exact hc g rfl _ _ (flat_ky ks k f hf i c hi)
theorem two_ky {cs : List Value} {x : Nat × Nat} {w : World} {p o : Nat} (h : ∀ i c, cs[i]? = some c → w.cell? ⟨p, o + i, none⟩ = some c) (e : cs = keyC x) :
  w.cell? ⟨p, o, none⟩ = some (.int .i64 (x.1 : Int)) ∧ w.cell? ⟨p, o + 1, none⟩ = some (.int .i64 (x.2 : Int)) := by
 subst e
 exact ⟨h 0 _ rfl, h 1 _ rfl⟩
def cntI (r : Re) (v s : Nat) (on : Bool) (n : Int) : Int := (((intI r (v : Int) (s : Int) on).filter (fun x => decide (x < n))).length : Int)
def keyP (F : FltM) (r : Re) (cond : Int → Int → Int → Bool) (x : Nat × Nat) : Bool :=
 (verOf r.acks (x.1 : Int) (x.2 : Int)).isSome && cond (cntI r x.1 x.2 false (kOf F x.1 + mOf F x.1)) (cntI r x.1 x.2 true (kOf F x.1 + mOf F x.1)) (kOf F x.1)
def keyL (F : FltM) (r : Re) (cond : Int → Int → Int → Bool) (ext v s : Nat) : List (Nat × Nat) := (keysTo ext v s).filter (keyP F r cond)
theorem keyL_succ (F : FltM) (r : Re) (cond : Int → Int → Int → Bool) (ext v s : Nat) : keyL F r cond ext v (s + 1) = keyL F r cond ext v s ++ (if keyP F r cond (v, s) = true then [(v, s)] else []) := by
 unfold keyL
 rw [keysTo_succ, List.filter_append]
 congr 1
 by_cases h : keyP F r cond (v, s) = true <;> simp [h]
theorem keysTo_len (ext v s : Nat) : (keysTo ext v s).length = v * ext + s := by
 have h : ∀ v, ((List.range v).flatMap (fun v => (List.range ext).map fun s => (v, s))).length = v * ext := by
  intro v
  induction v with
  | zero => simp
  | succ v ih => rw [List.range_succ, List.flatMap_append, List.length_append, ih]; simp [Nat.succ_mul]
 unfold keysTo
 rw [List.length_append, h]; simp
theorem keyL_len (F : FltM) (r : Re) (cond : Int → Int → Int → Bool) (ext v s : Nat) : (keyL F r cond ext v s).length ≤ v * ext + s := by
 rw [← keysTo_len]; exact List.length_filter_le _ _
theorem out_filter (r : Re) (up : Bool) (l : List Fd) (n : Int) : ∀ j, j ≤ 8 → outTo r up l n j = (outTo r up l 8 j).filter (fun x => decide (x < n))
 | 0, _ => rfl
 | j + 1, h => by
  rw [outTo_succ, outTo_succ, List.filter_append, out_filter r up l n j (by omega)]
  congr 1
  by_cases h1 : hasB r up l j = true
  ·by_cases h2 : (j : Int) < n
   ·rw [if_pos ⟨h1, h2⟩, if_pos ⟨h1, by omega⟩]; simp [h2]
   ·rw [if_neg (fun h => h2 h.2), if_pos ⟨h1, by omega⟩]; simp [h2]
  ·rw [if_neg (fun h => h1 h.1), if_neg (fun h => h1 h.1)]; rfl
theorem out_cnt (r : Re) (v s : Nat) (on : Bool) (n : Int) : ((outTo r on (stripeP (pieces r) (v : Int) (s : Int)) n 8).length : Int) = cntI r v s on n := by
 unfold cntI intI
 rw [out_filter _ _ _ _ 8 (by omega), intTo_out r (pieces r) _ _ on 8 8 (by omega)]
set_option maxRecDepth 100000 in
set_option maxHeartbeats 6400000 in
theorem missingL_any (cond : Int → Int → Int → Bool) (hC : ∀ (a u k : Int) (w : World), Calls Tryz.prog 34 #[.int .i64 a, .int .i64 u, .int .i64 k] w fun e w' => e = .returned (.bool (cond a u k)) ∧ w = w')
  (N : Nat) (hN : N ≤ 12) (vl vm vd vv vp vo vp0 vo0 va0 : Value) (F : FltM) (r : Re) (w : World) (hf : FleetS w (Bl w.heap.size) vl vm vd vv vp vo F) (hok : FleetOk N F) (h : ReS w (Bl w.heap.size) vp0 vo0 va0 r) (hp : r.plat.length ≤ 1000) (hl : ∀ l ∈ r.plat, l.length ≤ 1000) (hac : r.acks.length ≤ 1000000) :
  Calls Tryz.prog 33 #[.agg #[.int .i64 F.ext, vl, vm, vd, vv, vp, vo], .agg #[vp0, vo0, va0], .func (.func 34) #[] #[]] w fun e w' => ∃ u, e = .returned u ∧ OwnKy w' w.heap.size u (keyL F r cond F.ext.toNat F.vols.length 0) ∧ Below w.heap.size w w' := by
 obtain ⟨pb, pof, ob, oof, cp, co, rfl, rfl, hRp, hRo, hPA⟩ := polAt hf hok
 have HVA := Lib.hid (fun (w' : World) (hb : Below w.heap.size w w') => fvalidate_any N hN vl vm vd vv _ _ F w' (hf.below hb) hok)
 have HIX := Lib.hid (fun w1 h1 => index_any vp0 vo0 va0 r w1 h1 hp hl hac)
 have HRE := Lib.hid (fun (w' : World) (hb : Below w.heap.size w w') => h.below hb)
 have hpa := piecesTo_all r r.plat.length
 have hpd := pieces_drive r (by omega)
 obtain ⟨EX, hEX, hEX1, hEX2⟩ : ∃ n : Nat, F.ext = (n : Int) ∧ 1 ≤ n ∧ n ≤ 2 := by rcases hok.ext with e | e <;> rw [e] <;> first | exact ⟨1, rfl, by omega, by omega⟩ | exact ⟨2, rfl, by omega, by omega⟩
 have hno : F.vols.length ≤ 12 := by have := hok.volN; omega
 obtain ⟨KL, hKL⟩ : ∃ f : Nat → Nat → List (Nat × Nat), f = keyL F r cond EX := ⟨_, rfl⟩
 have HKS := Lib.hid (fun v s => (show KL v (s + 1) = KL v s ++ (if keyP F r cond (v, s) = true then [(v, s)] else []) from by rw [hKL]; exact keyL_succ F r cond EX v s))
 have HKN := Lib.hid (fun v => (show KL v EX = KL (v + 1) 0 from by rw [hKL]; unfold keyL; rw [keysTo_next]))
 have HK0 := Lib.hid (show KL 0 0 = [] from by rw [hKL]; rfl)
 have HLE := Lib.hid (fun v s (hv : v < 13) (hs : s < 13) => (show (KL v s).length ≤ 100 from by
  have h1 := keyL_len F r cond EX v s
  rw [hKL]
  have h2 : v * EX ≤ 12 * 2 := Nat.mul_le_mul (by omega) hEX2
  omega))
 rw [hEX] at HVA ⊢
 rw [show ((EX : Int)).toNat = EX from by omega, show keyL F r cond EX F.vols.length 0 = KL F.vols.length 0 from by rw [hKL]]
 obtain ⟨NO, hNO⟩ : ∃ n, n = F.vols.length := ⟨_, rfl⟩
 obtain ⟨NP, hNP⟩ : ∃ n, n = F.pols.length := ⟨_, rfl⟩
 have hnp : NP ≤ 2 := by rw [hNP]; exact hok.polN
 rw [← hNO] at hno HVA ⊢
 rw [← hNP] at HVA ⊢
 have HKQ := Lib.hid (fun v (hv : v < NO) => kmq_ok hok (show v < F.vols.length from by rw [← hNO]; exact hv))
 have HPA := Lib.hid hPA
 have HNN := Lib.hid (show NO = F.vols.length ∧ NP = F.pols.length ∧ NO ≤ 12 ∧ NP ≤ 2 from ⟨hNO, hNP, hno, hnp⟩)
 have HPD := Lib.hid hpd
 have HPL := Lib.hid hpa
 have HBB := Lib.hid (show pb < w.heap.size ∧ ob < w.heap.size from ⟨hRp, hRo⟩)
 obtain ⟨W0, hW0⟩ : ∃ W0, W0 = (w.alloc (.cells #[.int .i64 (EX : Int), vl, vm, vd, vv, .slice (some ⟨pb, pof, none⟩) NP cp, .slice (some ⟨ob, oof, none⟩) NO co] 37)).alloc (.cells #[vp0, vo0, va0] 27) := ⟨_, rfl⟩
 obtain ⟨z, hz⟩ : ∃ q, q = w.heap.size := ⟨_, rfl⟩
 obtain ⟨y, hy⟩ : ∃ q, q = w.heap.size + 1 := ⟨_, rfl⟩
 have hb0 : Below w.heap.size w W0 := by rw [hW0]; exact ((Below.refl _ _).alloc (Nat.le_refl _) _).alloc (by simp) _
 have hyk : W0.heap[y]? = some (.cells #[vp0, vo0, va0] 27 (0, 0)) := by
  rw [hW0]; exact heap_alloc_at _ _ _ (by rw [hy]; simp)
 have hzk : W0.heap[z]? = some (.cells #[.int .i64 (EX : Int), vl, vm, vd, vv, .slice (some ⟨pb, pof, none⟩) NP cp, .slice (some ⟨ob, oof, none⟩) NO co] 37 (0, 0)) := by
  rw [hW0, hz]; exact (Below.heap_alloc _ _ _ (by simp)).trans (heap_alloc_new w _)
 have hyl : y < W0.heap.size := (Array.getElem?_eq_some_iff.1 hyk).1
 have hzl : z < W0.heap.size := (Array.getElem?_eq_some_iff.1 hzk).1
 have HC := Lib.hid (fun (w' : World) (hb : Below W0.heap.size W0 w') => And.intro (cells7 ((hb.block z hzl).trans hzk)) (cells3 ((hb.block y hyl).trans hyk)))
 have HYL := Lib.hid hyl
 have HW0 := Lib.hid hW0
 have HZ := Lib.hid hz
 have HY := Lib.hid hy
 have HB0 := Lib.hid hb0
 obtain ⟨⟨c0, c1, c2, c3, c4, c5, c6⟩, -⟩ := HC.out W0 (Below.refl _ _)
 have HC0 := Lib.hid hC
 have HEXB := Lib.hid (And.intro hEX1 hEX2)
 clear hf hok h hPA hRp hRo hpa hpd hW0 hz hy hb0 hyk hzk hyl hzl hKL hC hEX hNO hNP hnp hEX1
 go_enter Tryz.func33, Tryz.ntmps33
 go_wp2_with fail
 rw [← HW0.out, ← HY.out, ← HZ.out]
 refine (HVA.out _ HB0.out).mono ?_
 rintro e w1 ⟨rfl, hb1⟩
 have HB1 := Lib.hid hb1
 clear c0 c1 c2 c3 c4 c5 c6 hb1
 obtain ⟨-, d0, d1, d2, -⟩ := HC.out w1 HB1.out
 go_wp2_with fail
 have hre := HRE.out w1 (HB0.out.trans (HB1.out.mono HB0.out.size))
 refine (HIX.out _ hre).mono ?_
 rintro e w2 ⟨b, n, f, rfl, hbb, hM, hG, hb2⟩
 have HB2 := Lib.hid (HB1.out.trans (hb2.mono HB1.out.size))
 have HM := Lib.hid hM
 have HGR := Lib.hid hG
 have HBM := Lib.hid hM.lt
 clear d0 d1 d2 hb2 hM hG hre hbb
 obtain ⟨⟨c0, c1, c2, c3, c4, c5, c6⟩, -⟩ := HC.out w2 HB2.out
 go_wp2_with fail
 clear c0 c1 c2 c3 c4 c5 c6
 go_loopg [8, 23] NO (fun z v8 v23 wr => ∃ v : Nat, v ≤ NO ∧ z = NO - v ∧ v23 = .int .i64 (v : Int) ∧ Hid (OwnKy wr w2.heap.size v8 (KL v 0)) ∧ Hid (Below w2.heap.size w2 wr))
 case atStart => exact ⟨0, by omega, rfl, rfl, by rw [HK0.out]; exact OwnKy.nil _ _, Below.refl _ _⟩
 case round =>
  obtain ⟨v, hv, rfl, rfl, HO, HBR⟩ := hrel
  have h0R := HB2.out.trans (HBR.out.mono HB2.out.size)
  by_cases hlt : v < NO
  ·-- L1{
   obtain ⟨n7, hn7⟩ : ∃ n, n = (KL v 0).length := ⟨_, rfl⟩
   obtain ⟨A7, c7, hv7⟩ := HO.out.form
   rw [← hn7] at hv7
   subst hv7
   clear hn7
   obtain ⟨hpl, nm, hvol, a0, a4, a5, a6, a7, a8, a9, a10, a11, a12, a13, a14, a15, a16, hpol, hone⟩ := HPA.out v (by rw [← HNN.out.1]; exact hlt)
   obtain ⟨kk, m1, m2, q1, q2⟩ := HKQ.out v hlt
   obtain ⟨KK, hK⟩ : ∃ x, x = kOf F v := ⟨_, rfl⟩
   obtain ⟨MM, hMM⟩ : ∃ x, x = mOf F v := ⟨_, rfl⟩
   obtain ⟨QQ, hQ⟩ : ∃ x, x = qOf F v := ⟨_, rfl⟩
   obtain ⟨p, hpp⟩ : ∃ x, x = volP F v := ⟨_, rfl⟩
   rw [← hK, ← hMM, ← hQ] at hpol hone
   rw [← hpp] at hvol hpl hpol
   rw [← hK] at kk
   rw [← hMM] at m1 m2
   have hb0R := HB0.out.trans (h0R.mono HB0.out.size)
   have hvol' := range_same hvol (hb0R.block ob HBB.out.2)
   have l0 : wr.cell? ⟨ob, oof + v * 2, none⟩ = some (.string nm) := hvol' 0 _ rfl
   have l1 : wr.cell? ⟨ob, oof + v * 2 + 1, none⟩ = some (.int .i64 (p : Int)) := hvol' 1 _ rfl
   have HPOL := Lib.hid (range_same hpol (hb0R.block pb HBB.out.1))
   have HONE := Lib.hid hone
   have HKM := Lib.hid (show (KK = 1 ∨ KK = 2) ∧ 0 ≤ MM ∧ MM ≤ 2 ∧ KK = kOf F v ∧ MM = mOf F v from ⟨kk, m1, m2, hK, hMM⟩)
   obtain ⟨W3, hW3⟩ : ∃ W, W = wr.alloc (.cells #[.string nm, .int .i64 (p : Int)] 65) := ⟨_, rfl⟩
   obtain ⟨gv, hgv⟩ : ∃ q, q = wr.heap.size := ⟨_, rfl⟩
   have hb3 : Below wr.heap.size wr W3 := by rw [hW3]; exact (Below.refl _ _).alloc (Nat.le_refl _) _
   have hgk : W3.heap[gv]? = some (.cells #[.string nm, .int .i64 (p : Int)] 65 (0, 0)) := by rw [hW3, hgv]; exact heap_alloc_new _ _
   have e1 : W3.cell? ⟨gv, 1, none⟩ = some (.int .i64 (p : Int)) := by rw [cell_of_row _ _ _ _ _ _ hgk]; rfl
   have HPOL3 := Lib.hid (range_same HPOL.out (hb3.block pb (Nat.lt_of_lt_of_le HBB.out.1 hb0R.size)))
   obtain ⟨W4, hW4⟩ : ∃ W, W = (W3.alloc (.cells #[.string ⟨#[]⟩, .int .i64 0, .int .i64 0, .int .i64 0, .int .i64 0, .int .i64 0, .int .i64 0, .int .i64 0, .int .i64 0, .slice none 0 0, .slice none 0 0, .bool false, .slice none 0 0, .slice none 0 0, .bool false, .slice none 0 0, .slice none 0 0] 63)).setCells W3.heap.size 0 [a0, .int .i64 KK, .int .i64 MM, .int .i64 QQ, a4, a5, a6, a7, a8, a9, a10, a11, a12, a13, a14, a15, a16] := ⟨_, rfl⟩
   obtain ⟨g, hg⟩ : ∃ q, q = W3.heap.size := ⟨_, rfl⟩
   have hth : (W3.alloc (.cells #[.string ⟨#[]⟩, .int .i64 0, .int .i64 0, .int .i64 0, .int .i64 0, .int .i64 0, .int .i64 0, .int .i64 0, .int .i64 0, .slice none 0 0, .slice none 0 0, .bool false, .slice none 0 0, .slice none 0 0, .bool false, .slice none 0 0, .slice none 0 0] 63)).there W3.heap.size 0 17 := there_new (cs := #[.string ⟨#[]⟩, .int .i64 0, .int .i64 0, .int .i64 0, .int .i64 0, .int .i64 0, .int .i64 0, .int .i64 0, .int .i64 0, .slice none 0 0, .slice none 0 0, .bool false, .slice none 0 0, .slice none 0 0, .bool false, .slice none 0 0, .slice none 0 0]) (heap_alloc_new W3 _) (Nat.le_refl 17)
   have hb4 : Below W3.heap.size W3 W4 := by rw [hW4]; exact below_setCellsV (Nat.le_refl _) _ _ _ ((Below.refl _ _).alloc (Nat.le_refl _) _)
   have hgr : W4.rangeAt g 0 [a0, .int .i64 KK, .int .i64 MM, .int .i64 QQ, a4, a5, a6, a7, a8, a9, a10, a11, a12, a13, a14, a15, a16] := by rw [hW4, hg]; exact World.rangeAt_setCells_same _ _ _ _ hth
   have hgl : g < W4.heap.size := World.block_lt_of_cell? W4 _ (hgr 0 _ rfl)
   have hbr4 : Below wr.heap.size wr W4 := hb3.trans (hb4.mono hb3.size)
   have HGR4 := Lib.hid hgr
   have HGL := Lib.hid hgl
   have HB4 := Lib.hid (HBR.out.trans (hbr4.mono HBR.out.size))
   have HO4 := Lib.hid (HO.out.below hbr4)
   have hng : ∀ b, (Value.slice A7 n7 c7).ownBlock = some b → b ≠ g := fun b e => by have h1 := (HO.out.lt b e).2; have h2 := hb3.size; omega
   have HNG := Lib.hid (show (Value.slice A7 n7 c7).ownBlock ≠ some g from fun e => hng g e rfl)
   have HTH := Lib.hid hth
   have HW3 := Lib.hid hW3
   have HGV := Lib.hid hgv
   have HW4 := Lib.hid hW4
   have HG := Lib.hid hg
   have HLTV := Lib.hid hlt
   have ip : (p : Int) < (NP : Int) := by have := HNN.out.2.1; omega
   have HC3 := Lib.hid (h0R.trans ((hb3.mono h0R.size)))
   have HC4 := Lib.hid (h0R.trans ((hbr4.mono h0R.size)))
   clear hvol hvol' hpol hone hW3 hgv hb3 hgk hW4 hg hth hb4 hgr hgl hbr4 hng hb0R kk q1 q2 hK hMM hQ hpp hpl m1 m2
   go_upto_region 8 with fail
   rw [← HW3.out, ← HGV.out]
   clear l0 l1
   obtain ⟨⟨c0, c1, c2, c3, c4, c5, c6⟩, -⟩ := HC.out W3 HC3.out
   go_upto_region 9 with (first | (refine wpList_load_mid rfl 63 (.tmp 32) rfl pb (pof + p * 17) (by rfl) [a0, .int .i64 KK, .int .i64 MM, .int .i64 QQ, a4, a5, a6, a7, a8, a9, a10, a11, a12, a13, a14, a15, a16] _ HPOL3.out Tryz.underlying63 rfl size_pol ?_) | (refine wpList_store_mid rfl 63 (.tmp 11) (.tmp 33) rfl W3.heap.size 0 #[a0, .int .i64 KK, .int .i64 MM, .int .i64 QQ, a4, a5, a6, a7, a8, a9, a10, a11, a12, a13, a14, a15, a16] (by rfl) (by rfl) HTH.out size_pol HONE.out ?_; rw [← HW4.out, ← HG.out]))
   clear c0 c1 c2 c3 c4 c5 c6 e1
   obtain ⟨⟨c0, c1, c2, c3, c4, c5, c6⟩, -⟩ := HC.out W4 HC4.out
   go_wp2_with fail
   clear c0 c1 c2 c3 c4 c5 c6
   go_loopg [8, 36] EX (fun z v8 v36 wx => ∃ s : Nat, s ≤ EX ∧ z = EX - s ∧ v36 = .int .i64 (s : Int) ∧ Hid (OwnKy wx w2.heap.size v8 (KL v s)) ∧ Hid (Below w2.heap.size w2 wx) ∧ Hid (wx.heap[g]? = W4.heap[g]?) ∧ Hid (v8.ownBlock ≠ some g))
   case atStart => exact ⟨0, by omega, rfl, rfl, HO4.out, HB4.out, rfl, HNG.out⟩
   case round =>
    clear HO HBR HO4 HB4 HNG
    obtain ⟨s, hs, rfl, rfl, HO, HBR, HGE, HNE⟩ := hrel
    have h0x := HB2.out.trans (HBR.out.mono HB2.out.size)
    by_cases hls : s < EX
    ·-- L2{
     have HMx := Lib.hid (HM.out.below HBR.out HBM.out)
     have i1 : I64 (v : Int) := by have := HNN.out; unfold I64; omega
     have i2 : I64 (s : Int) := by have := HEXB.out; unfold I64; omega
     have hlk := HMx.out.look_ok key_two Tryz.underlying97 (zero_fds _) i1 i2
     have HLT := Lib.hid hls
     have HLV := Lib.hid (show v < NO ∧ v < 13 ∧ EX ≤ 2 from ⟨HLTV.out, by have := HNN.out; have := HLTV.out; omega, HEXB.out.2⟩)
     unfold kv at hlk
     rcases HGR.out.1 (v : Int) (s : Int) i1 i2 with ⟨hv1, hv2⟩ | ⟨hv1, u, hv2, hv3⟩
     ·rw [hv2] at hlk
      simp only [Option.getD_none, Option.isSome_none] at hlk
      have HKV := Lib.hid (show keyP F r cond (v, s) = false from by unfold keyP; simp only; rw [hv1]; rfl)
      clear hv1 hv2 i1 i2
      go_upto_region 13 with fail
      go_quiet (fail)
      have HBZ := Lib.hid (Below.drewN' (Below.refl wr.heap.size wr) nq)
      clear hlk
      go_wp2_with fail
      go_roundg (EX - (s + 1))
      case measure => have := HLT.out; omega
      case rel => exact ⟨s + 1, by have := HLT.out; omega, rfl, by go_num, by rw [HKS.out, HKV.out, if_neg (by decide), List.append_nil]; exact HO.out.below HBZ.out, HBR.out.trans (HBZ.out.mono HBR.out.size), HGE.out, HNE.out⟩
     ·rw [hv2] at hlk
      simp only [Option.getD_some, Option.isSome_some] at hlk
      obtain ⟨Au, cu, hu⟩ := own_form hv3
      subst hu
      have hsl := OwnFd.slBl hv3 (fun x hx => HPD.out x (List.mem_filter.1 hx).1)
      have hfr : ∀ x ∈ stripeP (pieces r) (v : Int) (s : Int), 0 ≤ x.p.frag ∧ x.p.frag < 8 := fun x hx => by
       have h1 := validP_iff.1 (HPL.out x (List.mem_filter.1 hx).1).1
       exact ⟨h1.2.2.1, h1.2.2.2.1⟩
      have hsx := SlS.below fdK hsl HBR.out
      obtain ⟨CB, hCB⟩ : ∃ x, x = keyP F r cond (v, s) := ⟨_, rfl⟩
      obtain ⟨NA, hNA⟩ : ∃ x, x = (outTo r false (stripeP (pieces r) (v : Int) (s : Int)) (KK + MM) 8).length := ⟨_, rfl⟩
      obtain ⟨NU, hNU⟩ : ∃ x, x = (outTo r true (stripeP (pieces r) (v : Int) (s : Int)) (KK + MM) 8).length := ⟨_, rfl⟩
      have hcb : cond (NA : Int) (NU : Int) KK = CB := by
       rw [hCB, hNA, hNU, out_cnt, out_cnt]; unfold keyP; simp only; rw [hv1, HKM.out.2.2.2.1, HKM.out.2.2.2.2]; rfl
      have hre := HRE.out wr (HB0.out.trans (h0x.mono HB0.out.size))
      have hkm : I64 (KK + MM) := by have := HKM.out; unfold I64; omega
      obtain ⟨LU, hLU⟩ : ∃ x, x = (stripeP (pieces r) (v : Int) (s : Int)).length := ⟨_, rfl⟩
      rw [← hLU] at hlk hsx
      have HI1 := Lib.hid (show ∀ w' (hb : Below wr.heap.size wr w'), Calls Tryz.prog 42 #[.agg #[vp0, vo0, va0], .slice Au LU cu, .int .i64 (KK + MM), .bool false] w' (fun e w'' => ∃ A c, e = .returned (.slice A NA c) ∧ Below w'.heap.size w' w'') from fun w' hb => (intact_any vp0 vo0 va0 (.slice Au LU cu) r _ (KK + MM) false w' (hre.below hb) (SlS.below fdK hsx hb) hfr hkm).mono (fun e w'' ⟨u, he, ho, hb2⟩ => by obtain ⟨A, c, hu⟩ := ho.form; exact ⟨A, c, by rw [he, hu, ← hNA], hb2⟩))
      have HI2 := Lib.hid (show ∀ w' (hb : Below wr.heap.size wr w'), Calls Tryz.prog 42 #[.agg #[vp0, vo0, va0], .slice Au LU cu, .int .i64 (KK + MM), .bool true] w' (fun e w'' => ∃ A c, e = .returned (.slice A NU c) ∧ Below w'.heap.size w' w'') from fun w' hb => (intact_any vp0 vo0 va0 (.slice Au LU cu) r _ (KK + MM) true w' (hre.below hb) (SlS.below fdK hsx hb) hfr hkm).mono (fun e w'' ⟨u, he, ho, hb2⟩ => by obtain ⟨A, c, hu⟩ := ho.form; exact ⟨A, c, by rw [he, hu, ← hNU], hb2⟩))
      have HCL := Lib.hid (fun w => HC0.out (NA : Int) (NU : Int) KK w)
      rw [hcb] at HCL
      have HKV := Lib.hid hCB.symm
      have hgx : g < wr.heap.size := by
       rcases Nat.lt_or_ge g wr.heap.size with hx | hx
       ·exact hx
       ·have h1 := HGE.out; rw [Array.getElem?_eq_none hx, Array.getElem?_eq_getElem HGL.out] at h1; cases h1
      have HGX := Lib.hid hgx
      have HYG := Lib.hid (Nat.lt_of_lt_of_le HYL.out h0x.size)
      obtain ⟨-, y0, y1, y2, -⟩ := HC.out wr h0x
      have hgrx := range_same HGR4.out HGE.out
      have HS13 := Lib.hid (show HeldC wr y g vp0 vo0 va0 (.int .i64 KK) (.int .i64 MM) wr.drew from ⟨y0, y1, y2, hgrx 1 _ rfl, hgrx 2 _ rfl, (Below.refl _ _).drew⟩)
      obtain ⟨n8, hn8⟩ : ∃ n, n = (KL v s).length := ⟨_, rfl⟩
      obtain ⟨A8, c8, hv8⟩ := HO.out.form
      rw [← hn8] at hv8
      have HN8 := Lib.hid hn8
      subst hv8
      have HOW2 := Lib.hid (fun (w' : World) (hb : Below wr.heap.size wr w') => (show w'.ownsRow w2.heap.size 74 2 (.slice A8 n8 c8) n8 ((KL v s).flatMap keyC) from by rw [hn8]; exact (by have h1 := HO.out.below hb; unfold OwnKy at h1; rw [← hn8] at h1 ⊢; exact h1)))
      have k1 : 1 ≤ KK := by have := HKM.out; omega
      have k2 : KK ≤ 2 := by have := HKM.out; omega
      have m1 := HKM.out.2.1
      have m2 := HKM.out.2.2.1
      have hwr : IntKind.i64.wrap (KK + MM) = KK + MM := IntWalk.i64_in _ (by omega)
      clear hv1 hv2 hv3 hsl hfr hsx hCB hNA hNU hcb hre hkm hLU hgx y0 y1 y2 hgrx hn8 i1 i2
      go_upto_region 13 with fail
      clear hlk
      refine region_tail (S := (fun w' => w'.cell? ⟨y, 0, none⟩ = some vp0 ∧ w'.cell? ⟨y, 1, none⟩ = some vo0 ∧ w'.cell? ⟨y, 2, none⟩ = some va0 ∧ w'.cell? ⟨g, 1, none⟩ = some (.int .i64 KK) ∧ w'.cell? ⟨g, 2, none⟩ = some (.int .i64 MM) ∧ Below wr.heap.size wr w')) [] (by kernel_rfl) HS13.out (fun hHeld => ?_)
      refine tk 0 47 ?_
      refine tk 1 48 ?_
      refine tk 2 49 ?_
      refine tk 3 50 ?_
      refine tk 4 51 ?_
      refine tk 5 52 ?_
      refine tk 6 53 ?_
      refine tk 7 54 ?_
      refine tk 8 55 ?_
      refine tk 9 56 ?_
      refine tk 12 59 ?_
      refine tk 13 60 ?_
      refine tk 14 61 ?_
      refine tk 15 62 ?_
      refine tk 16 63 ?_
      refine tk 17 64 ?_
      refine tk 18 65 ?_
      refine tk 21 68 ?_
      refine tk 22 69 ?_
      refine readyT (rs := [10]) (by kernel_rfl) (by simp) ?_
      refine AllReadyT.cons rfl (fun K hK => ?_) ?_
      ·go_simp
       (go_at_call 42; refine (HI1.out _ (HeldC.bl (by assumption))).mono ?_; rintro e w5 ⟨A5, d5, rfl, hb5⟩)
       go_wp2_with fail
       refine hK.out _ _ ?_ (fun hHeld => ?_)
       ·(first | assumption | exact HeldC.below (by assumption) hb5 HYG.out HGX.out | exact HeldC.below (by assumption) hb6 HYG.out HGX.out)
       clear hK K
       (try simp only [Act.put, List.setIfInBounds_toArray, List.set_cons_zero, List.set_cons_succ])
       refine tk 11 58 ?_
       refine readyT (rs := [19]) (by kernel_rfl) (by simp) ?_
       refine AllReadyT.cons rfl (fun K hK => ?_) ?_
       ·go_simp
        (go_at_call 42; refine (HI2.out _ (HeldC.bl (by assumption))).mono ?_; rintro e w6 ⟨A6, d6, rfl, hb6⟩)
        go_wp2_with fail
        refine hK.out _ _ ?_ (fun hHeld => ?_)
        ·(first | assumption | exact HeldC.below (by assumption) hb5 HYG.out HGX.out | exact HeldC.below (by assumption) hb6 HYG.out HGX.out)
        clear hK K
        (try simp only [Act.put, List.setIfInBounds_toArray, List.set_cons_zero, List.set_cons_succ])
        refine tk 20 67 ?_
        refine readyT (rs := [23]) (by kernel_rfl) (by simp) ?_
        refine AllReadyT.cons rfl (fun K hK => ?_) ?_
        ·go_simp
         (go_at_call 34; refine (HCL.out _).mono ?_; rintro e w7 ⟨rfl, rfl⟩)
         go_wp2_with fail
         refine hK.out _ _ ?_ (fun hHeld => ?_)
         ·(first | assumption | exact HeldC.below (by assumption) hb5 HYG.out HGX.out | exact HeldC.below (by assumption) hb6 HYG.out HGX.out)
         clear hK K
         (try simp only [Act.put, List.setIfInBounds_toArray, List.set_cons_zero, List.set_cons_succ])
         refine tk 24 71 ?_
         refine doneT (by kernel_rfl) ?_ _
         have HBZ := Lib.hid (HeldC.bl hHeld)
         clear hHeld hb5 hb6
         cases hcb : CB with
         | false =>
          have hk := HKV.out
          rw [hcb] at hk
          go_wp2_with fail
          go_roundg (EX - (s + 1))
          case measure => have := HLT.out; omega
          case rel => exact ⟨s + 1, by have := HLT.out; omega, rfl, by go_num, by rw [HKS.out, hk, if_neg (by decide), List.append_nil]; exact HO.out.below HBZ.out, HBR.out.trans (HBZ.out.mono HBR.out.size), (HBZ.out.block g HGX.out).trans HGE.out, HNE.out⟩
         | true =>
          have hk := HKV.out
          rw [hcb] at hk
          have HOW := Lib.hid (HO.out.below HBZ.out)
          go_wp2_with (at_builtin; refine app_ky v s (.tmp 72) (.tmp 76) rfl rfl w2.heap.size (.slice A8 n8 c8) n8 (KL v s) HN8.out.symm (by rfl) (HOW2.out _ HBZ.out) (by rfl) (by have := HLE.out v s HLV.out.2.1 (by have := HLT.out; have := HLV.out; omega); have := HN8.out; omega) (Nat.le_trans HBR.out.size HBZ.out.size) ?_; intro v9 w9 hown9 hg9 hat9; have HO9 := Lib.hid hown9; have HG9 := Lib.hid hg9; have HA9 := Lib.hid hat9; clear hown9 hg9 hat9)
          go_roundg (EX - (s + 1))
          case measure => have := HLT.out; omega
          case rel =>
           refine ⟨s + 1, by have := HLT.out; omega, rfl, by go_num, by rw [HKS.out, hk, if_pos rfl]; exact HO9.out, ?_, ?_, ?_⟩
           ·exact (HBR.out.trans (HBZ.out.mono HBR.out.size)).grown HG9.out (Nat.le_trans HBR.out.size HBZ.out.size) (fun b e => (HO.out.lt b e).1)
           ·exact (HG9.out.block g (by have := HGX.out; have := HBZ.out.size; omega) (fun e => HNE.out e.symm)).trans ((HBZ.out.block g HGX.out).trans HGE.out)
           ·rcases HA9.out with e | e
            ·rw [e]; exact HNE.out
            ·rw [e]; intro e2; injection e2 with e2; have := HGX.out; have := HBZ.out.size; omega
        exact AllReadyT.nil
       exact AllReadyT.nil
      exact AllReadyT.nil
    ·-- R2{
     obtain rfl : EX = s := by omega
     go_wp2_with fail
     go_roundg (NO - (v + 1))
     case measure => have := HLTV.out; omega
     case rel => exact ⟨v + 1, by have := HLTV.out; omega, rfl, by go_num, by rw [← HKN.out]; exact HO.out, HBR.out⟩
  ·-- R1{
   obtain rfl : NO = v := by omega
   go_wp2_with fail
   go_ret
   exact ⟨_, rfl, HO.out.base (Nat.le_trans HB0.out.size HB2.out.size), HB0.out.trans (h0R.mono HB0.out.size)⟩









def HeldO (W0 : World) (p b o : Nat) (x0 x1 x2 y0 y1 y2 : Value) (w' : World) : Prop :=
 w'.cell? ⟨p, 0, none⟩ = some x0 ∧ w'.cell? ⟨p, 1, none⟩ = some x1 ∧ w'.cell? ⟨p, 2, none⟩ = some x2 ∧ w'.cell? ⟨b, o, none⟩ = some y0 ∧ w'.cell? ⟨b, o + 1, none⟩ = some y1 ∧ w'.cell? ⟨b, o + 2, none⟩ = some y2 ∧ Below W0.heap.size W0 w'
theorem HeldO.below {W0 wc w2 : World} {p b o : Nat} {x0 x1 x2 y0 y1 y2 : Value} (h : HeldO W0 p b o x0 x1 x2 y0 y1 y2 wc) (hb : Below wc.heap.size wc w2) (hp : p < W0.heap.size) (hbb : b < W0.heap.size) : HeldO W0 p b o x0 x1 x2 y0 y1 y2 w2 := by
 obtain ⟨d0, d1, d2, e0, e1, e2, hB⟩ := h
 have hs := hB.size
 have m : ∀ i, w2.cell? ⟨p, i, none⟩ = wc.cell? ⟨p, i, none⟩ := fun i => hb.cell (p := ⟨p, i, none⟩) (Nat.lt_of_lt_of_le hp hs)
 have m' : ∀ i, w2.cell? ⟨b, i, none⟩ = wc.cell? ⟨b, i, none⟩ := fun i => hb.cell (p := ⟨b, i, none⟩) (Nat.lt_of_lt_of_le hbb hs)
 exact ⟨(m _).trans d0, (m _).trans d1, (m _).trans d2, (m' _).trans e0, (m' _).trans e1, (m' _).trans e2, hB.trans (hb.mono hs)⟩
theorem HeldO.bl {W0 wc : World} {p b o : Nat} {x0 x1 x2 y0 y1 y2 : Value} (h : HeldO W0 p b o x0 x1 x2 y0 y1 y2 wc) : Below W0.heap.size W0 wc := h.2.2.2.2.2.2
theorem HeldO.ls {W0 wc : World} {p b o : Nat} {x0 x1 x2 y0 y1 y2 v : Value} {l : List Nat} (h : HeldO W0 p b o x0 x1 x2 y0 y1 y2 wc) (hl : LS W0 (Bl W0.heap.size) v l) : LS wc (Bl wc.heap.size) v l := hl.below h.bl
theorem HeldO.set3 {W0 wc : World} {p b o y : Nat} {x0 x1 x2 y0 y1 y2 v0 v1 v2 : Value} (h : HeldO W0 p b o x0 x1 x2 y0 y1 y2 wc) (hy : W0.heap.size ≤ y) (hp : p < W0.heap.size) (hbb : b < W0.heap.size) : HeldO W0 p b o x0 x1 x2 y0 y1 y2 (((wc.setCell ⟨y, 0, none⟩ v0).setCell ⟨y, 1, none⟩ v1).setCell ⟨y, 2, none⟩ v2) := by
 obtain ⟨d0, d1, d2, e0, e1, e2, hB⟩ := h
 have m : ∀ i, (((wc.setCell ⟨y, 0, none⟩ v0).setCell ⟨y, 1, none⟩ v1).setCell ⟨y, 2, none⟩ v2).cell? ⟨p, i, none⟩ = wc.cell? ⟨p, i, none⟩ := fun i => World.cell?_of_block (a := ⟨p, i, none⟩) (kept_set3 wc y v0 v1 v2 (fun q => q = p) (fun q e => by omega) p rfl)
 have m' : ∀ i, (((wc.setCell ⟨y, 0, none⟩ v0).setCell ⟨y, 1, none⟩ v1).setCell ⟨y, 2, none⟩ v2).cell? ⟨b, i, none⟩ = wc.cell? ⟨b, i, none⟩ := fun i => World.cell?_of_block (a := ⟨b, i, none⟩) (kept_set3 wc y v0 v1 v2 (fun q => q = b) (fun q e => by omega) b rfl)
 exact ⟨(m _).trans d0, (m _).trans d1, (m _).trans d2, (m' _).trans e0, (m' _).trans e1, (m' _).trans e2, below_set3 hB hy v0 v1 v2⟩


def condR (lost : Bool) (a u k : Int) : Bool := if lost then decide (a < k) else !decide (a < k) && decide (u < k)
def HeldY (W0 : World) (z y : Nat) (a b c d e f g p q r : Value) (w' : World) : Prop :=
 w'.cell? ⟨z, 0, none⟩ = some a ∧ w'.cell? ⟨z, 1, none⟩ = some b ∧ w'.cell? ⟨z, 2, none⟩ = some c ∧ w'.cell? ⟨z, 3, none⟩ = some d ∧ w'.cell? ⟨z, 4, none⟩ = some e ∧ w'.cell? ⟨z, 5, none⟩ = some f ∧ w'.cell? ⟨z, 6, none⟩ = some g ∧
 w'.cell? ⟨y, 0, none⟩ = some p ∧ w'.cell? ⟨y, 1, none⟩ = some q ∧ w'.cell? ⟨y, 2, none⟩ = some r ∧ Below W0.heap.size W0 w'
theorem HeldY.bl {W0 wc : World} {z y : Nat} {a b c d e f g p q r : Value} (h : HeldY W0 z y a b c d e f g p q r wc) : Below W0.heap.size W0 wc := h.2.2.2.2.2.2.2.2.2.2
theorem HeldY.below {W0 wc w2 : World} {z y : Nat} {a b c d e f g p q r : Value} (h : HeldY W0 z y a b c d e f g p q r wc) (hb : Below wc.heap.size wc w2) (h1 : z < W0.heap.size) (h2 : y < W0.heap.size) : HeldY W0 z y a b c d e f g p q r w2 := by
 have hs := h.bl.size
 have hB := h.bl
 obtain ⟨c0, c1, c2, c3, c4, c5, c6, d0, d1, d2, -⟩ := h
 have k : ∀ i, w2.cell? ⟨z, i, none⟩ = wc.cell? ⟨z, i, none⟩ := fun i => hb.cell (p := ⟨z, i, none⟩) (Nat.lt_of_lt_of_le h1 hs)
 have k' : ∀ i, w2.cell? ⟨y, i, none⟩ = wc.cell? ⟨y, i, none⟩ := fun i => hb.cell (p := ⟨y, i, none⟩) (Nat.lt_of_lt_of_le h2 hs)
 exact ⟨(k _).trans c0, (k _).trans c1, (k _).trans c2, (k _).trans c3, (k _).trans c4, (k _).trans c5, (k _).trans c6, (k' _).trans d0, (k' _).trans d1, (k' _).trans d2, hB.trans (hb.mono hs)⟩
theorem HeldY.start {W0 wz : World} {z y : Nat} {a b c d e f g p q r : Value} (h : HeldY W0 z y a b c d e f g p q r wz) : HeldY wz z y a b c d e f g p q r wz.drew := by
 obtain ⟨c0, c1, c2, c3, c4, c5, c6, d0, d1, d2, -⟩ := h
 exact ⟨c0, c1, c2, c3, c4, c5, c6, d0, d1, d2, (Below.refl _ _).drew⟩
set_option maxRecDepth 100000 in
set_option maxHeartbeats 800000 in
theorem lost1_any (a u k : Int) (w : World) : Calls Tryz.prog 34 #[.int .i64 a, .int .i64 u, .int .i64 k] w fun e w' => e = .returned (.bool (condR true a u k)) ∧ w = w' := by
 have hc : condR true a u k = decide (a < k) := rfl
 rw [hc]
 go_enter Tryz.func34, Tryz.ntmps34
 go_wp2_with fail
 go_ret
 exact ⟨rfl, rfl⟩
set_option maxRecDepth 100000 in
set_option maxHeartbeats 1600000 in
theorem lost_any (N : Nat) (hN : N ≤ 12) (vl vm vd vv vp vo vp0 vo0 va0 : Value) (F : FltM) (r : Re) (w : World) (hf : FleetS w (Bl w.heap.size) vl vm vd vv vp vo F) (hok : FleetOk N F) (h : ReS w (Bl w.heap.size) vp0 vo0 va0 r) (hp : r.plat.length ≤ 1000) (hl : ∀ l ∈ r.plat, l.length ≤ 1000) (hac : r.acks.length ≤ 1000000) :
  Calls Tryz.prog 13 #[.agg #[.int .i64 F.ext, vl, vm, vd, vv, vp, vo], .agg #[vp0, vo0, va0]] w fun e w' => ∃ u, e = .returned u ∧ OwnKy w' w.heap.size u (keyL F r (condR true) F.ext.toNat F.vols.length 0) ∧ Below w.heap.size w w' := by
 obtain ⟨W0, hW0⟩ : ∃ W0, W0 = (w.alloc (.cells #[.int .i64 F.ext, vl, vm, vd, vv, vp, vo] 37)).alloc (.cells #[vp0, vo0, va0] 27) := ⟨_, rfl⟩
 obtain ⟨z, hz⟩ : ∃ q, q = w.heap.size := ⟨_, rfl⟩
 obtain ⟨y, hy⟩ : ∃ q, q = w.heap.size + 1 := ⟨_, rfl⟩
 have hb0 : Below w.heap.size w W0 := by rw [hW0]; exact ((Below.refl _ _).alloc (Nat.le_refl _) _).alloc (by simp) _
 have hyk : W0.heap[y]? = some (.cells #[vp0, vo0, va0] 27 (0, 0)) := by
  rw [hW0]; exact heap_alloc_at _ _ _ (by rw [hy]; simp)
 have hzk : W0.heap[z]? = some (.cells #[.int .i64 F.ext, vl, vm, vd, vv, vp, vo] 37 (0, 0)) := by
  rw [hW0, hz]; exact (Below.heap_alloc _ _ _ (by simp)).trans (heap_alloc_new w _)
 obtain ⟨c0, c1, c2, c3, c4, c5, c6⟩ := cells7 hzk
 obtain ⟨d0, d1, d2, -⟩ := cells3 hyk
 have HV := Lib.hid (missingL_any (condR true) lost1_any N hN vl vm vd vv vp vo vp0 vo0 va0 F r W0 (hf.below hb0) hok (h.below hb0) hp hl hac)
 have HW0 := Lib.hid hW0
 have HZ := Lib.hid hz
 have HY := Lib.hid hy
 have HB0 := Lib.hid hb0
 obtain ⟨EX, hEX⟩ : ∃ x, x = F.ext := ⟨_, rfl⟩
 obtain ⟨KL, hKL⟩ : ∃ x, x = keyL F r (condR true) F.ext.toNat F.vols.length 0 := ⟨_, rfl⟩
 rw [← hKL] at HV ⊢
 rw [← hEX] at HV HW0 c0 ⊢
 clear hf hok h hp hl hac hW0 hz hy hb0 hzk hyk hEX hKL
 go_enter Tryz.func13, Tryz.ntmps13
 go_upto_region 1 with fail
 rw [← HW0.out, ← HY.out, ← HZ.out]
 go_wp2_with fail
 refine HV.out.mono ?_
 rintro e w1 ⟨u, rfl, ho, hb1⟩
 have HB1 := Lib.hid hb1
 have HO := Lib.hid ho
 clear c0 c1 c2 c3 c4 c5 c6 d0 d1 d2 hb1 ho
 go_wp2_with fail
 go_ret
 exact ⟨_, rfl, HO.out.base HB0.out.size, HB0.out.trans (HB1.out.mono HB0.out.size)⟩

def awP : Pc := ⟨1, 2, 0, 9, 5, [48, 49, 50, 51, 52, 53, 54, 55, 56, 57, 97, 98, 99, 100, 101, 102]⟩
def awR (s : ByteArray) : Re := ⟨[[], [s]], [false, false], [⟨1, 0, 5, 0⟩]⟩
theorem aw_valid : validP awP = true := by decide
theorem aw_len : (encB awP).length = 36 := by kernel_rfl
theorem aw_good1 : goodI (awR ⟨(encB awP).toArray⟩) 1 2 0 = [1] := by kernel_rfl
theorem aw_good2 : goodI (awR ⟨(encB awP).toArray⟩) 1 1 0 = [] := by kernel_rfl
theorem aw_int1 : intI (awR ⟨(encB awP).toArray⟩) 1 0 false = [2] := by kernel_rfl
theorem aw_int2 : intI (awR ⟨(encB awP).toArray⟩) 1 0 true = [] := by kernel_rfl
theorem aw_one {α : Type} {x y : α} {k : Nat} (h : [x][k]? = some y) : k = 0 ∧ y = x := by
 match k with
 | 0 => simp at h; exact ⟨rfl, h.symm⟩
 | k + 1 => simp at h
theorem aw_two {α : Type} {x1 x2 y : α} {k : Nat} (h : [x1, x2][k]? = some y) : (k = 0 ∧ y = x1) ∨ (k = 1 ∧ y = x2) := by
 match k with
 | 0 => simp at h; exact .inl ⟨rfl, h.symm⟩
 | 1 => simp at h; exact .inr ⟨rfl, h.symm⟩
 | k + 2 => simp at h
theorem aw_four {α : Type} {x1 x2 x3 x4 y : α} {k : Nat} (h : [x1, x2, x3, x4][k]? = some y) : (k = 0 ∧ y = x1) ∨ (k = 1 ∧ y = x2) ∨ (k = 2 ∧ y = x3) ∨ (k = 3 ∧ y = x4) := by
 match k with
 | 0 => simp at h; exact .inl ⟨rfl, h.symm⟩
 | 1 => simp at h; exact .inr (.inl ⟨rfl, h.symm⟩)
 | 2 => simp at h; exact .inr (.inr (.inl ⟨rfl, h.symm⟩))
 | 3 => simp at h; exact .inr (.inr (.inr ⟨rfl, h.symm⟩))
 | k + 4 => simp at h
theorem aw_re (W : World) (s : ByteArray) (n1 n2 n3 n4 : Nat) (hs : s.size = 36) (h1 : W.cell? ⟨n1, 0, none⟩ = some (.string s)) (h20 : W.cell? ⟨n2, 0, none⟩ = some (.slice none 0 0)) (h21 : W.cell? ⟨n2, 1, none⟩ = some (.slice (some ⟨n1, 0, none⟩) 1 1))
  (h30 : W.cell? ⟨n3, 0, none⟩ = some (.bool false)) (h31 : W.cell? ⟨n3, 1, none⟩ = some (.bool false)) (h40 : W.cell? ⟨n4, 0, none⟩ = some (.int .i64 1)) (h41 : W.cell? ⟨n4, 1, none⟩ = some (.int .i64 0)) (h42 : W.cell? ⟨n4, 2, none⟩ = some (.int .i64 5)) (h43 : W.cell? ⟨n4, 3, none⟩ = some (.int .i64 0)) :
  ReS W (Bl W.heap.size) (.slice (some ⟨n2, 0, none⟩) 2 2) (.slice (some ⟨n3, 0, none⟩) 2 2) (.slice (some ⟨n4, 0, none⟩) 1 1) (awR s) := by
 refine ⟨⟨_, 2, rfl, Nat.le_refl _, by unfold maxLen; simp [awR], fun _ => ⟨n2, 0, rfl, block_lt_of_cell h20, fun k a hk => ?_⟩⟩, ⟨_, 2, rfl, Nat.le_refl _, by unfold maxLen; simp [awR], fun _ => ⟨n3, 0, rfl, block_lt_of_cell h30, fun k a hk => ?_⟩⟩, ⟨_, 1, rfl, Nat.le_refl _, by unfold maxLen; simp [awR], fun _ => ⟨n4, 0, rfl, block_lt_of_cell h40, fun k a hk => ?_⟩⟩⟩
 ·rcases aw_two hk with ⟨rfl, rfl⟩ | ⟨rfl, rfl⟩
  ·exact ⟨[_], rfl, fun i c hc => by obtain ⟨rfl, rfl⟩ := aw_one hc; exact h20, _, rfl, Row.nil _ _ _⟩
  ·refine ⟨[_], rfl, fun i c hc => by obtain ⟨rfl, rfl⟩ := aw_one hc; exact h21, _, rfl, _, 1, rfl, Nat.le_refl _, by unfold maxLen; simp, fun _ => ⟨n1, 0, rfl, block_lt_of_cell h1, fun k a hk => ?_⟩⟩
   obtain ⟨rfl, rfl⟩ := aw_one hk
   exact ⟨[_], rfl, fun i c hc => by obtain ⟨rfl, rfl⟩ := aw_one hc; exact h1, rfl, by rw [hs]; unfold maxLen; decide⟩
 ·rcases aw_two hk with ⟨rfl, rfl⟩ | ⟨rfl, rfl⟩
  ·exact ⟨[_], rfl, fun i c hc => by obtain ⟨rfl, rfl⟩ := aw_one hc; exact h30, rfl⟩
  ·exact ⟨[_], rfl, fun i c hc => by obtain ⟨rfl, rfl⟩ := aw_one hc; exact h31, rfl⟩
 ·obtain ⟨rfl, rfl⟩ := aw_one hk
  refine ⟨[_, _, _, _], rfl, fun i c hc => ?_, rfl, by unfold I64; decide, by unfold I64; decide, by unfold I64; decide, by unfold I64; decide⟩
  rcases aw_four hc with ⟨rfl, rfl⟩ | ⟨rfl, rfl⟩ | ⟨rfl, rfl⟩ | ⟨rfl, rfl⟩
  ·exact h40
  ·exact h41
  ·exact h42
  ·exact h43
theorem aw_new (w : World) (cs : Array Value) (t : TypeId) (b i : Nat) (h : b = w.heap.size) : (w.alloc (.cells cs t)).cell? ⟨b, i, none⟩ = cs[i]? := by
 subst h
 exact cell_of_row _ _ _ _ _ _ (heap_alloc_new w (.cells cs t))
theorem aw_old (w : World) (o : Obj) (b i : Nat) (h : b < w.heap.size) : (w.alloc o).cell? ⟨b, i, none⟩ = w.cell? ⟨b, i, none⟩ := World.cell?_of_block (w := w) (Below.heap_alloc w o b h)
theorem aw_lit {w : World} {g : Nat} {x : Int} (h : w.cell? ⟨g, 0, none⟩ = some (.int .i64 x)) (hx : I64 x) : IntS w (Bl w.heap.size) (.slice (some ⟨g, 0, none⟩) 1 1) [x] :=
 ⟨⟨_, 1, rfl, Nat.le_refl _, by unfold maxLen; simp, fun _ => ⟨g, 0, rfl, block_lt_of_cell h, fun k a hk => by obtain ⟨rfl, rfl⟩ := aw_one hk; exact h⟩⟩, fun y hy => by rw [List.mem_singleton.1 hy]; exact hx⟩
set_option maxRecDepth 100000 in
set_option maxHeartbeats 1600000 in
theorem awake_any (w : World) : Calls Tryz.prog 10 #[] w fun e w' => e = .returned (.bool true) ∧ Below w.heap.size w w' := by
 have henc := fun w => refsenc_any awP w (by unfold PcI I64 maxLen; decide) (by decide)
 rw [show encS awP = encB awP by unfold encS; rw [if_pos aw_valid], show encE awP = 0 by unfold encE; rw [if_pos aw_valid]] at henc
 have hsz : (⟨(encB awP).toArray⟩ : ByteArray).size = 36 := by rw [size_of]; exact aw_len
 have hg1 := aw_good1
 have hg2 := aw_good2
 have hi1 := aw_int1
 have hi2 := aw_int2
 obtain ⟨X, hX⟩ : ∃ X : ByteArray, X = ⟨(encB awP).toArray⟩ := ⟨_, rfl⟩
 rw [← hX] at henc hsz hg1 hg2 hi1 hi2
 have HEN := Lib.hid henc
 have HSZ := Lib.hid hsz
 have HG1 := Lib.hid hg1
 have HG2 := Lib.hid hg2
 have HI1 := Lib.hid hi1
 have HI2 := Lib.hid hi2
 clear henc hsz hg1 hg2 hi1 hi2 hX
 go_enter Tryz.func10, Tryz.ntmps10
 go_wp2_with fail
 refine (HEN.out _).mono ?_
 rintro e w1 ⟨rfl, hb1⟩
 go_wp2_with fail
 obtain ⟨n, hn⟩ : ∃ n, n = w1.heap.size := ⟨_, rfl⟩
 rw [← hn]
 obtain ⟨W, hW⟩ : ∃ W, W = (((((w1.alloc (.cells #[.string X] 9)).alloc (.cells #[.slice none 0 0, .slice (some ⟨n, 0, none⟩) 1 1] 50)).alloc (.cells #[.bool false, .bool false] 4)).alloc (.cells #[.int .i64 1, .int .i64 0, .int .i64 5, .int .i64 0] 53)).alloc (.cells #[.slice (some ⟨n + 1, 0, none⟩) 2 2, .slice (some ⟨n + 1 + 1, 0, none⟩) 2 2, .slice (some ⟨n + 1 + 1 + 1, 0, none⟩) 1 1] 27)) := ⟨_, rfl⟩
 rw [← hW]
 have hre := aw_re W X n (n + 1) (n + 1 + 1) (n + 1 + 1 + 1) HSZ.out (by rw [hW, hn]; rw [aw_old _ _ _ _ (by first | (simp; done) | (simp; omega)), aw_old _ _ _ _ (by first | (simp; done) | (simp; omega)), aw_old _ _ _ _ (by first | (simp; done) | (simp; omega)), aw_old _ _ _ _ (by first | (simp; done) | (simp; omega)), aw_new _ _ _ _ _ (by simp)]; rfl) (by rw [hW, hn]; rw [aw_old _ _ _ _ (by first | (simp; done) | (simp; omega)), aw_old _ _ _ _ (by first | (simp; done) | (simp; omega)), aw_old _ _ _ _ (by first | (simp; done) | (simp; omega)), aw_new _ _ _ _ _ (by simp)]; rfl) (by rw [hW, hn]; rw [aw_old _ _ _ _ (by first | (simp; done) | (simp; omega)), aw_old _ _ _ _ (by first | (simp; done) | (simp; omega)), aw_old _ _ _ _ (by first | (simp; done) | (simp; omega)), aw_new _ _ _ _ _ (by simp)]; rfl) (by rw [hW, hn]; rw [aw_old _ _ _ _ (by first | (simp; done) | (simp; omega)), aw_old _ _ _ _ (by first | (simp; done) | (simp; omega)), aw_new _ _ _ _ _ (by simp)]; rfl) (by rw [hW, hn]; rw [aw_old _ _ _ _ (by first | (simp; done) | (simp; omega)), aw_old _ _ _ _ (by first | (simp; done) | (simp; omega)), aw_new _ _ _ _ _ (by simp)]; rfl) (by rw [hW, hn]; rw [aw_old _ _ _ _ (by first | (simp; done) | (simp; omega)), aw_new _ _ _ _ _ (by simp)]; rfl) (by rw [hW, hn]; rw [aw_old _ _ _ _ (by first | (simp; done) | (simp; omega)), aw_new _ _ _ _ _ (by simp)]; rfl) (by rw [hW, hn]; rw [aw_old _ _ _ _ (by first | (simp; done) | (simp; omega)), aw_new _ _ _ _ _ (by simp)]; rfl) (by rw [hW, hn]; rw [aw_old _ _ _ _ (by first | (simp; done) | (simp; omega)), aw_new _ _ _ _ _ (by simp)]; rfl)
 have hbW : Below w1.heap.size w1 W := by rw [hW]; exact (((((Below.refl _ _).alloc (Nat.le_refl _) _).alloc (by simp) _).alloc (by simp; omega) _).alloc (by simp; omega) _).alloc (by simp; omega) _
 obtain ⟨q, hq⟩ : ∃ q, q = n + 1 + 1 + 1 + 1 := ⟨_, rfl⟩
 rw [← hq]
 have c0 : W.cell? ⟨q, 0, none⟩ = some (.slice (some ⟨n + 1, 0, none⟩) 2 2) := by rw [hW, hq, hn]; rw [aw_new _ _ _ _ _ (by simp)]; rfl
 have c1 : W.cell? ⟨q, 1, none⟩ = some (.slice (some ⟨n + 1 + 1, 0, none⟩) 2 2) := by rw [hW, hq, hn]; rw [aw_new _ _ _ _ _ (by simp)]; rfl
 have c2 : W.cell? ⟨q, 2, none⟩ = some (.slice (some ⟨n + 1 + 1 + 1, 0, none⟩) 1 1) := by rw [hW, hq, hn]; rw [aw_new _ _ _ _ _ (by simp)]; rfl
 obtain ⟨v1, hv1⟩ : ∃ v, v = Value.slice (some ⟨n + 1, 0, none⟩) 2 2 := ⟨_, rfl⟩
 obtain ⟨v2, hv2⟩ : ∃ v, v = Value.slice (some ⟨n + 1 + 1, 0, none⟩) 2 2 := ⟨_, rfl⟩
 obtain ⟨v3, hv3⟩ : ∃ v, v = Value.slice (some ⟨n + 1 + 1 + 1, 0, none⟩) 1 1 := ⟨_, rfl⟩
 have hs1 := block_lt_of_cell c0
 have HH := Lib.hid (show HeldR W q _ _ _ W from ⟨c0, c1, c2, Below.refl _ _⟩)
 rw [← hv1, ← hv2, ← hv3] at hre HH ⊢
 rw [← hv1] at c0
 rw [← hv2] at c1
 rw [← hv3] at c2
 have HRE := Lib.hid hre
 have HB := Lib.hid (hb1.trans (hbW.mono hb1.size))
 have HQ := Lib.hid hs1
 clear hW hbW hb1 hn hq hv1 hv2 hv3 hre hs1
 refine (good_any v1 v2 v3 (awR X) 1 2 0 W HRE.out (by simp [awR]) (by simp [awR]) (by simp [awR]) (by unfold I64; decide) (by unfold I64; decide)).mono ?_
 rintro e w2 ⟨u, rfl, hO, hb2⟩
 have HH2 := Lib.hid (HH.out.below hb2 HQ.out)
 rw [HG1.out] at hO
 have hx2 := hO.intS (by simp [I64])
 obtain ⟨A2, c2', rfl⟩ := hO.form
 have HX2 := Lib.hid hx2
 clear hO hx2 hb2 c0 c1 c2
 obtain ⟨W2, hW2⟩ : ∃ x, x = w2.alloc (.cells #[.int .i64 1] 3) := ⟨_, rfl⟩
 have hl2 := aw_lit (w := W2) (g := w2.heap.size) (x := 1) (by rw [hW2]; simp) (by unfold I64; decide)
 have hk2 : Below w2.heap.size w2 W2 := by rw [hW2]; exact (Below.refl _ _).alloc (Nat.le_refl _) _
 have hx2' := HX2.out.keep (w' := W2) (fun b hb => hk2.block b hb.2)
 have HSI := Lib.hid (sameints_any _ _ _ _ _ W2 hx2' hl2)
 have HH3 := Lib.hid (HH2.out.below hk2 HQ.out)
 clear hl2 hk2 hx2'
 go_wp2_with fail
 rw [← hW2]
 clear hW2
 refine HSI.out.mono ?_
 rintro e w3 ⟨rfl, k, rfl⟩
 have HH4 := Lib.hid (HH3.out.below (Below.drewN' (Below.refl _ _) k) HQ.out)
 obtain ⟨W4, hW4⟩ : ∃ x, x = W2.drewN k := ⟨_, rfl⟩
 rw [← hW4] at HH4 ⊢
 clear hW4
 obtain ⟨d0, d1, d2, hb4⟩ := HH4.out
 have HRE4 := Lib.hid (HRE.out.below hb4)
 clear hb4
 go_wp2_with fail
 refine (Intact_any v1 v2 v3 (awR X) 1 0 false W4 HRE4.out (by simp [awR]) (by simp [awR]) (by simp [awR]) (by unfold I64; decide) (by unfold I64; decide)).mono ?_
 rintro e w5 ⟨u, rfl, hO, hb5⟩
 have HH5 := Lib.hid (HH4.out.below hb5 HQ.out)
 rw [HI1.out] at hO
 have hx5 := hO.intS (by simp [I64])
 obtain ⟨A5, c5', rfl⟩ := hO.form
 have HX5 := Lib.hid hx5
 clear hO hx5 hb5 d0 d1 d2
 obtain ⟨W5, hW5⟩ : ∃ x, x = w5.alloc (.cells #[.int .i64 2] 3) := ⟨_, rfl⟩
 have hl2 := aw_lit (w := W5) (g := w5.heap.size) (x := 2) (by rw [hW5]; simp) (by unfold I64; decide)
 have hk2 : Below w5.heap.size w5 W5 := by rw [hW5]; exact (Below.refl _ _).alloc (Nat.le_refl _) _
 have hx2' := HX5.out.keep (w' := W5) (fun b hb => hk2.block b hb.2)
 have HSI2 := Lib.hid (sameints_any _ _ _ _ _ W5 hx2' hl2)
 have HH6 := Lib.hid (HH5.out.below hk2 HQ.out)
 clear hl2 hk2 hx2'
 go_wp2_with fail
 rw [← hW5]
 clear hW5
 refine HSI2.out.mono ?_
 rintro e w6 ⟨rfl, k6, rfl⟩
 have HH7 := Lib.hid (HH6.out.below (Below.drewN' (Below.refl _ _) k6) HQ.out)
 obtain ⟨W7, hW7⟩ : ∃ x, x = W5.drewN k6 := ⟨_, rfl⟩
 rw [← hW7] at HH7 ⊢
 clear hW7
 obtain ⟨d0, d1, d2, hb7⟩ := HH7.out
 have HRE7 := Lib.hid (HRE.out.below hb7)
 clear hb7
 go_wp2_with fail
 refine (Intact_any v1 v2 v3 (awR X) 1 0 true W7 HRE7.out (by simp [awR]) (by simp [awR]) (by simp [awR]) (by unfold I64; decide) (by unfold I64; decide)).mono ?_
 rintro e w8 ⟨u, rfl, hO, hb8⟩
 have HH8 := Lib.hid (HH7.out.below hb8 HQ.out)
 rw [HI2.out] at hO
 obtain ⟨A8, c8', rfl⟩ := hO.form
 clear hO hb8 d0 d1 d2
 obtain ⟨d0, d1, d2, hb8⟩ := HH8.out
 have HRE8 := Lib.hid (HRE.out.below hb8)
 clear hb8
 go_wp2_with fail
 refine (good_any v1 v2 v3 (awR X) 1 1 0 w8 HRE8.out (by simp [awR]) (by simp [awR]) (by simp [awR]) (by unfold I64; decide) (by unfold I64; decide)).mono ?_
 rintro e w9 ⟨u, rfl, hO, hb9⟩
 rw [HG2.out] at hO
 obtain ⟨A9, c9', rfl⟩ := hO.form
 have HB9 := Lib.hid (HH8.out.bl.trans (hb9.mono HH8.out.bl.size))
 clear hO hb9 d0 d1 d2
 go_wp2_with fail
 go_ret
 exact ⟨rfl, HB.out.trans (HB9.out.mono HB.out.size)⟩
end Go.Proofs.YtmehadfhcdpfcaaGreat
