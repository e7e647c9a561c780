/- PROVED: For every input TruthMargins returns true: a stripe is lost exactly if the margin of its copies on all drives is negative. No condition. -/
import Derived.Test.YtmehadfhcdpfcaaGreatMc16
import Derived.Test.YtmehadfhcdpfcaaGreatMc22
import Derived.Test.YtmehadfhcdpfcaaGreatMc01
import Derived.ProofKit
import Derived.OpenShut
import Derived.Lib.SmallJoins
import Derived.Deep.Slices
import Derived.Deep.Fields
import Derived.ChangeSame
import Derived.Test.YtmehadfhcdpfcaaGreatMc07
namespace Go.Proofs.YtmehadfhcdpfcaaGreat
open Go.RowKit
set_option linter.unusedVariables false
set_option linter.unusedSimpArgs false
def OwnCp (w : World) (base : Nat) (v : Value) (cs : List (Nat × Int)) : Prop := w.ownsRow base 69 3 v cs.length (cs.flatMap cpC)
theorem info_cp : (Tryz.prog.info? 69).map (fun i => (i.zero, i.size, i.bytes)) = some (some (.agg #[.int .i64 0, .int .i64 0, .int .i64 0]), 3, 24) := by kernel_rfl
theorem OwnCp.nil (w : World) (base : Nat) : OwnCp w base (.slice none 0 0) [] := World.ownsRow_nil _ _ _ _
theorem OwnCp.below {w w2 : World} {base : Nat} {v : Value} {cs : List (Nat × Int)} (h : OwnCp w base v cs) (hb : Below w.heap.size w w2) : OwnCp w2 base v cs := own_below h hb
theorem app_cp {ops : Array Oper} {rest : List Oper} {o : Oper} {a : Act} {Q : Exit → Act → World → Prop} {w : World} (x0 : Nat) (x1 : Int) (s x : Operand) (hgd : o.guard = none) (ho : o.op = .call { callee := .builtin .append, args := #[s, x], argTypes := #[66, 66] })
  (base : Nat) (v : Value) (n : Nat) (cs : List (Nat × Int)) (hlen : cs.length = n) (hs : a.eval s = v) (hown : w.ownsRow base 69 3 v n (cs.flatMap cpC))
  (hx : a.eval x = .slice (some ⟨w.heap.size, 0, none⟩) 1 1) (hn : n + 1 ≤ 16777216) (hbase : base ≤ w.heap.size)
  (h : ∀ v' w', OwnCp w' base v' (cs ++ [(x0, x1)]) → w.grownBy w' v.ownBlock → (v'.ownBlock = v.ownBlock ∨ v'.ownBlock = some (w.heap.size + 1)) → wpList Tryz.prog ops Q rest (a.put o.dst v') w') :
  wpList Tryz.prog ops Q (o :: rest) a (w.alloc (.cells #[.int .i64 (x0 : Int), .int .i64 x1, .int .i64 1] 69)) := by
 obtain ⟨i0, hi0, hz0, hz1, hz2⟩ := info_parts info_cp
 refine wpList_append1 hgd s x _ ho base i0 _ 3 24 Tryz.underlying66 hi0 hz0 hz1 hz2 rfl (by omega) (by omega) v n (cs.flatMap cpC) hs hown hx rfl (fun u hu => ?_) hn hbase (fun v' w' h1 h2 h3 => h v' w' ?_ h2 h3)
 ·simp at hu
  rcases hu with rfl | rfl | rfl <;> rfl
 ·unfold OwnCp
  rw [List.length_append, List.length_singleton, hlen, List.flatMap_append]
  simpa [cpC] using h1
theorem flat_cp : ∀ (cs : List (Nat × Int)) (k : Nat) (x : Nat × Int), cs[k]? = some x → ∀ i c, (cpC x)[i]? = some c → (cs.flatMap cpC)[k * 3 + i]? = some c
 | [], k, f, h => by simp at h
 | x :: r, 0, f, h => by
  simp at h; subst h
  intro i c hc
  have hi : i < (cpC x).length := (List.getElem?_eq_some_iff.1 hc).1
  rw [List.flatMap_cons, Nat.zero_mul, Nat.zero_add, List.getElem?_append_left hi]; exact hc
 | x :: r, k + 1, f, h => by
  intro i c hc
  have hl : (cpC x).length = 3 := rfl
  rw [List.flatMap_cons, List.getElem?_append_right (by rw [hl]; omega), hl]
  have := flat_cp r k f (by simpa using h) i c hc
  rw [← this]
  congr 1
  omega
theorem OwnCp.slS {w : World} {base : Nat} {v : Value} {cs : List (Nat × Int)} (h : OwnCp w base v cs) : SlS 3 CpK w (Fr base w.heap.size) v cs := by
 have h1 : w.ownsRow base 69 3 v cs.length (cs.flatMap cpC) := h
 have hc := fun g => h1.cells (g := g)
 have hlt := h1.lt
 rcases h1.2 with ⟨rfl, h0⟩ | ⟨g, cap, cur, rfl, _, _, h2, h3, _⟩
 ·unfold SlS; rw [h0]; exact Row.nil _ _ _
 ·refine ⟨_, cap, rfl, h2, Nat.le_trans h2 h3, fun _ => ⟨g, 0, rfl, hlt g rfl, fun k f hf => ⟨cpC f, rfl, fun i c hi => ?_, rfl⟩⟩⟩
  have e1 : ∀ j, (⟨g, 0, none⟩ : Addr).add j = ⟨g, 0 + j, none⟩ := fun j => by unfold Addr.add; split <;> simp_all
  rw [Nat.add_assoc, ← e1]
  exact hc g rfl _ _ (flat_cp cs k f hf i c hi)
def cps (r : Re) (v s : Nat) (i : Nat) : List (Nat × Int) := (List.range i).flatMap fun f : Nat => (goodI r (v : Int) (f : Int) (s : Int)).map fun d => (f, d)
theorem cps_succ (r : Re) (v s i : Nat) : cps r v s (i + 1) = cps r v s i ++ (goodI r (v : Int) (i : Int) (s : Int)).map (fun d => (i, d)) := by
 unfold cps
 rw [List.range_succ, List.flatMap_append]; simp
theorem cps_lt (r : Re) (v s i : Nat) : ∀ x ∈ cps r v s i, x.1 < i := fun x hx => by
 obtain ⟨f, hf, hm⟩ := List.mem_flatMap.1 hx
 obtain ⟨d, -, rfl⟩ := List.mem_map.1 hm
 exact List.mem_range.1 hf
theorem goodM_in (r : Re) (v f s : Int) (hp : r.plat.length ≤ 1000) : ∀ x ∈ goodI r v f s, I64 x := fun x hx => by
 obtain ⟨y, hy, rfl⟩ := goodTo_mem v f s (pieces r) x hx
 have := pieces_drive r (by omega) y hy
 unfold I64; omega
theorem good_len (r : Re) (v i s : Nat) (hp : r.plat.length ≤ 1000) (hl : ∀ l ∈ r.plat, l.length ≤ 1000) : (goodI r (v : Int) (i : Int) (s : Int)).length ≤ 1000000 := by
 have h1 := goodTo_length (v : Int) (i : Int) (s : Int) (pieces r)
 have h2 := piecesTo_length r 1000 hl r.plat.length
 have h3 : r.plat.length * 1000 ≤ 1000 * 1000 := Nat.mul_le_mul_right 1000 hp
 unfold goodI
 have h4 : (pieces r).length = (piecesTo r r.plat.length).length := rfl
 omega
theorem cps_len (r : Re) (v s : Nat) (hp : r.plat.length ≤ 1000) (hl : ∀ l ∈ r.plat, l.length ≤ 1000) : ∀ i, (cps r v s i).length ≤ i * 1000000
 | 0 => by simp [cps]
 | i + 1 => by
  rw [cps_succ, List.length_append, List.length_map]
  have h1 := cps_len r v s hp hl i
  have h2 := good_len r v i s hp hl
  omega
theorem good_ne (v f s : Int) (l : List Fd) : goodTo v f s l ≠ [] ↔ (l.any fun x => isB x.p v f s) = true := by
 have h : ∀ (l : List Fd) (acc : List Int), l.foldl (gStep v f s) acc ≠ [] ↔ acc ≠ [] ∨ (l.any fun x => isB x.p v f s) = true := by
  intro l
  induction l with
  | nil => intro acc; simp
  | cons x l ih =>
   intro acc
   rw [List.foldl_cons, ih, List.any_cons]
   have hs : gStep v f s acc x ≠ [] ↔ acc ≠ [] ∨ isB x.p v f s = true := by
    unfold gStep
    by_cases hb : isB x.p v f s = true
    ·by_cases hl : acc.getLast? = some (x.drive : Int)
     ·rw [if_neg (fun h => h.2 hl)]
      constructor
      ·exact .inl
      ·intro _ e; rw [e] at hl; cases hl
     ·rw [if_pos ⟨hb, hl⟩]; simp [hb]
    ·rw [if_neg (fun h => hb h.1)]; simp [hb]
   rw [hs, Bool.or_eq_true, or_assoc]
 unfold goodTo
 rw [h]; simp
theorem cps_cnt (r : Re) (v s KM : Nat) (hk : KM ≤ 8) : ((((List.range 8).filter (fun i => decide (i ∈ (cps r v s KM).map (·.1)))).length : Nat) : Int) = cntI r v s false (KM : Int) := by
 have hm : ∀ i, i ∈ (cps r v s KM).map (·.1) ↔ i < KM ∧ 0 ≤ srcI r (pieces r) (v : Int) (i : Int) (s : Int) false := by
  intro i
  rw [srcI_has]
  have e : ((pieces r).any (srcB r (v : Int) (i : Int) (s : Int) false)) = (pieces r).any fun x => isB x.p (v : Int) (i : Int) (s : Int) := by
   congr 1; funext x; unfold srcB; simp
  rw [e, ← good_ne]
  constructor
  ·intro h
   obtain ⟨x, hx, rfl⟩ := List.mem_map.1 h
   obtain ⟨f, hf, hg⟩ := List.mem_flatMap.1 hx
   obtain ⟨d, hd, rfl⟩ := List.mem_map.1 hg
   exact ⟨List.mem_range.1 hf, fun e => by unfold goodI at hd; rw [e] at hd; cases hd⟩
  ·rintro ⟨h1, h2⟩
   obtain ⟨d, hd⟩ := List.exists_mem_of_ne_nil _ h2
   exact List.mem_map.2 ⟨(i, d), List.mem_flatMap.2 ⟨i, List.mem_range.2 h1, List.mem_map.2 ⟨d, hd, rfl⟩⟩, rfl⟩
 have hf : ∀ n, ((List.range n).filter (fun i => decide (i ∈ (cps r v s KM).map (·.1)))).length = ((intTo r (pieces r) (v : Int) (s : Int) false n).filter (fun x => decide (x < (KM : Int)))).length := by
  intro n
  induction n with
  | zero => rfl
  | succ n ih =>
   rw [List.range_succ, List.filter_append, List.length_append, ih, intTo_succ, List.filter_append, List.length_append]
   congr 1
   by_cases h1 : 0 ≤ srcI r (pieces r) (v : Int) (n : Int) (s : Int) false
   ·rw [if_pos h1]
    by_cases h2 : n < KM
    ·have h3 := (hm n).2 ⟨h2, h1⟩
     have h4 : (n : Int) < (KM : Int) := by omega
     simp only [List.filter_cons, decide_eq_true h3, decide_eq_true h4, if_true, List.filter_nil, List.length_singleton]
    ·have h3 : ¬ n ∈ (cps r v s KM).map (·.1) := fun h => h2 ((hm n).1 h).1
     have h4 : ¬ (n : Int) < (KM : Int) := by omega
     simp only [List.filter_cons, decide_eq_false h3, decide_eq_false h4, List.filter_nil]
     rfl
   ·rw [if_neg h1]
    have h3 : ¬ n ∈ (cps r v s KM).map (·.1) := fun h => h1 ((hm n).1 h).2
    simp only [List.filter_cons, decide_eq_false h3, List.filter_nil]
    rfl
 rw [hf 8]; rfl
theorem ver_made {F : FltM} {r : Re} {st : List Stp} (hmo : MadeOk F r st) {v s : Nat} (hv : v < F.vols.length) (hs : s < F.ext.toNat) : (verOf r.acks (v : Int) (s : Int)).isSome = true := by
 have hm : (v, s) ∈ st.map (fun x => (x.vol, x.stripe)) := by
  rw [hmo.keys]
  unfold keysTo
  exact List.mem_append_left _ (List.mem_flatMap.2 ⟨v, List.mem_range.2 hv, List.mem_map.2 ⟨s, List.mem_range.2 hs, rfl⟩⟩)
 obtain ⟨x, hx, he⟩ := List.mem_map.1 hm
 injection he with e1 e2
 unfold verOf
 rw [Option.isSome_map, hmo.acks, List.find?_isSome]
 exact ⟨x.ack, List.mem_map.2 ⟨x, hx, rfl⟩, by simp [Stp.ack, e1, e2]⟩
theorem key_in (F : FltM) (r : Re) (cond : Int → Int → Int → Bool) (ext NO v s : Nat) (hv : v < NO) (hs : s < ext) : (v, s) ∈ keyL F r cond ext NO 0 ↔ keyP F r cond (v, s) = true := by
 unfold keyL
 rw [List.mem_filter]
 have hm : (v, s) ∈ keysTo ext NO 0 := by
  unfold keysTo
  exact List.mem_append_left _ (List.mem_flatMap.2 ⟨v, List.mem_range.2 hv, List.mem_map.2 ⟨s, List.mem_range.2 hs, rfl⟩⟩)
 exact ⟨fun h => h.2, fun h => ⟨hm, h⟩⟩
set_option maxRecDepth 100000 in
set_option maxHeartbeats 6400000 in
theorem margins_any (HMade : ∀ (vt : Value) (xs : List Int) (w : World) (R : Nat → Prop), IntS w R vt xs → (∀ b, R b → b < w.heap.size) → Calls Tryz.prog 11 #[vt] w (MadePost w)) (vl : Value) (xs : List Int) (w : World) (hl : IntS w (Bl w.heap.size) vl xs) :
  Calls Tryz.prog 5 #[vl] w fun e w' => e = .returned (.bool true) ∧ Below w.heap.size w w' := by
 have HAW := Lib.hid (fun w1 => awake_any w1)
 have HMD := Lib.hid (HMade vl xs w _ hl (fun b h => h))
 obtain ⟨Al, nl, cl, rfl⟩ := hl.form3
 clear hl HMade
 go_enter Tryz.func5, Tryz.ntmps5
 go_wp2_with fail
 refine HMD.out.mono ?_
 rintro e w2 ⟨fl, fm, fd, fv, fp, fo, F, zp, zo, za, r, gM, n, f, st, rfl, hfs, hok, hre, hmo, hmp, hdo, hgM, hb2⟩
 obtain ⟨pb, pof, ob, oof, cp, co, hfp, hfo, hRp, hRo, hPA⟩ := polAt (hfs.mono Fr.bl) hok
 obtain ⟨A1, c1, hf1, -⟩ := SlS.form hfs.1
 obtain ⟨A2, c2, hf2, -⟩ := SlS.form hfs.2.1
 obtain ⟨A3, c3, hf3, -⟩ := SlS.form hfs.2.2.1
 obtain ⟨A4, c4, hf4, -⟩ := SlS.form hfs.2.2.2.1
 obtain ⟨B1', d1, hz1, -⟩ := SlS.form hre.1
 obtain ⟨B2', d2, hz2, -⟩ := SlS.form hre.2.1
 obtain ⟨B3', d3, hz3, -⟩ := SlS.form hre.2.2
 obtain ⟨n1, hn1⟩ : ∃ n, n = F.laws.length := ⟨_, rfl⟩
 obtain ⟨n2, hn2⟩ : ∃ n, n = F.models.length := ⟨_, rfl⟩
 obtain ⟨n3, hn3⟩ : ∃ n, n = F.doms.length := ⟨_, rfl⟩
 obtain ⟨n4, hn4⟩ : ∃ n, n = F.dves.length := ⟨_, rfl⟩
 obtain ⟨NP, hNP⟩ : ∃ n, n = F.pols.length := ⟨_, rfl⟩
 obtain ⟨NO, hNO⟩ : ∃ n, n = F.vols.length := ⟨_, rfl⟩
 obtain ⟨m1, hm1⟩ : ∃ n, n = r.plat.length := ⟨_, rfl⟩
 obtain ⟨m2, hm2⟩ : ∃ n, n = r.on.length := ⟨_, rfl⟩
 obtain ⟨m3, hm3⟩ : ∃ n, n = r.acks.length := ⟨_, rfl⟩
 rw [← hn1] at hf1
 rw [← hn2] at hf2
 rw [← hn3] at hf3
 rw [← hn4] at hf4
 rw [← hNP] at hfp
 rw [← hNO] at hfo
 rw [← hm1] at hz1
 rw [← hm2] at hz2
 rw [← hm3] at hz3
 obtain ⟨EX, hEX, hEX1, hEX2⟩ : ∃ n : Nat, F.ext = (n : Int) ∧ 1 ≤ n ∧ n ≤ 2 := by rcases hok.ext with e | e <;> rw [e] <;> first | exact ⟨1, rfl, by omega, by omega⟩ | exact ⟨2, rfl, by omega, by omega⟩
 have hak : r.acks.length ≤ 1000000 := by
  have h1 := congrArg List.length hmo.keys
  rw [List.length_map] at h1
  have h2 := keysTo_le F.ext.toNat F.vols.length 0 (by have := hok.ext; omega) hok.volN (by omega)
  rw [hmo.acks, List.length_map]; omega
 have hno : NO ≤ 2 := by rw [hNO]; exact hok.volN
 have hnp : NP ≤ 2 := by rw [hNP]; exact hok.polN
 have HNN := Lib.hid (show NO = F.vols.length ∧ NP = F.pols.length ∧ NO ≤ 2 ∧ NP ≤ 2 from ⟨hNO, hNP, hno, hnp⟩)
 have HEXB := Lib.hid (And.intro hEX1 hEX2)
 have HKQ := Lib.hid (fun v (hv : v < NO) => kmq_ok hok (show v < F.vols.length from by rw [← hNO]; exact hv))
 have HPLT := Lib.hid (show r.plat.length ≤ 1000 ∧ ∀ l ∈ r.plat, l.length ≤ 1000 from ⟨by rw [hmo.plat]; have := hok.dveN; omega, hmo.len⟩)
 have HPLT2 := Lib.hid hak
 have HVER := Lib.hid (fun v s (hv : v < NO) (hs : s < EX) => ver_made hmo (v := v) (s := s) (by rw [← hNO]; exact hv) (by rw [hEX]; exact hs))
 obtain ⟨KA, hKA⟩ : ∃ l, l = keyL F r (condR true) EX NO 0 := ⟨_, rfl⟩
 have HKL := Lib.hid (show KA.length ≤ 100 from by
  have h1 := keyL_len F r (condR true) EX NO 0
  rw [hKA]
  have h2 : NO * EX ≤ 2 * 2 := Nat.mul_le_mul hno hEX2
  omega)
 have HLO := Lib.hid (fun W (hb : Below w2.heap.size w2 W) => (show Calls Tryz.prog 13 #[.agg #[.int .i64 (EX : Int), fl, fm, fd, fv, fp, fo], .agg #[zp, zo, za]] W (fun e w' => ∃ u, e = .returned u ∧ OwnKy w' W.heap.size u KA ∧ Below W.heap.size W w') from by
  have h := lost_any 2 (by omega) fl fm fd fv fp fo zp zo za F r W ((hfs.mono Fr.bl).below hb) hok ((hre.mono Fr.bl).below hb) HPLT.out.1 HPLT.out.2 hak
  rw [hEX, ← hNO, show ((EX : Int)).toNat = EX from by omega] at h
  rw [hKA]; exact h))
 have HLIN := Lib.hid (fun v s (hv : v < NO) (hs : s < EX) NN (hNN : NN = cntI r v s false (kOf F v + mOf F v) - kOf F v) => (show decide ((v, s) ∈ KA) = decide (NN < 0) from by
  rw [Bool.eq_iff_iff, decide_eq_true_iff, decide_eq_true_iff, hKA, key_in F r (condR true) EX NO v s hv hs]
  unfold keyP
  simp only
  rw [HVER.out v s hv hs, Bool.true_and]
  show decide (_ < _) = true ↔ _
  rw [decide_eq_true_iff, hNN]
  omega))
 have HREA := Lib.hid (fun (w' : World) (hb : Below w2.heap.size w2 w') => (hre.mono Fr.bl).below hb)
 have HPA := Lib.hid hPA
 have HBB := Lib.hid (show pb < w2.heap.size ∧ ob < w2.heap.size from ⟨hRp, hRo⟩)
 have HB2 := Lib.hid hb2
 rw [hEX, hf1, hf2, hf3, hf4, hfp, hfo, hz1, hz2, hz3]
 have HEF := Lib.hid (And.intro hf1 (And.intro hf2 (And.intro hf3 (And.intro hf4 (And.intro hfp hfo)))))
 have HEZ := Lib.hid (And.intro hz1 (And.intro hz2 hz3))
 clear hfs hok hre hmo hmp hdo hgM hb2 hEX hak hn1 hn2 hn3 hn4 hNO hNP hm1 hm2 hm3 hPA hRp hRo hf1 hf2 hf3 hf4 hfp hfo hz1 hz2 hz3 hnp hEX1 hKA
 go_upto_region 2 with fail
 obtain ⟨g, hg⟩ : ∃ g, g = w2.heap.size := ⟨_, rfl⟩
 obtain ⟨p, hp⟩ : ∃ p, p = w2.heap.size + 1 := ⟨_, rfl⟩
 obtain ⟨W4, hW4⟩ : ∃ x, x = ((w2.alloc (.cells #[.int .i64 (EX : Int), .slice A1 n1 c1, .slice A2 n2 c2, .slice A3 n3 c3, .slice A4 n4 c4, .slice (some ⟨pb, pof, none⟩) NP cp, .slice (some ⟨ob, oof, none⟩) NO co] 37)).alloc (.cells #[.slice B1' m1 d1, .slice B2' m2 d2, .slice B3' m3 d3] 27)) := ⟨_, rfl⟩
 rw [← hW4, ← hp, ← hg]
 have hb4 : Below w2.heap.size w2 W4 := by rw [hW4]; exact ((Below.refl _ _).alloc (Nat.le_refl _) _).alloc (by simp) _
 have hbR : W4.heap[p]? = some (.cells #[.slice B1' m1 d1, .slice B2' m2 d2, .slice B3' m3 d3] 27 (0, 0)) := by
  rw [hW4]; exact heap_alloc_at _ _ _ (by rw [hp]; simp)
 have hbF : W4.heap[g]? = some (.cells #[.int .i64 (EX : Int), .slice A1 n1 c1, .slice A2 n2 c2, .slice A3 n3 c3, .slice A4 n4 c4, .slice (some ⟨pb, pof, none⟩) NP cp, .slice (some ⟨ob, oof, none⟩) NO co] 37 (0, 0)) := by
  rw [hW4, hg]; exact (Below.heap_alloc _ _ _ (by simp)).trans (heap_alloc_new w2 _)
 rw [← HEZ.out.1, ← HEZ.out.2.1, ← HEZ.out.2.2] at hbR ⊢
 rw [← HEF.out.1, ← HEF.out.2.1, ← HEF.out.2.2.1, ← HEF.out.2.2.2.1] at hbF ⊢
 rw [HEF.out.2.2.2.2.1, HEF.out.2.2.2.2.2] at HLO
 have hgl : g < W4.heap.size := (Array.getElem?_eq_some_iff.1 hbF).1
 have hpl : p < W4.heap.size := (Array.getElem?_eq_some_iff.1 hbR).1
 have HC4 := Lib.hid (fun (w' : World) (hb : Below W4.heap.size W4 w') => And.intro (cells7 ((hb.block g hgl).trans hbF)) (cells3 ((hb.block p hpl).trans hbR)))
 have HB4 := Lib.hid hb4
 obtain ⟨⟨k0, k1, k2, k3, k4, k5, k6⟩, z0, z1, z2, -⟩ := HC4.out W4 (Below.refl _ _)
 have HLO4 := Lib.hid (HLO.out W4 hb4)
 clear hW4 hg hp hb4 hbR hbF hgl hpl HEF HEZ HLO
 go_wp2_with fail
 refine HLO4.out.mono ?_
 rintro e w5 ⟨u6, rfl, ho6, hb5⟩
 have HC := Lib.hid (fun (w' : World) (hb : Below w5.heap.size w5 w') => HC4.out w' (hb5.trans (hb.mono hb5.size)))
 have HB45 := Lib.hid (HB4.out.trans (hb5.mono HB4.out.size))
 have HRE := Lib.hid (fun (w' : World) (hb : Below w5.heap.size w5 w') => HREA.out w' (HB45.out.trans (hb.mono HB45.out.size)))
 obtain ⟨NL, hNL⟩ : ∃ n, n = KA.length := ⟨_, rfl⟩
 obtain ⟨A6, c6, hu6⟩ := ho6.form
 rw [← hNL] at hu6
 subst hu6
 have HNL := Lib.hid hNL
 have HKEY := Lib.hid (fun (w' : World) (hb : Below w5.heap.size w5 w') => SlS.below kyK (SlS.mono kyK ho6.slS (fun b hb => hb.2)) hb)
 have HX5 := Lib.hid (show NL ≤ 100 from by rw [hNL]; exact HKL.out)
 have HBP := Lib.hid (show pb < w5.heap.size ∧ ob < w5.heap.size from ⟨Nat.lt_of_lt_of_le HBB.out.1 HB45.out.size, Nat.lt_of_lt_of_le HBB.out.2 HB45.out.size⟩)
 have HBF := Lib.hid (HB2.out.trans (HB45.out.mono HB2.out.size))
 clear ho6 hb5 hNL k0 k1 k2 k3 k4 k5 k6 z0 z1 z2 HLO4 HC4
 obtain ⟨⟨k0, k1, k2, k3, k4, k5, k6⟩, -⟩ := HC.out w5 (Below.refl _ _)
 have hnl : NL ≤ 100 := HX5.out
 go_wp2_with fail
 clear k0 k1 k2 k3 k4 k5 k6
 go_loopg [7] NO (fun z v7 wr => ∃ v : Nat, v ≤ NO ∧ z = NO - v ∧ v7 = .int .i64 (v : Int) ∧ Hid (Below w5.heap.size w5 wr))
 case atStart => exact ⟨0, by omega, rfl, rfl, Below.refl _ _⟩
 case round =>
  obtain ⟨v, hv, rfl, rfl, HBR⟩ := hrel
  obtain ⟨⟨k0, k1, k2, k3, k4, k5, k6⟩, -⟩ := HC.out wr HBR.out
  by_cases hlt : v < NO
  ·-- L1{
   obtain ⟨hpl, nm, hvol, a0, a4, a5, a6, a7, a8, a9, a10, a11, a12, a13, a14, a15, a16, hpol, hone⟩ := HPA.out v (by rw [← HNN.out.1]; exact hlt)
   obtain ⟨kk, m1', m2', q1, q2⟩ := HKQ.out v hlt
   obtain ⟨KK, hK⟩ : ∃ x, x = kOf F v := ⟨_, rfl⟩
   obtain ⟨MM, hMM⟩ : ∃ x, x = mOf F v := ⟨_, rfl⟩
   obtain ⟨QQ, hQ⟩ : ∃ x, x = qOf F v := ⟨_, rfl⟩
   obtain ⟨p0, hpp⟩ : ∃ x, x = volP F v := ⟨_, rfl⟩
   rw [← hK, ← hMM, ← hQ] at hpol hone
   rw [← hpp] at hvol hpl hpol
   rw [← hK] at kk
   rw [← hMM] at m1' m2'
   obtain ⟨KM, hKM⟩ : ∃ n : Nat, KK + MM = (n : Int) := ⟨(KK + MM).toNat, by omega⟩
   have HKM := Lib.hid (show (KK = 1 ∨ KK = 2) ∧ 0 ≤ MM ∧ MM ≤ 2 ∧ KK + MM = (KM : Int) ∧ KM ≤ 4 ∧ KM ≤ 8 from ⟨kk, m1', m2', hKM, by omega, by omega⟩)
   have HLIN2 := Lib.hid (fun s (hs : s < EX) NN (hNN : NN = cntI r v s false (KM : Int) - KK) => HLIN.out v s hlt hs NN (by rw [hNN, ← hKM, hK, hMM]))
   have hb25 := HB45.out.trans (HBR.out.mono HB45.out.size)
   have hv0 : wr.cell? ⟨ob, oof + v * 2 + 1, none⟩ = some (.int .i64 (p0 : Int)) := range_same hvol (hb25.block ob HBB.out.2) 1 _ rfl
   have hp0 : wr.rangeAt pb (pof + p0 * 17) [a0, .int .i64 KK, .int .i64 MM, .int .i64 QQ, a4, a5, a6, a7, a8, a9, a10, a11, a12, a13, a14, a15, a16] := range_same hpol (hb25.block pb HBB.out.1)
   have hob : ob < wr.heap.size := Nat.lt_of_lt_of_le HBP.out.2 HBR.out.size
   have hpb : pb < wr.heap.size := Nat.lt_of_lt_of_le HBP.out.1 HBR.out.size
   have HSK := Lib.hid (fun (w' : World) (hb : Below wr.heap.size wr w') => (show w'.cell? ⟨g, 5, none⟩ = some (.slice (some ⟨pb, pof, none⟩) NP cp) ∧ w'.cell? ⟨g, 6, none⟩ = some (.slice (some ⟨ob, oof, none⟩) NO co) ∧ w'.cell? ⟨ob, oof + v * 2 + 1, none⟩ = some (.int .i64 (p0 : Int)) ∧ w'.rangeAt pb (pof + p0 * 17) [a0, .int .i64 KK, .int .i64 MM, .int .i64 QQ, a4, a5, a6, a7, a8, a9, a10, a11, a12, a13, a14, a15, a16] from by
    obtain ⟨⟨-, -, -, -, -, x5, x6⟩, -⟩ := HC.out w' (HBR.out.trans (hb.mono HBR.out.size))
    exact ⟨x5, x6, (World.cell?_of_block (w := wr) (hb.block ob hob)).trans hv0, range_same hp0 (hb.block pb hpb)⟩))
   have HTH := Lib.hid (show ((wr.alloc (.cells #[.string ⟨#[]⟩, .int .i64 0, .int .i64 0, .int .i64 0, .int .i64 0, .int .i64 0, .int .i64 0, .int .i64 0, .int .i64 0, .slice none 0 0, .slice none 0 0, .bool false, .slice none 0 0, .slice none 0 0, .bool false, .slice none 0 0, .slice none 0 0] 63)).drew).there wr.heap.size 0 17 from there_of_block (w := (wr.alloc (.cells #[.string ⟨#[]⟩, .int .i64 0, .int .i64 0, .int .i64 0, .int .i64 0, .int .i64 0, .int .i64 0, .int .i64 0, .int .i64 0, .slice none 0 0, .slice none 0 0, .bool false, .slice none 0 0, .slice none 0 0, .bool false, .slice none 0 0, .slice none 0 0] 63)).drew) (cs := #[.string ⟨#[]⟩, .int .i64 0, .int .i64 0, .int .i64 0, .int .i64 0, .int .i64 0, .int .i64 0, .int .i64 0, .int .i64 0, .slice none 0 0, .slice none 0 0, .bool false, .slice none 0 0, .slice none 0 0, .bool false, .slice none 0 0, .slice none 0 0]) (heap_alloc_new wr _) (Nat.le_refl 17))
   have HON := Lib.hid hone
   have HLTV := Lib.hid hlt
   have i1 : (v : Int) < (NO : Int) := by omega
   have i2 : (p0 : Int) < (NP : Int) := by have := HNN.out.2.1; omega
   have hkm := HKM.out.2.2.2.1
   have hkw : IntKind.i64.wrap (KK + MM) = (KM : Int) := by rw [hkm]; exact IntWalk.i64_in _ (by have := HKM.out; omega)
   have hk4 : KM ≤ 4 := HKM.out.2.2.2.2.1
   have hkw2 : IntKind.i64.wrap (KM : Int) = (KM : Int) := IntWalk.i64_in _ (by omega)
   clear hvol hpol hone kk m1' m2' q1 q2 hK hMM hQ hpp hpl hKM hb25 hv0 hp0 hob hpb
   go_upto_region 6 with fail
   clear k0 k1 k2 k3 k4 k5 k6
   refine region_tail (S := (fun w' => w'.cell? ⟨g, 5, none⟩ = some (.slice (some ⟨pb, pof, none⟩) NP cp) ∧ w'.cell? ⟨g, 6, none⟩ = some (.slice (some ⟨ob, oof, none⟩) NO co) ∧ w'.cell? ⟨ob, oof + v * 2 + 1, none⟩ = some (.int .i64 (p0 : Int)) ∧ w'.rangeAt pb (pof + p0 * 17) [a0, .int .i64 KK, .int .i64 MM, .int .i64 QQ, a4, a5, a6, a7, a8, a9, a10, a11, a12, a13, a14, a15, a16])) [11] (by kernel_rfl) (HSK.out _ (Below.refl _ _).drew) (fun hHeld => ?_)
   refine tk 0 34 ?_
   refine tk 1 35 ?_
   refine tk 2 36 ?_
   refine tk 3 37 ?_
   refine tk 4 38 ?_
   refine tk 5 39 ?_
   refine tk 6 40 ?_
   refine tk 7 41 ?_
   refine tk 8 42 ?_
   refine takeT (i := 9) (d := 43) (v := (.agg #[a0, .int .i64 KK, .int .i64 MM, .int .i64 QQ, a4, a5, a6, a7, a8, a9, a10, a11, a12, a13, a14, a15, a16])) rfl rfl (by kernel_rfl) (by kernel_rfl) (by kernel_rfl) (by kernel_rfl) (fun _ _ _ h => h) (yieldsIf_load_mid (by rfl) 63 (.tmp 42) rfl pb (pof + p0 * 17) (by rfl) [a0, .int .i64 KK, .int .i64 MM, .int .i64 QQ, a4, a5, a6, a7, a8, a9, a10, a11, a12, a13, a14, a15, a16] _ (fun w hw => hw.2.2.2) Tryz.underlying63 rfl size_pol) (by assumption) ?_
   (try simp only [Act.put, List.setIfInBounds_toArray, List.set_cons_zero, List.set_cons_succ])
   refine readyT (rs := [10]) (by kernel_rfl) (by simp) ?_
   refine AllReadyT.cons rfl (fun K hK => ?_) ?_
   ·go_simp
    refine hK.out _ _ ?_ (fun hHeld => ?_)
    ·exact HSK.out _ ((Below.refl _ _).drew.alloc (Nat.le_refl _) _)
    clear hK K
    (try simp only [Act.put, List.setIfInBounds_toArray, List.set_cons_zero, List.set_cons_succ])
    refine readyT (rs := [11]) (by kernel_rfl) (by simp) ?_
    refine AllReadyT.consT rfl rfl (fun K hK => ?_) ?_
    ·rw [if_pos (by rfl)]
     refine wp_store_mid 63 (.tmp 8) (.tmp 43) rfl wr.heap.size 0 #[a0, .int .i64 KK, .int .i64 MM, .int .i64 QQ, a4, a5, a6, a7, a8, a9, a10, a11, a12, a13, a14, a15, a16] (by rfl) (by rfl) HTH.out size_pol HON.out ?_
     refine hK.out _ _ ?_
     clear hK K
     (try simp only [Act.put, List.setIfInBounds_toArray, List.set_cons_zero, List.set_cons_succ])
     refine doneT (by kernel_rfl) ?_ _
     clear hHeld
     go_wp2_with fail
     obtain ⟨W6, hW6⟩ : ∃ x, x = World.setCells ((wr.alloc (.cells #[.string ⟨#[]⟩, .int .i64 0, .int .i64 0, .int .i64 0, .int .i64 0, .int .i64 0, .int .i64 0, .int .i64 0, .int .i64 0, .slice none 0 0, .slice none 0 0, .bool false, .slice none 0 0, .slice none 0 0, .bool false, .slice none 0 0, .slice none 0 0] 63)).drew) wr.heap.size 0 [a0, .int .i64 KK, .int .i64 MM, .int .i64 QQ, a4, a5, a6, a7, a8, a9, a10, a11, a12, a13, a14, a15, a16] := ⟨_, rfl⟩
     obtain ⟨gp, hgp⟩ : ∃ q, q = wr.heap.size := ⟨_, rfl⟩
     rw [← hW6, ← hgp]
     have hb6 : Below wr.heap.size wr W6 := by rw [hW6]; exact below_setCellsV (Nat.le_refl _) _ _ _ ((Below.refl _ _).alloc (Nat.le_refl _) _).drew
     have hgr : W6.rangeAt gp 0 [a0, .int .i64 KK, .int .i64 MM, .int .i64 QQ, a4, a5, a6, a7, a8, a9, a10, a11, a12, a13, a14, a15, a16] := by rw [hW6, hgp]; exact World.rangeAt_setCells_same _ _ _ _ HTH.out
     have HGP := Lib.hid (fun (w' : World) (hb : Below W6.heap.size W6 w') => (show w'.cell? ⟨gp, 1, none⟩ = some (.int .i64 KK) ∧ w'.cell? ⟨gp, 2, none⟩ = some (.int .i64 MM) from
      have hl := World.block_lt_of_cell? W6 _ (hgr 0 _ rfl)
      ⟨range_same hgr (hb.block gp hl) 1 _ rfl, range_same hgr (hb.block gp hl) 2 _ rfl⟩))
     have HB6 := Lib.hid (HBR.out.trans (hb6.mono HBR.out.size))
     clear hW6 hgp hb6 hgr HTH HSK
     obtain ⟨⟨k0, k1, k2, k3, k4, k5, k6⟩, -⟩ := HC.out W6 HB6.out
     go_wp2_with fail
     clear k0 k1 k2 k3 k4 k5 k6
     go_loopg [9] EX (fun z v9 wr => ∃ s : Nat, s ≤ EX ∧ z = EX - s ∧ v9 = .int .i64 (s : Int) ∧ Hid (Below W6.heap.size W6 wr))
     case atStart => exact ⟨0, by omega, rfl, rfl, Below.refl _ _⟩
     case round =>
      obtain ⟨s, hs, rfl, rfl, HBS⟩ := hrel
      have HS5 := Lib.hid (HB6.out.trans (HBS.out.mono HB6.out.size))
      have HS4 := Lib.hid HS5.out
      obtain ⟨⟨k0, k1, k2, k3, k4, k5, k6⟩, -⟩ := HC.out wr HS4.out
      by_cases hls : s < EX
      ·-- L2{
       obtain ⟨wS, hwS⟩ : ∃ wo : World, wo = wr := ⟨_, rfl⟩
       subst hwS
       obtain ⟨p1, p2⟩ := HGP.out wS HBS.out
       have HCM := Lib.hid (cps_cnt r v s KM HKM.out.2.2.2.2.2)
       obtain ⟨CS, hCS⟩ : ∃ f : Nat → List (Nat × Int), f = cps r v s := ⟨_, rfl⟩
       have HCN := Lib.hid (fun i => (show CS (i + 1) = CS i ++ (goodI r (v : Int) (i : Int) (s : Int)).map (fun d => (i, d)) from by rw [hCS]; exact cps_succ r v s i))
       have HC0 := Lib.hid (show CS 0 = [] from by rw [hCS]; rfl)
       have HCL := Lib.hid (fun i (hi : i ≤ 8) => (show (CS i).length ≤ i * 1000000 from by rw [hCS]; exact cps_len r v s HPLT.out.1 HPLT.out.2 i))
       have HCF := Lib.hid (fun i (hi : i ≤ 8) => (show ∀ x ∈ CS i, x.1 < 8 from by rw [hCS]; exact fun x hx => Nat.lt_of_lt_of_le (cps_lt r v s i x hx) hi))
       rw [← hCS] at HCM
       have HLS := Lib.hid hls
       clear hCS
       go_wp2_with fail
       clear k0 k1 k2 k3 k4 k5 k6 p1 p2
       go_loopg [10, 11] KM (fun z v10 v11 wr => ∃ i : Nat, i ≤ KM ∧ z = KM - i ∧ v11 = .int .i64 (i : Int) ∧ Hid (OwnCp wr wS.heap.size v10 (CS i)) ∧ Hid (Below wS.heap.size wS wr))
       case atStart => exact ⟨0, by omega, rfl, rfl, by rw [HC0.out]; exact OwnCp.nil _ _, Below.refl _ _⟩
       case round =>
        obtain ⟨i, hi, rfl, rfl, HO, HBI⟩ := hrel
        have HI6 := Lib.hid (HBS.out.trans (HBI.out.mono HBS.out.size))
        have HI4 := Lib.hid (HS4.out.trans (HBI.out.mono HS4.out.size))
        obtain ⟨p1, p2⟩ := HGP.out wr HI6.out
        obtain ⟨-, z0, z1, z2, -⟩ := HC.out wr HI4.out
        by_cases hli : i < KM
        ·-- L3{
         have HGD := Lib.hid (good_any zp zo za r (v : Int) (i : Int) (s : Int) wr (HRE.out wr HI4.out) HPLT.out.1 HPLT.out.2 HPLT2.out (by have := HNN.out; unfold I64; omega) (by have := HEXB.out; unfold I64; omega))
         have HLI := Lib.hid hli
         obtain ⟨n0, hn0⟩ : ∃ n, n = (CS i).length := ⟨_, rfl⟩
         obtain ⟨A0, c0, hv0⟩ := own_form HO.out
         rw [← hn0] at hv0
         subst hv0
         clear hn0
         go_wp2_with fail
         refine HGD.out.mono ?_
         rintro e w7 ⟨u, rfl, ho, hb7⟩
         have HO7 := Lib.hid (HO.out.below hb7)
         have HB7 := Lib.hid (HBI.out.trans (hb7.mono HBI.out.size))
         have HX7 := Lib.hid hb7
         obtain ⟨NG, hNG⟩ : ∃ n, n = (goodI r (v : Int) (i : Int) (s : Int)).length := ⟨_, rfl⟩
         obtain ⟨Ag, cg, hu⟩ := ho.form
         rw [← hNG] at hu
         subst hu
         have HIG := Lib.hid (ho.intS (goodM_in r (v : Int) (i : Int) (s : Int) HPLT.out.1))
         have HNG := Lib.hid hNG
         have HGB := Lib.hid (show NG ≤ 1000000 from by rw [hNG]; exact good_len r v i s HPLT.out.1 HPLT.out.2)
         clear ho hb7 hNG p1 p2 z0 z1 z2
         obtain ⟨B1, hB1⟩ : ∃ n, n = wr.heap.size := ⟨_, rfl⟩
         rw [← hB1] at HIG
         have HSB := Lib.hid (show B1 ≤ w7.heap.size from by rw [hB1]; exact HX7.out.size)
         have HN1 := Lib.hid (fun b (e : (Value.slice A0 n0 c0).ownBlock = some b) => (show b < B1 ∨ w7.heap.size ≤ b from .inl (by rw [hB1]; exact (World.ownsRow.lt HO.out b e).2)))
         clear hB1 HX7
         have hgb : NG ≤ 1000000 := HGB.out
         go_wp2_with fail
         go_loopg [10, 13] NG (fun z v10 v13 wr => ∃ j : Nat, j ≤ NG ∧ z = NG - j ∧ v13 = .int .i64 (j : Int) ∧ Hid (OwnCp wr wS.heap.size v10 (CS i ++ ((goodI r (v : Int) (i : Int) (s : Int)).take j).map (fun d => (i, d)))) ∧ Hid (Below wS.heap.size wS wr) ∧ Hid (Kept (Fr B1 w7.heap.size) w7 wr) ∧ Hid (∀ b, v10.ownBlock = some b → b < B1 ∨ w7.heap.size ≤ b) ∧ Hid (w7.heap.size ≤ wr.heap.size))
         case atStart => exact ⟨0, by omega, rfl, rfl, by rw [List.take_zero, List.map_nil, List.append_nil]; exact HO7.out, HB7.out, fun _ _ => rfl, HN1.out, Nat.le_refl _⟩
         case round =>
          clear HO HBI HI6 HI4 HO7 HB7 HN1
          obtain ⟨j, hj, rfl, rfl, HO, HBI, HKG, HN1, HSZ⟩ := hrel
          by_cases hlj : j < NG
          ·-- L4{
           have hjl : j < (goodI r (v : Int) (i : Int) (s : Int)).length := by rw [← HNG.out]; exact hlj
           obtain ⟨b, off, rfl, -, hc, -⟩ := (HIG.out.keep HKG.out).at7 (k := j) hjl
           have htk : (goodI r (v : Int) (i : Int) (s : Int)).take (j + 1) = (goodI r (v : Int) (i : Int) (s : Int)).take j ++ [(goodI r (v : Int) (i : Int) (s : Int))[j]] := List.take_succ_eq_append_getElem hjl
           obtain ⟨d, hd⟩ : ∃ d, d = (goodI r (v : Int) (i : Int) (s : Int))[j] := ⟨_, rfl⟩
           rw [← hd] at hc htk
           obtain ⟨CJ, hCJ⟩ : ∃ l, l = CS i ++ ((goodI r (v : Int) (i : Int) (s : Int)).take j).map (fun d => (i, d)) := ⟨_, rfl⟩
           rw [← hCJ] at HO
           have HTK := Lib.hid (show CS i ++ ((goodI r (v : Int) (i : Int) (s : Int)).take (j + 1)).map (fun d => (i, d)) = CJ ++ [(i, d)] from by rw [htk, hCJ, List.map_append, List.append_assoc]; rfl)
           have hcl : CJ.length + 1 ≤ 16777216 := by
            rw [hCJ, List.length_append, List.length_map, List.length_take]
            have h1 := HCL.out i (by have := HLI.out; have := HKM.out; omega)
            have h2 : i * 1000000 ≤ 4 * 1000000 := Nat.mul_le_mul_right _ (by have := HLI.out; have := HKM.out; omega)
            have h3 := HGB.out
            omega
           obtain ⟨n1, hn1⟩ : ∃ n, n = CJ.length := ⟨_, rfl⟩
           obtain ⟨A1, c1, hv1⟩ := own_form HO.out
           rw [← hn1] at hv1 hcl
           subst hv1
           have HN9 := Lib.hid hn1.symm
           have HCL2 := Lib.hid hcl
           have HOW := Lib.hid (show wr.ownsRow wS.heap.size 69 3 (.slice A1 n1 c1) n1 (CJ.flatMap cpC) from by have h1 := HO.out; unfold OwnCp at h1; rw [← hn1] at h1; exact h1)
           have HLJ := Lib.hid hlj
           clear htk hd hCJ hn1 hcl hjl
           go_wp2_with (at_builtin; refine app_cp i d (.tmp 70) (.tmp 77) rfl rfl wS.heap.size (.slice A1 n1 c1) n1 CJ HN9.out (by rfl) HOW.out (by rfl) HCL2.out HBI.out.size ?_; intro v9 w9 hown9 hg9 hat9; have HO9 := Lib.hid hown9; have HG9 := Lib.hid hg9; have HA9 := Lib.hid hat9; clear hown9 hg9 hat9)
           go_roundg (NG - (j + 1))
           case measure => have := HLJ.out; omega
           case rel =>
            refine ⟨j + 1, by have := HLJ.out; omega, rfl, by go_num, by rw [HTK.out]; exact HO9.out, HBI.out.grown HG9.out HBI.out.size (fun b e => (World.ownsRow.lt HOW.out b e).1), ?_, ?_, ?_⟩
            ·intro b hb
             have hbw : b < wr.heap.size := Nat.lt_of_lt_of_le hb.2 HSZ.out
             refine (HG9.out.block b hbw (fun e => ?_)).trans (HKG.out b hb)
             rcases HN1.out b e.symm with h1 | h1
             ·exact absurd hb.1 (by omega)
             ·exact absurd hb.2 (by omega)
            ·intro b e
             rcases HA9.out with h1 | h1
             ·rw [h1] at e; exact HN1.out b e
             ·rw [h1] at e; injection e with e; exact .inr (by have := HSZ.out; omega)
            ·exact Nat.le_trans HSZ.out HG9.out.size
          ·obtain rfl : NG = j := by omega
           go_wp2_with fail
           go_roundg (KM - (i + 1))
           case measure => have := HLI.out; omega
           case rel =>
            refine ⟨i + 1, by have := HLI.out; omega, rfl, by go_num, ?_, HBI.out⟩
            have h1 := HO.out
            rw [List.take_of_length_le (by rw [← HNG.out]; exact Nat.le_refl _), ← HCN.out i] at h1
            exact h1
        ·-- R3{
         obtain rfl : KM = i := by omega
         have HSL := Lib.hid (SlS.mono cpK (OwnCp.slS HO.out) (fun b hb => hb.2))
         have HMA := Lib.hid (fun v (h : SlS 3 CpK wr (Bl wr.heap.size) v (CS KM)) => margin_any KK v (CS KM) wr (by have := HKM.out; omega) (by have := HKM.out; omega) h (HCF.out KM (by have := HKM.out; omega)))
         rw [HCM.out] at HMA
         obtain ⟨NN, hNN⟩ : ∃ x, x = cntI r v s false (KM : Int) - KK := ⟨_, rfl⟩
         rw [← hNN] at HMA
         have HIN := Lib.hid (HLIN2.out s HLS.out NN hNN)
         clear hNN
         go_wp2_with fail
         refine (HMA.out _ HSL.out).mono ?_
         rintro e w8 ⟨rfl, hb8⟩
         have HB8 := Lib.hid (HBS.out.trans ((HBI.out.trans (hb8.mono HBI.out.size)).mono HBS.out.size))
         have HK8 := Lib.hid (HKEY.out w8 (HB6.out.trans (HB8.out.mono HB6.out.size)))
         clear hb8 p1 p2 z0 z1 z2
         go_wp2_with fail
         go_loopg [16, 17] NL (fun z v16 v17 wr => w8 = wr ∧ ∃ t : Nat, t ≤ NL ∧ z = NL - t ∧ v16 = .bool (decide ((v, s) ∈ KA.take t)) ∧ v17 = .int .i64 (t : Int))
         case atStart => exact ⟨rfl, 0, by omega, rfl, by simp, rfl⟩
         case round =>
          obtain ⟨rfl, t, ht, rfl, rfl, rfl⟩ := hrel
          by_cases hlt : t < NL
          ·-- L5{
           have htl : t < KA.length := by rw [← HNL.out]; exact hlt
           obtain ⟨b, off, cs5, hA5, -, -, hc, hcs⟩ := HK8.out.at_ (k := t) htl
           subst hA5
           obtain ⟨c0, c1⟩ := two_ky hc hcs
           have htk : KA.take (t + 1) = KA.take t ++ [KA[t]] := List.take_succ_eq_append_getElem htl
           obtain ⟨⟨x1, x2⟩, hx⟩ : ∃ x, x = KA[t] := ⟨_, rfl⟩
           rw [← hx] at c0 c1 htk
           simp only at c0 c1
           have HTK := Lib.hid htk
           have HLT5 := Lib.hid hlt
           clear hc hcs htk hx htl
           by_cases hin : (v, s) ∈ KA.take t
           ·have h1 : decide ((v, s) ∈ KA.take t) = true := decide_eq_true hin
            have HIN5 := Lib.hid hin
            rw [h1]
            clear hin h1
            go_wp2_with fail
            go_roundg (NL - (t + 1))
            case measure => have := HLT5.out; omega
            case rel => exact ⟨rfl, t + 1, by have := HLT5.out; omega, rfl, by rw [HTK.out, decide_eq_true (List.mem_append_left _ HIN5.out)], by go_num⟩
           ·have h1 : decide ((v, s) ∈ KA.take t) = false := decide_eq_false hin
            rw [h1]
            have HIN5 := Lib.hid hin
            have hmem : decide ((v, s) ∈ KA.take t ++ [(x1, x2)]) = (decide (x1 = v) && decide (x2 = s)) := by
             rw [Bool.eq_iff_iff]
             simp [hin]
             constructor <;> (rintro ⟨a, b⟩; exact ⟨a.symm, b.symm⟩)
            have HMEM := Lib.hid hmem
            clear hin h1 hmem
            by_cases hq1 : x1 = v
            ·subst hq1
             by_cases hq2 : x2 = s
             ·subst hq2
              go_wp2_with fail
              go_roundg (NL - (t + 1))
              case measure => have := HLT5.out; omega
              case rel => exact ⟨rfl, t + 1, by have := HLT5.out; omega, rfl, by rw [HTK.out, HMEM.out]; simp, by go_num⟩
             ·have hb : ((x2 : Int) == (s : Int)) = false := by rw [beq_eq_false_iff_ne]; omega
              have HQ2 := Lib.hid (show decide (x2 = s) = false from decide_eq_false hq2)
              go_wp2_with fail
              go_roundg (NL - (t + 1))
              case measure => have := HLT5.out; omega
              case rel => exact ⟨rfl, t + 1, by have := HLT5.out; omega, rfl, by rw [HTK.out, HMEM.out, HQ2.out]; simp, by go_num⟩
            ·have hb : ((x1 : Int) == (v : Int)) = false := by rw [beq_eq_false_iff_ne]; omega
             have HQ1 := Lib.hid (show decide (x1 = v) = false from decide_eq_false hq1)
             go_wp2_with fail
             go_roundg (NL - (t + 1))
             case measure => have := HLT5.out; omega
             case rel => exact ⟨rfl, t + 1, by have := HLT5.out; omega, rfl, by rw [HTK.out, HMEM.out, HQ1.out]; simp, by go_num⟩
          ·obtain rfl : NL = t := by omega
           have hin : decide ((v, s) ∈ KA.take NL) = decide (NN < 0) := by rw [HNL.out, List.take_length]; exact HIN.out
           rw [hin]
           clear hin
           by_cases hneg : NN < 0
           ·have h1 : decide (NN < 0) = true := decide_eq_true hneg
            rw [h1]
            go_wp2_with fail
            go_roundg (EX - (s + 1))
            case measure => have := HLS.out; omega
            case rel => exact ⟨s + 1, by have := HLS.out; omega, rfl, by go_num, HB8.out⟩
           ·have h1 : decide (NN < 0) = false := decide_eq_false hneg
            rw [h1]
            go_wp2_with fail
            go_roundg (EX - (s + 1))
            case measure => have := HLS.out; omega
            case rel => exact ⟨s + 1, by have := HLS.out; omega, rfl, by go_num, HB8.out⟩
      ·-- R2{
       obtain rfl : EX = s := by omega
       go_wp2_with fail
       go_roundg (NO - (v + 1))
       case measure => have := HLTV.out; omega
       case rel => exact ⟨v + 1, by have := HLTV.out; omega, rfl, by go_num, HS5.out⟩
    exact AllReadyT.nil
   exact AllReadyT.nil
  ·-- R1{
   obtain rfl : NO = v := by omega
   clear k0 k1 k2 k3 k4 k5
   go_wp2_with fail
   refine (HAW.out _).mono ?_
   rintro e w9 ⟨rfl, hb9⟩
   have HB9 := Lib.hid (HBF.out.trans ((HBR.out.trans (hb9.mono HBR.out.size)).mono HBF.out.size))
   clear hb9 k6
   go_wp2_with fail
   go_ret
   exact ⟨rfl, HB9.out⟩
end Go.Proofs.YtmehadfhcdpfcaaGreat

namespace Go.Proofs.YtmehadfhcdpfcaaGreat
open Go.RowKit Go.ChangeShapes Go.WideShapes Go.ChangeAt Go.Deep Go.Joins
set_option linter.unusedVariables false
set_option linter.unusedSimpArgs false
theorem wf_i64 {x : Int} (h : (Lit.int .i64 x).wf = true) : I64 x := by
 simpa [Lit.wf, IntKind.min, IntKind.max, IntKind.signed, IntKind.bits, I64] using h
section
variable {H : Type} {enc : TypeId × Value → H} {P : Program} {W : World}
theorem open_intS {t e : TypeId} {spare : Nat → Bool} {held : Bool} {base fuel : Nat} {v : Value} {x : DataW H × List MemPlace} (ht : P.underlying t = some (.slice e)) (he : P.underlying e = some (.int .i64)) (hc : P.cellsOf e = 1)
  (h : DataW.trod enc P W base spare held fuel t [v] = some x) : ∃ xs, IntS W (Bl W.heap.size) v xs := by
 rcases open_ints ht he hc h with ⟨hcs, _⟩ | ⟨a, len, cap, zs, hcs, _, hl, hm, hz, _, hcell, hwz⟩
 ·simp at hcs; subst hcs
  exact ⟨[], IntS.nil _ _ _⟩
 ·simp at hcs; subst hcs
  have hzl : len ≤ zs.length := by rw [hz]; split <;> omega
  have hxl : (zs.take len).length = len := by rw [List.length_take]; omega
  refine ⟨zs.take len, ⟨some a, cap, by rw [hxl], by rw [hxl]; exact hl, by rw [hxl]; omega, fun hn => ?_⟩, fun y hy => wf_i64 (hwz y (List.mem_of_mem_take hy))⟩
  rw [hxl] at hn
  obtain ⟨b, off, spot⟩ := a
  have g0 := hcell 0 (by omega)
  have hspot : spot = none := by simpa [Addr.add] using World.cell?_spot g0
  subst hspot
  have hb := block_lt_of_cell g0
  refine ⟨b, off, rfl, by simpa [Addr.add, Bl] using hb, fun k y hk => ?_⟩
  have hkl : k < (zs.take len).length := (List.getElem?_eq_some_iff.1 hk).1
  rw [hxl] at hkl
  have g := hcell k (by omega)
  have e1 : (⟨b, off, none⟩ : Addr).add k = ⟨b, off + k, none⟩ := by unfold Addr.add; split <;> simp_all
  rw [e1] at g
  rw [g]
  rw [List.getElem?_take_of_lt hkl] at hk
  rw [List.getD, hk]; rfl
end
end Go.Proofs.YtmehadfhcdpfcaaGreat

namespace Go.Proofs.YtmehadfhcdpfcaaGreat
open Go.RowKit Go.ChangeShapes Go.WideShapes Go.ChangeAt Go.Deep Go.Joins
set_option linter.unusedVariables false
set_option linter.unusedSimpArgs false
section
variable {H : Type} {enc : TypeId × Value → H} {P : Program} {W : World}
end
end Go.Proofs.YtmehadfhcdpfcaaGreat

namespace Go.Proofs.YtmehadfhcdpfcaaGreat.lawMargins
open Go.ChangeShapes Go.WideShapes Go.ChangeAt Go.RowKit
set_option linter.unusedVariables false
theorem own : ownKnob Tryz.prog.godebug = none := by kernel_rfl
theorem laidOut : laidOutB Tryz.prog = true := by kernel_rfl
set_option maxRecDepth 100000 in
theorem lifted (os : Os) (started : os.Started) (H : Type) (enc : TypeId × Value → H) :
  ReturnsInHanded {} Tryz.checked os 5 .any (Rows.truthMarginsSpec.pre6 enc Tryz.prog Tryz.f5 Rows.truthMarginsRow.domain false) (Rows.truthMarginsSpec.post enc Tryz.prog Tryz.f5 false true false false) := by
 refine returnsInHanded_of_change (C := Tryz.checked) own started (by kernel_rfl) Tryz.func5
  (ChangeSpec.witness6 (enc := enc) (C := Tryz.checked) false ⟨#[], #[.slice none 0 0], []⟩ 8 (by kernel_rfl) (by kernel_rfl) (by kernel_rfl) (by kernel_rfl)) ?_
 intro W base args ds gs before hval0 hW hcnd _
 have hval : ∀ (j : Nat) t v, Tryz.f5.params[j]? = some t → args[j]? = some v → Value.okWide Tryz.prog W .any base t v := hval0
 have hW' := hW
 obtain ⟨p, q, hA0, hV, rfl, hfz, hnd⟩ := hW
 have hA : DataW.TrodAll enc Tryz.prog W 0 (fun _ => true) true Tryz.f5.params.toList args.toList ds p := hA0
 rw [Tryz.params5] at hA hval
 obtain ⟨v0, vs0, d0, ds0, p0, q0, hargs, rfl, rfl, h0, r0⟩ := trodAll_cons hA
 obtain ⟨rfl, rfl, rfl⟩ := trodAll_nil r0
 obtain rfl : args = #[v0] := by cases args; simp_all
 obtain ⟨rfl, rfl⟩ := trodVars_none hV
 have k0 := h0
 have lt0 : ∀ x ∈ p0, x.block < W.heap.size := by obtain ⟨m, hm⟩ := k0; exact DataW.trod_lt m _ _ _ hm
 obtain ⟨a0, len0, cap0, rfl⟩ := okWide_slice Tryz.underlying22 (hval 0 22 v0 rfl rfl)
 obtain ⟨xs, h_xs⟩ : ∃ xs, IntS W (Bl W.heap.size) (.slice a0 len0 cap0) xs := by
  obtain ⟨fuel, hf⟩ := h0
  exact open_intS Tryz.underlying22 Tryz.underlying3 (by kernel_rfl) hf
 clear hA0 hval0
 refine (margins_any made_any _ xs W h_xs).mono fun e W' ⟨he, bel⟩ => ?_
 subst he
 exact ⟨_, rfl, _, _, _, [], _, [], hW', trodAll_mk1 (shut_bool Tryz.underlying4 _), (trodAll_cons_mk (Below.trod laidOut (by kernel_rfl) (of_decide_eq_true (by kernel_rfl)) k0 bel lt0) trodAll_mk0), rfl, bel.frame _, fun h => by cases h⟩
theorem over : Rows.truthMarginsRow.holds Tryz.pinned (OpenSpec.ofChange Rows.truthMarginsSpec) :=
 OpenClaim.holds_of_wide 5 Tryz.f5 rfl rfl rfl rfl rfl rfl rfl ⟨rfl, rfl, rfl, rfl, rfl⟩ rfl rfl rfl rfl rfl (by kernel_rfl) Tryz.func5 (by kernel_rfl)
  (of_decide_eq_true (by kernel_rfl)) (by unfold Func.isWrapper; first | (rw [if_pos (by decide +kernel)]; kernel_rfl) | (rw [if_neg (by decide +kernel)]; exact ⟨rfl, rfl⟩))
  (fun os started H enc _ => lifted os started H enc)
theorem proved : Rows.TruthMarginsSaid := over
#print axioms proved
end Go.Proofs.YtmehadfhcdpfcaaGreat.lawMargins
