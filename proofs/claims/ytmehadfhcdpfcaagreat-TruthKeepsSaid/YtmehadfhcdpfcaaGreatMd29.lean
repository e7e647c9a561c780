/- PROVED: For every input TruthKeeps returns true: Contents returns the data that were encoded, unless the stripe is lost (or unavailable). No condition. -/
import Derived.Test.YtmehadfhcdpfcaaGreatMd28
import Derived.Deep.QuietTactic
import Derived.BigQuiet
import Derived.Test.YtmehadfhcdpfcaaGreatMd01
import Derived.ProofKit
import Derived.OpenShut
import Derived.Lib.SmallJoins
import Derived.Deep.Slices
import Derived.Deep.Fields
import Derived.ChangeSame
import Derived.Test.YtmehadfhcdpfcaaGreatMd11
namespace Go.Proofs.YtmehadfhcdpfcaaGreat
open Go.RowKit
set_option linter.unusedVariables false
set_option linter.unusedSimpArgs false
def HeldK (W0 : World) (g p : Nat) (a b c d e f h y0 y1 y2 : Value) (w' : World) : Prop :=
 w'.cell? ⟨g, 0, none⟩ = some a ∧ w'.cell? ⟨g, 1, none⟩ = some b ∧ w'.cell? ⟨g, 2, none⟩ = some c ∧ w'.cell? ⟨g, 3, none⟩ = some d ∧ w'.cell? ⟨g, 4, none⟩ = some e ∧ w'.cell? ⟨g, 5, none⟩ = some f ∧ w'.cell? ⟨g, 6, none⟩ = some h ∧
 w'.cell? ⟨p, 0, none⟩ = some y0 ∧ w'.cell? ⟨p, 1, none⟩ = some y1 ∧ w'.cell? ⟨p, 2, none⟩ = some y2 ∧ Below W0.heap.size W0 w'
theorem HeldK.bl {W0 wc : World} {g p : Nat} {a b c d e f h y0 y1 y2 : Value} (k : HeldK W0 g p a b c d e f h y0 y1 y2 wc) : Below W0.heap.size W0 wc := k.2.2.2.2.2.2.2.2.2.2
theorem HeldK.below {W0 wc w2 : World} {g p : Nat} {a b c d e f h y0 y1 y2 : Value} (k : HeldK W0 g p a b c d e f h y0 y1 y2 wc) (hb : Below wc.heap.size wc w2) (hg : g < W0.heap.size) (hp : p < W0.heap.size) : HeldK W0 g p a b c d e f h y0 y1 y2 w2 := by
 have hs := k.bl.size
 have hB := k.bl
 obtain ⟨c0, c1, c2, c3, c4, c5, c6, d0, d1, d2, -⟩ := k
 have m : ∀ b, b < W0.heap.size → ∀ i x, wc.cell? ⟨b, i, none⟩ = some x → w2.cell? ⟨b, i, none⟩ = some x := fun b h1 i x hx => (hb.cell (p := ⟨b, i, none⟩) (Nat.lt_of_lt_of_le h1 hs)).trans hx
 exact ⟨m g hg _ _ c0, m g hg _ _ c1, m g hg _ _ c2, m g hg _ _ c3, m g hg _ _ c4, m g hg _ _ c5, m g hg _ _ c6, m p hp _ _ d0, m p hp _ _ d1, m p hp _ _ d2, hB.trans (hb.mono hs)⟩
def KeepC (F : FltM) (r : Re) (KA KB : List (Nat × Nat)) (f : Int → Int → Option Value) (v s : Nat) : Prop :=
  ∃ (KN KM : Nat) (TX : ByteArray), kOf F v = (KN : Int) ∧ kOf F v + mOf F v = (KM : Int) ∧ f (v : Int) (s : Int) = some (.string TX) ∧
    ((decide ((v, s) ∈ KA) = true ∧ decide ((v, s) ∈ KB) = false ∧ conE r v s false KN KM = 121 ∧ conE r v s true KN KM = 121) ∨
     (decide ((v, s) ∈ KA) = false ∧ decide ((v, s) ∈ KB) = true ∧ conE r v s false KN KM = 0 ∧ (⟨(conS r v s false KN KM).toArray⟩ : ByteArray) = TX ∧ conE r v s true KN KM = 121) ∨
     (decide ((v, s) ∈ KA) = false ∧ decide ((v, s) ∈ KB) = false ∧ conE r v s false KN KM = 0 ∧ (⟨(conS r v s false KN KM).toArray⟩ : ByteArray) = TX ∧ conE r v s true KN KM = 0 ∧ (⟨(conS r v s true KN KM).toArray⟩ : ByteArray) = TX))
theorem keep_case {F : FltM} {r : Re} {st : List Stp} {f : Int → Int → Option Value} (hok : FleetOk 2 F) (hmo : MadeOk F r st) (hdo : DataOk st f) {EX : Nat} (hEX : F.ext = (EX : Int)) {v s : Nat} (hv : v < F.vols.length) (hs : s < EX) :
  KeepC F r (keyL F r (condR true) EX F.vols.length 0) (keyL F r (condR false) EX F.vols.length 0) f v s := by
 have hse : s < F.ext.toNat := by omega
 obtain ⟨x, hx, rfl, rfl⟩ := stp_in hmo hv hse
 have hst := hmo.ok x hx
 obtain ⟨vv, pp, h1, h2, h3, h4⟩ := hst.pol
 have hvp : volP F x.vol = vv.pol.toNat := by unfold volP; rw [h1]
 have hk : kOf F x.vol = (x.k : Int) := by unfold kOf; rw [hvp, h2]; exact h3.symm
 have hm : mOf F x.vol = (x.m : Int) := by unfold mOf; rw [hvp, h2]; exact h4.symm
 have hver := ver_made hmo hv hse
 have hcF := out_cnt r x.vol x.stripe false ((x.k + x.m : Nat) : Int)
 have hcT := out_cnt r x.vol x.stripe true ((x.k + x.m : Nat) : Int)
 have hle := outTo_up r (stripeP (pieces r) (x.vol : Int) (x.stripe : Int)) ((x.k + x.m : Nat) : Int) 8
 have hA : decide ((x.vol, x.stripe) ∈ keyL F r (condR true) EX F.vols.length 0) = decide ((frT r x.vol x.stripe false (x.k + x.m)).length < x.k) := by
  rw [Bool.eq_iff_iff, decide_eq_true_iff, decide_eq_true_iff, key_in F r (condR true) EX F.vols.length _ _ hv hs]
  unfold keyP
  simp only
  rw [hver, Bool.true_and, hk, hm, ← Int.natCast_add, ← hcF]
  show decide (_ < _) = true ↔ _
  rw [decide_eq_true_iff]
  show (((frT r x.vol x.stripe false (x.k + x.m)).length : Int) < _) ↔ _
  omega
 have hB : decide ((x.vol, x.stripe) ∈ keyL F r (condR false) EX F.vols.length 0) = (!decide ((frT r x.vol x.stripe false (x.k + x.m)).length < x.k) && decide ((frT r x.vol x.stripe true (x.k + x.m)).length < x.k)) := by
  rw [Bool.eq_iff_iff, decide_eq_true_iff, key_in F r (condR false) EX F.vols.length _ _ hv hs]
  unfold keyP
  simp only
  rw [hver, Bool.true_and, hk, hm, ← Int.natCast_add, ← hcF, ← hcT]
  show (!decide ((((frT r x.vol x.stripe false (x.k + x.m)).length : Nat) : Int) < _) && decide ((((frT r x.vol x.stripe true (x.k + x.m)).length : Nat) : Int) < _)) = true ↔ _
  simp
 obtain ⟨f1, f2⟩ := keeps_plain hok hmo hx false
 obtain ⟨t1, t2⟩ := keeps_plain hok hmo hx true
 refine ⟨x.k, x.k + x.m, ⟨(x.rows.flatten).toArray⟩, hk, by rw [hk, hm]; omega, hdo x hx, ?_⟩
 rw [hA, hB]
 have hle2 : (frT r x.vol x.stripe true (x.k + x.m)).length ≤ (frT r x.vol x.stripe false (x.k + x.m)).length := hle
 by_cases c1 : (frT r x.vol x.stripe false (x.k + x.m)).length < x.k
 ·have c2 : (frT r x.vol x.stripe true (x.k + x.m)).length < x.k := by omega
  exact .inl ⟨by simp [c1], by simp [c1], f2 c1, t2 c2⟩
 ·obtain ⟨g1, g2⟩ := f1 (by omega)
  by_cases c2 : (frT r x.vol x.stripe true (x.k + x.m)).length < x.k
  ·exact .inr (.inl ⟨by simp [c1], by simp [c1, c2], g1, by rw [g2], t2 c2⟩)
  ·obtain ⟨g3, g4⟩ := t1 (by omega)
   exact .inr (.inr ⟨by simp [c1], by simp [c1, c2], g1, by rw [g2], g3, by rw [g4]⟩)
set_option maxRecDepth 100000 in
set_option maxHeartbeats 6400000 in
theorem tkeeps_any (HMade : ∀ (vt : Value) (xs : List Int) (w : World) (R : Nat → Prop), IntS w R vt xs → (∀ b, R b → b < w.heap.size) → Calls Tryz.prog 11 #[vt] w (MadePost w)) (vl : Value) (xs : List Int) (w : World) (hl : IntS w (Bl w.heap.size) vl xs) :
  Calls Tryz.prog 8 #[vl] w fun e w' => e = .returned (.bool true) ∧ Below w.heap.size w w' := by
 have HAW := Lib.hid (fun w1 => awake_any w1)
 have HMD := Lib.hid (HMade vl xs w _ hl (fun b h => h))
 obtain ⟨Al, nl, cl, rfl⟩ := hl.form3
 clear hl HMade
 go_enter Tryz.func8, Tryz.ntmps8
 go_wp2_with fail
 refine HMD.out.mono ?_
 rintro e w2 ⟨fl, fm, fd, fv, fp, fo, F, zp, zo, za, r, gM, n, f, st, rfl, hfs, hok, hre, hmo, hmp, hdo, hgM, hb2⟩
 obtain ⟨pb, pof, ob, oof, cp, co, hfp, hfo, hRp, hRo, hPA⟩ := polAt (hfs.mono Fr.bl) hok
 obtain ⟨A1, c1, hf1, -⟩ := SlS.form hfs.1
 obtain ⟨A2, c2, hf2, -⟩ := SlS.form hfs.2.1
 obtain ⟨A3, c3, hf3, -⟩ := SlS.form hfs.2.2.1
 obtain ⟨A4, c4, hf4, -⟩ := SlS.form hfs.2.2.2.1
 obtain ⟨B1', d1, hz1, -⟩ := SlS.form hre.1
 obtain ⟨B2', d2, hz2, -⟩ := SlS.form hre.2.1
 obtain ⟨B3', d3, hz3, -⟩ := SlS.form hre.2.2
 obtain ⟨n1, hn1⟩ : ∃ n, n = F.laws.length := ⟨_, rfl⟩
 obtain ⟨n2, hn2⟩ : ∃ n, n = F.models.length := ⟨_, rfl⟩
 obtain ⟨n3, hn3⟩ : ∃ n, n = F.doms.length := ⟨_, rfl⟩
 obtain ⟨n4, hn4⟩ : ∃ n, n = F.dves.length := ⟨_, rfl⟩
 obtain ⟨NP, hNP⟩ : ∃ n, n = F.pols.length := ⟨_, rfl⟩
 obtain ⟨NO, hNO⟩ : ∃ n, n = F.vols.length := ⟨_, rfl⟩
 obtain ⟨m1, hm1⟩ : ∃ n, n = r.plat.length := ⟨_, rfl⟩
 obtain ⟨m2, hm2⟩ : ∃ n, n = r.on.length := ⟨_, rfl⟩
 obtain ⟨m3, hm3⟩ : ∃ n, n = r.acks.length := ⟨_, rfl⟩
 rw [← hn1] at hf1
 rw [← hn2] at hf2
 rw [← hn3] at hf3
 rw [← hn4] at hf4
 rw [← hNP] at hfp
 rw [← hNO] at hfo
 rw [← hm1] at hz1
 rw [← hm2] at hz2
 rw [← hm3] at hz3
 obtain ⟨EX, hEX, hEX1, hEX2⟩ : ∃ n : Nat, F.ext = (n : Int) ∧ 1 ≤ n ∧ n ≤ 2 := by rcases hok.ext with e | e <;> rw [e] <;> first | exact ⟨1, rfl, by omega, by omega⟩ | exact ⟨2, rfl, by omega, by omega⟩
 have hak : r.acks.length ≤ 1000000 := by
  have h1 := congrArg List.length hmo.keys
  rw [List.length_map] at h1
  have h2 := keysTo_le F.ext.toNat F.vols.length 0 (by have := hok.ext; omega) hok.volN (by omega)
  rw [hmo.acks, List.length_map]; omega
 have hno : NO ≤ 2 := by rw [hNO]; exact hok.volN
 have hnp : NP ≤ 2 := by rw [hNP]; exact hok.polN
 have HNN := Lib.hid (show NO = F.vols.length ∧ NP = F.pols.length ∧ NO ≤ 2 ∧ NP ≤ 2 from ⟨hNO, hNP, hno, hnp⟩)
 have HEXB := Lib.hid (And.intro hEX1 hEX2)
 have HKQ := Lib.hid (fun v (hv : v < NO) => kmq_ok hok (show v < F.vols.length from by rw [← hNO]; exact hv))
 have HPLT := Lib.hid (show r.plat.length ≤ 1000 ∧ ∀ l ∈ r.plat, l.length ≤ 1000 from ⟨by rw [hmo.plat]; have := hok.dveN; omega, hmo.len⟩)
 have HPLT2 := Lib.hid hak
 have HVER := Lib.hid (fun v s (hv : v < NO) (hs : s < EX) => ver_made hmo (v := v) (s := s) (by rw [← hNO]; exact hv) (by rw [hEX]; exact hs))
 obtain ⟨KA, hKA⟩ : ∃ l, l = keyL F r (condR true) EX NO 0 := ⟨_, rfl⟩
 have HKL := Lib.hid (show KA.length ≤ 100 from by
  have h1 := keyL_len F r (condR true) EX NO 0
  rw [hKA]
  have h2 : NO * EX ≤ 2 * 2 := Nat.mul_le_mul hno hEX2
  omega)
 have HLO := Lib.hid (fun W (hb : Below w2.heap.size w2 W) => (show Calls Tryz.prog 13 #[.agg #[.int .i64 (EX : Int), fl, fm, fd, fv, fp, fo], .agg #[zp, zo, za]] W (fun e w' => ∃ u, e = .returned u ∧ OwnKy w' W.heap.size u KA ∧ Below W.heap.size W w') from by
  have h := lost_any 2 (by omega) fl fm fd fv fp fo zp zo za F r W ((hfs.mono Fr.bl).below hb) hok ((hre.mono Fr.bl).below hb) HPLT.out.1 HPLT.out.2 hak
  rw [hEX, ← hNO, show ((EX : Int)).toNat = EX from by omega] at h
  rw [hKA]; exact h))
 obtain ⟨KB, hKB⟩ : ∃ l, l = keyL F r (condR false) EX NO 0 := ⟨_, rfl⟩
 have HKL2 := Lib.hid (show KB.length ≤ 100 from by
  have h1 := keyL_len F r (condR false) EX NO 0
  rw [hKB]
  have h2 : NO * EX ≤ 2 * 2 := Nat.mul_le_mul hno hEX2
  omega)
 have HUN := Lib.hid (fun W (hb : Below w2.heap.size w2 W) => (show Calls Tryz.prog 15 #[.agg #[.int .i64 (EX : Int), fl, fm, fd, fv, fp, fo], .agg #[zp, zo, za]] W (fun e w' => ∃ u, e = .returned u ∧ OwnKy w' W.heap.size u KB ∧ Below W.heap.size W w') from by
  have h := unav_any 2 (by omega) fl fm fd fv fp fo zp zo za F r W ((hfs.mono Fr.bl).below hb) hok ((hre.mono Fr.bl).below hb) HPLT.out.1 HPLT.out.2 hak
  rw [hEX, ← hNO, show ((EX : Int)).toNat = EX from by omega] at h
  rw [hKB]; exact h))
 have HCO := Lib.hid (fun W (hb : Below w2.heap.size w2 W) (v s KN KM : Nat) (up : Bool) (hv : v < NO) (hs : s < EX) (hKN : kOf F v = (KN : Int)) (hKM : kOf F v + mOf F v = (KM : Int)) => (show Calls Tryz.prog 25 #[.agg #[.int .i64 (EX : Int), fl, fm, fd, fv, fp, fo], .agg #[zp, zo, za], .int .i64 (v : Int), .int .i64 (s : Int), .bool up] W (fun e w' => e = .returned (.tuple #[.string ⟨(conS r v s up KN KM).toArray⟩, .int .i64 (conE r v s up KN KM)]) ∧ Below W.heap.size W w') from by
  have h := contents_any 2 (by omega) fl fm fd fv fp fo zp zo za F r v s EX KN KM up W ((hfs.mono Fr.bl).below hb) hok ((hre.mono Fr.bl).below hb) HPLT.out.1 HPLT.out.2 hak (by rw [← hNO]; exact hv) hEX hs hKN hKM
  rw [hEX] at h
  exact h))
 have HKEEP := Lib.hid (fun v s (hv : v < NO) (hs : s < EX) => (show KeepC F r KA KB f v s from by
  have h := keep_case hok hmo hdo (EX := EX) hEX (v := v) (s := s) (by rw [← hNO]; exact hv) hs
  rw [← hNO] at h
  rw [hKA, hKB]; exact h))
 have HLK := Lib.hid (fun (W : World) (hb : Below w2.heap.size w2 W) (v s : Nat) (TX : ByteArray) (hv : v < NO) (hs : s < EX) (e : f (v : Int) (s : Int) = some (.string TX)) => (show (Instr.lookup 38 (.map (some gM)) (.agg #[.int .i64 (v : Int), .int .i64 (s : Int)]) false).run Tryz.prog W = .ok (.string TX) W from by
  have h := MapKV.look (t := 38) (e := 9) (z := .string ⟨#[]⟩) (w := W) skey_two (hmp.same (hb.block gM hmp.lt)) Tryz.underlying38 (by rfl) (x := (v : Int)) (y := (s : Int)) (by unfold I64; omega) (by unfold I64; omega)
  rw [e] at h
  exact h))
 have HREA := Lib.hid (fun (w' : World) (hb : Below w2.heap.size w2 w') => (hre.mono Fr.bl).below hb)
 have HPA := Lib.hid hPA
 have HBB := Lib.hid (show pb < w2.heap.size ∧ ob < w2.heap.size from ⟨hRp, hRo⟩)
 have HB2 := Lib.hid hb2
 rw [hEX, hf1, hf2, hf3, hf4, hfp, hfo, hz1, hz2, hz3]
 have HEF := Lib.hid (And.intro hf1 (And.intro hf2 (And.intro hf3 (And.intro hf4 (And.intro hfp hfo)))))
 have HEZ := Lib.hid (And.intro hz1 (And.intro hz2 hz3))
 clear hfs hok hre hmo hmp hdo hgM hb2 hEX hak hn1 hn2 hn3 hn4 hNO hNP hm1 hm2 hm3 hPA hRp hRo hf1 hf2 hf3 hf4 hfp hfo hz1 hz2 hz3 hnp hEX1 hKA hKB
 go_upto_region 2 with fail
 obtain ⟨g, hg⟩ : ∃ g, g = w2.heap.size := ⟨_, rfl⟩
 obtain ⟨p, hp⟩ : ∃ p, p = w2.heap.size + 1 := ⟨_, rfl⟩
 obtain ⟨W4, hW4⟩ : ∃ x, x = ((w2.alloc (.cells #[.int .i64 (EX : Int), .slice A1 n1 c1, .slice A2 n2 c2, .slice A3 n3 c3, .slice A4 n4 c4, .slice (some ⟨pb, pof, none⟩) NP cp, .slice (some ⟨ob, oof, none⟩) NO co] 37)).alloc (.cells #[.slice B1' m1 d1, .slice B2' m2 d2, .slice B3' m3 d3] 27)) := ⟨_, rfl⟩
 rw [← hW4, ← hp, ← hg]
 have hb4 : Below w2.heap.size w2 W4 := by rw [hW4]; exact ((Below.refl _ _).alloc (Nat.le_refl _) _).alloc (by simp) _
 have hbR : W4.heap[p]? = some (.cells #[.slice B1' m1 d1, .slice B2' m2 d2, .slice B3' m3 d3] 27 (0, 0)) := by
  rw [hW4]; exact heap_alloc_at _ _ _ (by rw [hp]; simp)
 have hbF : W4.heap[g]? = some (.cells #[.int .i64 (EX : Int), .slice A1 n1 c1, .slice A2 n2 c2, .slice A3 n3 c3, .slice A4 n4 c4, .slice (some ⟨pb, pof, none⟩) NP cp, .slice (some ⟨ob, oof, none⟩) NO co] 37 (0, 0)) := by
  rw [hW4, hg]; exact (Below.heap_alloc _ _ _ (by simp)).trans (heap_alloc_new w2 _)
 rw [← HEZ.out.1, ← HEZ.out.2.1, ← HEZ.out.2.2] at hbR ⊢
 rw [← HEF.out.1, ← HEF.out.2.1, ← HEF.out.2.2.1, ← HEF.out.2.2.2.1] at hbF ⊢
 rw [HEF.out.2.2.2.2.1, HEF.out.2.2.2.2.2] at HLO HUN HCO
 have hgl : g < W4.heap.size := (Array.getElem?_eq_some_iff.1 hbF).1
 have hpl : p < W4.heap.size := (Array.getElem?_eq_some_iff.1 hbR).1
 have HC4 := Lib.hid (fun (w' : World) (hb : Below W4.heap.size W4 w') => And.intro (cells7 ((hb.block g hgl).trans hbF)) (cells3 ((hb.block p hpl).trans hbR)))
 have HB4 := Lib.hid hb4
 have HGP := Lib.hid (And.intro hgl hpl)
 clear hW4 hg hp hb4 hbR hbF hgl hpl HEF HEZ
 refine region_tail (S := (fun w' => w'.cell? ⟨g, 0, none⟩ = some (.int .i64 (EX : Int)) ∧ w'.cell? ⟨g, 1, none⟩ = some fl ∧ w'.cell? ⟨g, 2, none⟩ = some fm ∧ w'.cell? ⟨g, 3, none⟩ = some fd ∧ w'.cell? ⟨g, 4, none⟩ = some fv ∧ w'.cell? ⟨g, 5, none⟩ = some (.slice (some ⟨pb, pof, none⟩) NP cp) ∧ w'.cell? ⟨g, 6, none⟩ = some (.slice (some ⟨ob, oof, none⟩) NO co) ∧ w'.cell? ⟨p, 0, none⟩ = some zp ∧ w'.cell? ⟨p, 1, none⟩ = some zo ∧ w'.cell? ⟨p, 2, none⟩ = some za ∧ Below W4.heap.size W4 w')) [] (by kernel_rfl) (by obtain ⟨⟨k0, k1, k2, k3, k4, k5, k6⟩, z0, z1, z2, -⟩ := HC4.out W4 (Below.refl _ _); exact ⟨k0, k1, k2, k3, k4, k5, k6, z0, z1, z2, (Below.refl _ _).drew⟩) (fun hHeld => ?_)
 refine tk 0 25 ?_
 refine tk 1 26 ?_
 refine tk 3 28 ?_
 refine tk 4 29 ?_
 refine readyT (rs := [2]) (by kernel_rfl) (by simp) ?_
 refine AllReadyT.cons rfl (fun K hK => ?_) ?_
 ·go_simp
  (go_at_call 13; refine (HLO.out _ (HB4.out.trans ((HeldK.bl (by assumption)).mono HB4.out.size))).mono ?_; rintro e w12 ⟨u2, rfl, hO2, hb12⟩)
  go_wp2_with fail
  refine hK.out _ _ ?_ (fun hHeld => ?_)
  ·(first | exact HeldK.below (by assumption) hb15 HGP.out.1 HGP.out.2 | exact HeldK.below (by assumption) hb12 HGP.out.1 HGP.out.2)
  clear hK K
  (try simp only [Act.put, List.setIfInBounds_toArray, List.set_cons_zero, List.set_cons_succ])
  refine readyT (rs := [5]) (by kernel_rfl) (by simp) ?_
  refine AllReadyT.cons rfl (fun K hK => ?_) ?_
  ·go_simp
   (go_at_call 15; refine (HUN.out _ (HB4.out.trans ((HeldK.bl (by assumption)).mono HB4.out.size))).mono ?_; rintro e w15 ⟨u5, rfl, hO5, hb15⟩)
   go_wp2_with fail
   refine hK.out _ _ ?_ (fun hHeld => ?_)
   ·(first | exact HeldK.below (by assumption) hb15 HGP.out.1 HGP.out.2 | exact HeldK.below (by assumption) hb12 HGP.out.1 HGP.out.2)
   clear hK K
   (try simp only [Act.put, List.setIfInBounds_toArray, List.set_cons_zero, List.set_cons_succ])
   refine tk 6 6 ?_
   refine tk 7 7 ?_
   refine doneT (by kernel_rfl) ?_ _
   have hb5 : Below W4.heap.size W4 w15 := HeldK.bl hHeld
   have HC := Lib.hid (fun (w' : World) (hb : Below w15.heap.size w15 w') => HC4.out w' (hb5.trans (hb.mono hb5.size)))
   have HB45 := Lib.hid (HB4.out.trans (hb5.mono HB4.out.size))
   have HB25 := Lib.hid HB45.out
   obtain ⟨NA, hNA⟩ : ∃ n, n = KA.length := ⟨_, rfl⟩
   obtain ⟨NB, hNB⟩ : ∃ n, n = KB.length := ⟨_, rfl⟩
   obtain ⟨Aa, ca, hua⟩ := hO2.form
   obtain ⟨Ab, cb, hub⟩ := hO5.form
   rw [← hNA] at hua
   rw [← hNB] at hub
   subst hua
   subst hub
   have HNA := Lib.hid hNA
   have HNB := Lib.hid hNB
   have HKEYA := Lib.hid (fun (w' : World) (hb : Below w15.heap.size w15 w') => SlS.below kyK (SlS.mono kyK (hO2.below hb15).slS (fun b hb => hb.2)) hb)
   have HKEYB := Lib.hid (fun (w' : World) (hb : Below w15.heap.size w15 w') => SlS.below kyK (SlS.mono kyK hO5.slS (fun b hb => hb.2)) hb)
   have HXA := Lib.hid (show NA ≤ 100 ∧ NB ≤ 100 from ⟨by rw [hNA]; exact HKL.out, by rw [hNB]; exact HKL2.out⟩)
   have HBF := Lib.hid (HB2.out.trans (HB45.out.mono HB2.out.size))
   clear hO2 hO5 hb12 hb15 hb5 hNA hNB hHeld HC4
   have hna : NA ≤ 100 := HXA.out.1
   have hnb : NB ≤ 100 := HXA.out.2
   go_wp2_with fail
   go_loopg [8] NO (fun z v8 wr => ∃ v : Nat, v ≤ NO ∧ z = NO - v ∧ v8 = .int .i64 (v : Int) ∧ Hid (Below w15.heap.size w15 wr))
   case atStart => exact ⟨0, by omega, rfl, rfl, Below.refl _ _⟩
   case round =>
    obtain ⟨v, hv, rfl, rfl, HBR⟩ := hrel
    obtain ⟨⟨k0, k1, k2, k3, k4, k5, k6⟩, -⟩ := HC.out wr HBR.out
    by_cases hlt : v < NO
    ·-- L1{
     have HLTV := Lib.hid hlt
     go_wp2_with fail
     clear k0 k1 k2 k3 k4 k5 k6
     go_loopg [9] EX (fun z v9 wr => ∃ s : Nat, s ≤ EX ∧ z = EX - s ∧ v9 = .int .i64 (s : Int) ∧ Hid (Below w15.heap.size w15 wr))
     case atStart => exact ⟨0, by omega, rfl, rfl, HBR.out⟩
     case round =>
      clear HBR
      obtain ⟨s, hs, rfl, rfl, HBS⟩ := hrel
      obtain ⟨⟨k0, k1, k2, k3, k4, k5, k6⟩, -⟩ := HC.out wr HBS.out
      by_cases hls : s < EX
      ·-- L2{
       have HLS := Lib.hid hls
       obtain ⟨KN, KM, TX, hKN, hKM, hTX, hcase⟩ := HKEEP.out v s HLTV.out HLS.out
       have HCA := Lib.hid (fun W (hb : Below w2.heap.size w2 W) => HCO.out W hb v s KN KM false HLTV.out HLS.out hKN hKM)
       have HCB := Lib.hid (fun W (hb : Below w2.heap.size w2 W) => HCO.out W hb v s KN KM true HLTV.out HLS.out hKN hKM)
       have HLV := Lib.hid (fun W (hb : Below w2.heap.size w2 W) => HLK.out W hb v s TX HLTV.out HLS.out hTX)
       obtain ⟨SA, hSA⟩ : ∃ q : ByteArray, q = ⟨(conS r v s false KN KM).toArray⟩ := ⟨_, rfl⟩
       obtain ⟨SB, hSB⟩ : ∃ q : ByteArray, q = ⟨(conS r v s true KN KM).toArray⟩ := ⟨_, rfl⟩
       obtain ⟨EA, hEA⟩ : ∃ q : Int, q = conE r v s false KN KM := ⟨_, rfl⟩
       obtain ⟨EB, hEB⟩ : ∃ q : Int, q = conE r v s true KN KM := ⟨_, rfl⟩
       rw [← hSA, ← hEA] at HCA
       rw [← hSB, ← hEB] at HCB
       rw [← hSA, ← hSB, ← hEA, ← hEB] at hcase
       have HCASE := Lib.hid hcase
       clear hKN hKM hTX hcase hSA hSB hEA hEB
       go_upto_region 10 with fail
       obtain ⟨gk, hgk⟩ : ∃ q, q = wr.heap.size := ⟨_, rfl⟩
       obtain ⟨W9, hW9⟩ : ∃ x, x = wr.alloc (.cells #[.int .i64 (v : Int), .int .i64 (s : Int)] 74) := ⟨_, rfl⟩
       rw [← hW9, ← hgk]
       have hb9 : Below wr.heap.size wr W9 := by rw [hW9]; exact (Below.refl _ _).alloc (Nat.le_refl _) _
       have hk9 : W9.heap[gk]? = some (.cells #[.int .i64 (v : Int), .int .i64 (s : Int)] 74 (0, 0)) := by rw [hW9, hgk]; exact heap_alloc_new wr _
       have HKK := Lib.hid (fun (w' : World) (hb : Below W9.heap.size W9 w') => cells2 ((hb.block gk (Array.getElem?_eq_some_iff.1 hk9).1).trans hk9))
       have HB9 := Lib.hid (HBS.out.trans (hb9.mono HBS.out.size))
       clear hW9 hgk hb9 hk9 k0 k1 k2 k3 k4 k5 k6
       go_wp2_with fail
       go_loopg [11, 13] NA (fun z vf vi wr => ∃ t : Nat, t ≤ NA ∧ z = NA - t ∧ vf = .bool (decide ((v, s) ∈ KA.take t)) ∧ vi = .int .i64 (t : Int) ∧ Hid (Below W9.heap.size W9 wr))
       case atStart => exact ⟨0, by omega, rfl, by simp, rfl, Below.refl _ _⟩
       case round =>
        obtain ⟨t, ht, rfl, rfl, rfl, HBW⟩ := hrel
        by_cases hlt : t < NA
        ·-- L3{
         have htl : t < KA.length := by rw [← HNA.out]; exact hlt
         obtain ⟨b, off, cs5, hA5, -, -, hc, hcs⟩ := (HKEYA.out wr (HB9.out.trans (HBW.out.mono HB9.out.size))).at_ (k := t) htl
         subst hA5
         obtain ⟨c0, c1⟩ := two_ky hc hcs
         have htk : KA.take (t + 1) = KA.take t ++ [KA[t]] := List.take_succ_eq_append_getElem htl
         obtain ⟨⟨x1, x2⟩, hx⟩ : ∃ x, x = KA[t] := ⟨_, rfl⟩
         rw [← hx] at c0 c1 htk
         simp only at c0 c1
         obtain ⟨q0, q1⟩ := HKK.out wr HBW.out
         have i1 : (t : Int) < (NA : Int) := by omega
         have HTK := Lib.hid htk
         have HLT5 := Lib.hid hlt
         clear hc hcs htk hx htl
         by_cases hin : (v, s) ∈ KA.take t
         ·have h1 : decide ((v, s) ∈ KA.take t) = true := decide_eq_true hin
          have HIN5 := Lib.hid hin
          rw [h1]
          clear hin h1
          go_upto_region 14 with fail
          go_quiet (fail)
          go_wp2_with fail
          go_roundg (NA - (t + 1))
          case measure => have := HLT5.out; omega
          case rel => exact ⟨t + 1, by have := HLT5.out; omega, rfl, by rw [HTK.out, decide_eq_true (List.mem_append_left _ HIN5.out)], by go_num, Below.drewN' HBW.out nq⟩
         ·have h1 : decide ((v, s) ∈ KA.take t) = false := decide_eq_false hin
          rw [h1]
          have HIN5 := Lib.hid hin
          have hmem : decide ((v, s) ∈ KA.take t ++ [(x1, x2)]) = (decide (x1 = v) && decide (x2 = s)) := by
           rw [Bool.eq_iff_iff]
           simp [hin]
           constructor <;> (rintro ⟨a, b⟩; exact ⟨a.symm, b.symm⟩)
          have HMEM := Lib.hid hmem
          clear hin h1 hmem
          by_cases hq1 : x1 = v
          ·subst hq1
           by_cases hq2 : x2 = s
           ·subst hq2
            go_upto_region 14 with fail
            go_quiet (fail)
            go_wp2_with fail
            go_roundg (NA - (t + 1))
            case measure => have := HLT5.out; omega
            case rel => exact ⟨t + 1, by have := HLT5.out; omega, rfl, by rw [HTK.out, HMEM.out]; simp, by go_num, Below.drewN' HBW.out nq⟩
           ·have hb : ((x2 : Int) == (s : Int)) = false := by rw [beq_eq_false_iff_ne]; omega
            have HQ2 := Lib.hid (show decide (x2 = s) = false from decide_eq_false hq2)
            go_upto_region 14 with fail
            go_quiet (fail)
            go_wp2_with fail
            go_roundg (NA - (t + 1))
            case measure => have := HLT5.out; omega
            case rel => exact ⟨t + 1, by have := HLT5.out; omega, rfl, by rw [HTK.out, HMEM.out, HQ2.out]; simp, by go_num, Below.drewN' HBW.out nq⟩
          ·have hb : ((x1 : Int) == (v : Int)) = false := by rw [beq_eq_false_iff_ne]; omega
           have HQ1 := Lib.hid (show decide (x1 = v) = false from decide_eq_false hq1)
           go_upto_region 14 with fail
           go_quiet (fail)
           go_wp2_with fail
           go_roundg (NA - (t + 1))
           case measure => have := HLT5.out; omega
           case rel => exact ⟨t + 1, by have := HLT5.out; omega, rfl, by rw [HTK.out, HMEM.out, HQ1.out]; simp, by go_num, Below.drewN' HBW.out nq⟩
        ·obtain rfl : NA = t := by omega
         rw [show KA.take NA = KA from List.take_of_length_le (by rw [HNA.out]; exact Nat.le_refl _)]
         obtain ⟨ga, hga⟩ : ∃ q, q = decide ((v, s) ∈ KA) := ⟨_, rfl⟩
         have HGA := Lib.hid hga.symm
         rw [← hga]
         clear hga
         go_wp2_with fail
         go_loopg [12, 14] NB (fun z vf vi wr => ∃ t : Nat, t ≤ NB ∧ z = NB - t ∧ vf = .bool (decide ((v, s) ∈ KB.take t)) ∧ vi = .int .i64 (t : Int) ∧ Hid (Below W9.heap.size W9 wr))
         case atStart => exact ⟨0, by omega, rfl, by simp, rfl, HBW.out⟩
         case round =>
          clear HBW
          obtain ⟨t, ht, rfl, rfl, rfl, HBW⟩ := hrel
          by_cases hlt : t < NB
          ·-- L4{
           have htl : t < KB.length := by rw [← HNB.out]; exact hlt
           obtain ⟨b, off, cs5, hA5, -, -, hc, hcs⟩ := (HKEYB.out wr (HB9.out.trans (HBW.out.mono HB9.out.size))).at_ (k := t) htl
           subst hA5
           obtain ⟨c0, c1⟩ := two_ky hc hcs
           have htk : KB.take (t + 1) = KB.take t ++ [KB[t]] := List.take_succ_eq_append_getElem htl
           obtain ⟨⟨x1, x2⟩, hx⟩ : ∃ x, x = KB[t] := ⟨_, rfl⟩
           rw [← hx] at c0 c1 htk
           simp only at c0 c1
           obtain ⟨q0, q1⟩ := HKK.out wr HBW.out
           have i1 : (t : Int) < (NB : Int) := by omega
           have HTK := Lib.hid htk
           have HLT5 := Lib.hid hlt
           clear hc hcs htk hx htl
           by_cases hin : (v, s) ∈ KB.take t
           ·have h1 : decide ((v, s) ∈ KB.take t) = true := decide_eq_true hin
            have HIN5 := Lib.hid hin
            rw [h1]
            clear hin h1
            go_upto_region 18 with fail
            go_quiet (fail)
            go_wp2_with fail
            go_roundg (NB - (t + 1))
            case measure => have := HLT5.out; omega
            case rel => exact ⟨t + 1, by have := HLT5.out; omega, rfl, by rw [HTK.out, decide_eq_true (List.mem_append_left _ HIN5.out)], by go_num, Below.drewN' HBW.out nq⟩
           ·have h1 : decide ((v, s) ∈ KB.take t) = false := decide_eq_false hin
            rw [h1]
            have HIN5 := Lib.hid hin
            have hmem : decide ((v, s) ∈ KB.take t ++ [(x1, x2)]) = (decide (x1 = v) && decide (x2 = s)) := by
             rw [Bool.eq_iff_iff]
             simp [hin]
             constructor <;> (rintro ⟨a, b⟩; exact ⟨a.symm, b.symm⟩)
            have HMEM := Lib.hid hmem
            clear hin h1 hmem
            by_cases hq1 : x1 = v
            ·subst hq1
             by_cases hq2 : x2 = s
             ·subst hq2
              go_upto_region 18 with fail
              go_quiet (fail)
              go_wp2_with fail
              go_roundg (NB - (t + 1))
              case measure => have := HLT5.out; omega
              case rel => exact ⟨t + 1, by have := HLT5.out; omega, rfl, by rw [HTK.out, HMEM.out]; simp, by go_num, Below.drewN' HBW.out nq⟩
             ·have hb : ((x2 : Int) == (s : Int)) = false := by rw [beq_eq_false_iff_ne]; omega
              have HQ2 := Lib.hid (show decide (x2 = s) = false from decide_eq_false hq2)
              go_upto_region 18 with fail
              go_quiet (fail)
              go_wp2_with fail
              go_roundg (NB - (t + 1))
              case measure => have := HLT5.out; omega
              case rel => exact ⟨t + 1, by have := HLT5.out; omega, rfl, by rw [HTK.out, HMEM.out, HQ2.out]; simp, by go_num, Below.drewN' HBW.out nq⟩
            ·have hb : ((x1 : Int) == (v : Int)) = false := by rw [beq_eq_false_iff_ne]; omega
             have HQ1 := Lib.hid (show decide (x1 = v) = false from decide_eq_false hq1)
             go_upto_region 18 with fail
             go_quiet (fail)
             go_wp2_with fail
             go_roundg (NB - (t + 1))
             case measure => have := HLT5.out; omega
             case rel => exact ⟨t + 1, by have := HLT5.out; omega, rfl, by rw [HTK.out, HMEM.out, HQ1.out]; simp, by go_num, Below.drewN' HBW.out nq⟩
          ·obtain rfl : NB = t := by omega
           rw [show KB.take NB = KB from List.take_of_length_le (by rw [HNB.out]; exact Nat.le_refl _)]
           obtain ⟨gb, hgb⟩ : ∃ q, q = decide ((v, s) ∈ KB) := ⟨_, rfl⟩
           have HGB := Lib.hid hgb.symm
           rw [← hgb]
           clear hgb
           have HBX := Lib.hid (HB9.out.trans (HBW.out.mono HB9.out.size))
           obtain ⟨⟨k0, k1, k2, k3, k4, k5, k6⟩, z0, z1, z2, -⟩ := HC.out wr HBX.out
           go_wp2_with fail
           refine (HCA.out wr (HB25.out.trans (HBX.out.mono HB25.out.size))).mono ?_
           rintro e w10 ⟨rfl, hb10⟩
           have HB10 := Lib.hid (HBX.out.trans (hb10.mono HBX.out.size))
           have HKK2 := Lib.hid (fun (w' : World) (hb : Below w10.heap.size w10 w') => HKK.out w' (HBW.out.trans ((hb10.trans (hb.mono hb10.size)).mono HBW.out.size)))
           clear k0 k1 k2 k3 k4 k5 k6 z0 z1 z2 hb10
           obtain ⟨⟨k0, k1, k2, k3, k4, k5, k6⟩, z0, z1, z2, -⟩ := HC.out w10 HB10.out
           go_wp2_with fail
           refine (HCB.out w10 (HB25.out.trans (HB10.out.mono HB25.out.size))).mono ?_
           rintro e w11 ⟨rfl, hb11⟩
           have HB11 := Lib.hid (HB10.out.trans (hb11.mono HB10.out.size))
           obtain ⟨q0, q1⟩ := HKK2.out w11 hb11
           have hlk := HLV.out w11 (HB25.out.trans (HB11.out.mono HB25.out.size))
           clear k0 k1 k2 k3 k4 k5 k6 z0 z1 z2 hb11
           have hca := HCASE.out
           rw [HGA.out, HGB.out] at hca
           rcases hca with ⟨rfl, rfl, rfl, rfl⟩ | ⟨rfl, rfl, rfl, rfl, rfl⟩ | ⟨rfl, rfl, rfl, rfl, rfl, rfl⟩
           all_goals
            go_wp2_with fail
            go_roundg (EX - (s + 1))
            case measure => have := HLS.out; omega
            case rel => exact ⟨s + 1, by have := HLS.out; omega, rfl, by go_num, HB11.out⟩
      ·-- R2{
       obtain rfl : EX = s := by omega
       go_wp2_with fail
       go_roundg (NO - (v + 1))
       case measure => have := HLTV.out; omega
       case rel => exact ⟨v + 1, by have := HLTV.out; omega, rfl, by go_num, HBS.out⟩
    ·-- R1{
     obtain rfl : NO = v := by omega
     clear k0 k1 k2 k3 k4 k5
     go_wp2_with fail
     refine (HAW.out _).mono ?_
     rintro e w19 ⟨rfl, hb9⟩
     have HB9 := Lib.hid (HBF.out.trans ((HBR.out.trans (hb9.mono HBR.out.size)).mono HBF.out.size))
     clear hb9 k6
     go_wp2_with fail
     go_ret
     exact ⟨rfl, HB9.out⟩
  exact AllReadyT.nil
 exact AllReadyT.nil
end Go.Proofs.YtmehadfhcdpfcaaGreat

namespace Go.Proofs.YtmehadfhcdpfcaaGreat
open Go.RowKit Go.ChangeShapes Go.WideShapes Go.ChangeAt Go.Deep Go.Joins
set_option linter.unusedVariables false
set_option linter.unusedSimpArgs false
theorem wf_i64 {x : Int} (h : (Lit.int .i64 x).wf = true) : I64 x := by
 simpa [Lit.wf, IntKind.min, IntKind.max, IntKind.signed, IntKind.bits, I64] using h
section
variable {H : Type} {enc : TypeId × Value → H} {P : Program} {W : World}
theorem open_intS {t e : TypeId} {spare : Nat → Bool} {held : Bool} {base fuel : Nat} {v : Value} {x : DataW H × List MemPlace} (ht : P.underlying t = some (.slice e)) (he : P.underlying e = some (.int .i64)) (hc : P.cellsOf e = 1)
  (h : DataW.trod enc P W base spare held fuel t [v] = some x) : ∃ xs, IntS W (Bl W.heap.size) v xs := by
 rcases open_ints ht he hc h with ⟨hcs, _⟩ | ⟨a, len, cap, zs, hcs, _, hl, hm, hz, _, hcell, hwz⟩
 ·simp at hcs; subst hcs
  exact ⟨[], IntS.nil _ _ _⟩
 ·simp at hcs; subst hcs
  have hzl : len ≤ zs.length := by rw [hz]; split <;> omega
  have hxl : (zs.take len).length = len := by rw [List.length_take]; omega
  refine ⟨zs.take len, ⟨some a, cap, by rw [hxl], by rw [hxl]; exact hl, by rw [hxl]; omega, fun hn => ?_⟩, fun y hy => wf_i64 (hwz y (List.mem_of_mem_take hy))⟩
  rw [hxl] at hn
  obtain ⟨b, off, spot⟩ := a
  have g0 := hcell 0 (by omega)
  have hspot : spot = none := by simpa [Addr.add] using World.cell?_spot g0
  subst hspot
  have hb := block_lt_of_cell g0
  refine ⟨b, off, rfl, by simpa [Addr.add, Bl] using hb, fun k y hk => ?_⟩
  have hkl : k < (zs.take len).length := (List.getElem?_eq_some_iff.1 hk).1
  rw [hxl] at hkl
  have g := hcell k (by omega)
  have e1 : (⟨b, off, none⟩ : Addr).add k = ⟨b, off + k, none⟩ := by unfold Addr.add; split <;> simp_all
  rw [e1] at g
  rw [g]
  rw [List.getElem?_take_of_lt hkl] at hk
  rw [List.getD, hk]; rfl
end
end Go.Proofs.YtmehadfhcdpfcaaGreat

namespace Go.Proofs.YtmehadfhcdpfcaaGreat
open Go.RowKit Go.ChangeShapes Go.WideShapes Go.ChangeAt Go.Deep Go.Joins
set_option linter.unusedVariables false
set_option linter.unusedSimpArgs false
section
variable {H : Type} {enc : TypeId × Value → H} {P : Program} {W : World}
end
end Go.Proofs.YtmehadfhcdpfcaaGreat

namespace Go.Proofs.YtmehadfhcdpfcaaGreat.lawKeeps
open Go.ChangeShapes Go.WideShapes Go.ChangeAt Go.RowKit
set_option linter.unusedVariables false
theorem own : ownKnob Tryz.prog.godebug = none := by kernel_rfl
theorem laidOut : laidOutB Tryz.prog = true := by kernel_rfl
set_option maxRecDepth 100000 in
theorem lifted (os : Os) (started : os.Started) (H : Type) (enc : TypeId × Value → H) :
  ReturnsInHanded {} Tryz.checked os 8 .any (Rows.truthKeepsSpec.pre6 enc Tryz.prog Tryz.f8 Rows.truthKeepsRow.domain false) (Rows.truthKeepsSpec.post enc Tryz.prog Tryz.f8 false true false false) := by
 refine returnsInHanded_of_change (C := Tryz.checked) own started (by kernel_rfl) Tryz.func8
  (ChangeSpec.witness6 (enc := enc) (C := Tryz.checked) false ⟨#[], #[.slice none 0 0], []⟩ 8 (by kernel_rfl) (by kernel_rfl) (by kernel_rfl) (by kernel_rfl)) ?_
 intro W base args ds gs before hval0 hW hcnd _
 have hval : ∀ (j : Nat) t v, Tryz.f8.params[j]? = some t → args[j]? = some v → Value.okWide Tryz.prog W .any base t v := hval0
 have hW' := hW
 obtain ⟨p, q, hA0, hV, rfl, hfz, hnd⟩ := hW
 have hA : DataW.TrodAll enc Tryz.prog W 0 (fun _ => true) true Tryz.f8.params.toList args.toList ds p := hA0
 rw [Tryz.params8] at hA hval
 obtain ⟨v0, vs0, d0, ds0, p0, q0, hargs, rfl, rfl, h0, r0⟩ := trodAll_cons hA
 obtain ⟨rfl, rfl, rfl⟩ := trodAll_nil r0
 obtain rfl : args = #[v0] := by cases args; simp_all
 obtain ⟨rfl, rfl⟩ := trodVars_none hV
 have k0 := h0
 have lt0 : ∀ x ∈ p0, x.block < W.heap.size := by obtain ⟨m, hm⟩ := k0; exact DataW.trod_lt m _ _ _ hm
 obtain ⟨a0, len0, cap0, rfl⟩ := okWide_slice Tryz.underlying22 (hval 0 22 v0 rfl rfl)
 obtain ⟨xs, h_xs⟩ : ∃ xs, IntS W (Bl W.heap.size) (.slice a0 len0 cap0) xs := by
  obtain ⟨fuel, hf⟩ := h0
  exact open_intS Tryz.underlying22 Tryz.underlying3 (by kernel_rfl) hf
 clear hA0 hval0
 refine (tkeeps_any made_any _ xs W h_xs).mono fun e W' ⟨he, bel⟩ => ?_
 subst he
 exact ⟨_, rfl, _, _, _, [], _, [], hW', trodAll_mk1 (shut_bool Tryz.underlying4 _), (trodAll_cons_mk (Below.trod laidOut (by kernel_rfl) (of_decide_eq_true (by kernel_rfl)) k0 bel lt0) trodAll_mk0), rfl, bel.frame _, fun h => by cases h⟩
theorem over : Rows.truthKeepsRow.holds Tryz.pinned (OpenSpec.ofChange Rows.truthKeepsSpec) :=
 OpenClaim.holds_of_wide 8 Tryz.f8 rfl rfl rfl rfl rfl rfl rfl ⟨rfl, rfl, rfl, rfl, rfl⟩ rfl rfl rfl rfl rfl (by kernel_rfl) Tryz.func8 (by kernel_rfl)
  (of_decide_eq_true (by kernel_rfl)) (by unfold Func.isWrapper; first | (rw [if_pos (by decide +kernel)]; kernel_rfl) | (rw [if_neg (by decide +kernel)]; exact ⟨rfl, rfl⟩))
  (fun os started H enc _ => lifted os started H enc)
theorem proved : Rows.TruthKeepsSaid := over
#print axioms proved
end Go.Proofs.YtmehadfhcdpfcaaGreat.lawKeeps
